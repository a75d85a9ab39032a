/- WHAT IS PROVED: DiropRenames, its tied card, in the first form (for every input). Conditions: none of its own; the card's listed variables are the given tie's. -/
import Derived.Test.YtoimajdjjbdhlaaGreatDoorZRE
import Derived.Deep.Slices
import Derived.ChangeArms
import Derived.Test.YtoimajdjjbdhlaaGreatDoorRows
import Derived.WalkKit
import Derived.ProofKit
import Derived.OpenShut
import Derived.LaidMore
import Derived.Lay
import Derived.SevenTiedAt
import Derived.Stop.Joined
import Derived.Test.YtoimajdjjbdhlaaGreatDoorCards
import Derived.Test.YtoimajdjjbdhlaaGreatDoorTie
import Derived.JoinedOf
set_option linter.unusedSectionVars false
set_option linter.unusedSimpArgs false
set_option linter.unusedVariables false
namespace Go.Sl
variable [Ghost]
open Go Go.Mo Go.Proofs
attribute [local irreducible] snil sfa sext sfield sguard sun sbin slen sload sstore snew snewObj sbuildR sbuildSlR smakeMapR smakeSlR slookup smapset srangeMap snext sentry scall scallv sextern sbuiltin sidx sindex sslice sconv srangeX sarg sand sjoin0 sjoin1 sjoin2 sloop0 sloop1 sloop2
def I64 (n : Int) : Prop := -(2 ^ 63) ≤ n ∧ n < 2 ^ 63
def smallI (n m : Int) : Int := (if n < 0 then -(n + 1) else n) % m
theorem smallI_lt {n m : Int} (hm : 0 < m) : 0 ≤ smallI n m ∧ smallI n m < m := ⟨Int.emod_nonneg _ (by omega), Int.emod_lt_of_pos _ hm⟩
theorem wrap_in {x : Int} (h1 : -(2 ^ 63) ≤ x) (h2 : x < 2 ^ 63) : IntKind.i64.wrap x = x := IntWalk.i64_in x (by omega)
structure Act where
  kind : Int
  dir : Int
  to : Int
  n : Int
  s : Str
  as' : Str
  st : Stt
  at' : Plc
abbrev actC (y : Act) : Array Value := #[vi y.kind, vi y.dir, vi y.to, vi y.n, vstr' y.s, vstr' y.as', vi y.st.node, vi y.st.kind, vi y.st.mode, vi y.st.uid, vi y.st.gid, vi y.st.links, vi y.st.size, vi y.at'.mount, vi y.at'.node]
abbrev actV (y : Act) : Value := .agg (actC y)
structure ActOk (a : Act) : Prop where
  kind : I64 a.kind
  dir : I64 a.dir
  to : I64 a.to
  n : I64 a.n
  s : a.s.length < 2 ^ 63
  as' : a.as'.length < 2 ^ 63
  skind : I64 a.st.kind
  uid : I64 a.st.uid
  gid : I64 a.st.gid
  mount : I64 a.at'.mount
  node : I64 a.at'.node
section
variable {l : St} {R : Value → SP} {n m : Int}
theorem r_join0I {A : SP} {B : (List Value → SP) → SP} (J : List Value → SP) (h1 : ∀ σ, J [] σ → A σ) (h2 : B J l) : sjoin0 A B l := by
  unfold sjoin0; exact ⟨J, h1, h2⟩
theorem r_join1I {A : Value → SP} {B : (List Value → SP) → SP} (J : List Value → SP) (h1 : ∀ x σ, J [x] σ → A x σ) (h2 : B J l) : sjoin1 A B l := by
  unfold sjoin1; exact ⟨J, h1, h2⟩
theorem r_neg {a : Int} {k : Value → SP} (h : k (vi (IntKind.i64.wrap (0 - a))) l) : sun .neg (vi a) k l := by
  unfold sun; exact h
theorem small_ok (hn : I64 n) (hm : 0 < m) (hm2 : m ≤ 1000) (h : R (vi (smallI n m)) l) : scall Tryz.prog 49 #[vi n, vi m] R l := by
  obtain ⟨h1, h2⟩ := hn
  have hb := smallI_lt (n := n) hm
  have fin : ∀ k : Int, 0 ≤ k → k = (if n < 0 then -(n + 1) else n) → sbin Tryz.prog .none 3 .rem (vi k) (vi m) R l := fun k hk he => by
    refine r_bin (v := vi (smallI n m)) ?_ h
    have e1 : k.tmod m = smallI n m := by rw [Int.tmod_eq_emod_of_nonneg hk, he]; rfl
    simp [vbin, vint, show ¬ m = 0 by omega, e1]
  refine S49_ok ?_
  unfold S49
  refine r_join1 ?_
  refine r_bin (by rfl) ?_
  refine r_guard_d (fun hg => ?_) (fun hg => ?_)
  · refine r_bin (by rfl) ?_
    have hg : n < 0 := hg
    rw [wrap_in (x := n + 1) (by omega) (by omega)]
    refine r_neg ?_
    rw [wrap_in (by omega) (by omega)]
    exact fin _ (by omega) (by rw [if_pos hg]; omega)
  · have hg : ¬ n < 0 := hg
    exact fin _ (by omega) (by rw [if_neg hg])
theorem small_nat (n : Int) {k : Nat} (hk : 0 < k) : ∃ i : Nat, smallI n k = i ∧ i < k := by
  have := smallI_lt (n := n) (m := k) (by omega)
  exact ⟨(smallI n k).toNat, by omega, by omega⟩
theorem size_i64 {s : Str} (h : s.length < 2 ^ 63) : I64 ((bs s).size : Int) := by
  have : (bs s).size = s.length := by simp [bs, ByteArray.size]
  rw [this]; unfold I64; omega
theorem r_text {b : Nat} {row : List Str} {i : Nat} {ty : TypeId} {k : Value → SP} (hk : Knows l b (.cells (row.map fun s => vstr' s).toArray ty)) (hi : i < row.length) (h : ∀ s, s ∈ row → k (vstr' s) l) :
    sidx none 1 (.slice (some ⟨b, 0, none⟩) row.length row.length) (vi (i : Int)) (fun p => sload none p k) l := by
  refine r_elem1 (n := row.length) (xs := row.map fun s => vstr' s) (x := vstr' row[i]) ⟨by simp, ⟨_, _, rfl⟩, .inr ⟨b, 0, _, _, ty, _, rfl, hk, ?_⟩⟩ ?_ (h _ (List.getElem_mem hi))
  · have := takeAt_append (row.map fun s => vstr' s) []
    simpa using this
  · simp [List.getElem?_eq_getElem hi]
abbrev names4 : List Str := [[97], [98], [99], [108]]
abbrev texts10 : List Str := [[97], [46, 46, 47, 98], [47, 97, 47, 98], [108], [46], [97, 47], [47], [], [120, 47, 121], [46, 46, 47, 46, 46, 47, 97, 47, 108]]
theorem names_short {s : Str} (h : s ∈ names4) : s.length ≤ 20 := by
  have : ∀ s ∈ names4, s.length ≤ 20 := by decide
  exact this s h
theorem texts_short {s : Str} (h : s ∈ texts10) : s.length ≤ 20 := by
  have : ∀ s ∈ texts10, s.length ≤ 20 := by decide
  exact this s h
theorem tame_ok {a : Act} (ok : ActOk a) (h : ∀ y : Act, y.s.length ≤ 20 → y.as'.length ≤ 20 → R (actV y) l) : scall Tryz.prog 11 #[actV a] R l := by
  refine scall_post (S11_ok ?_)
  unfold S11
  refine r_new fun b1 => ?_
  refine r_new fun b2 => ?_
  refine r_buildSl (ds := names4.map fun s => vstr' s) rfl (by omega) (by rfl) (fun e => ?_)
  (repeat' (first | refine z0 ?_ | refine z1 ?_ | refine z2 ?_ | refine z3 ?_ | refine z4 ?_ | refine z5 ?_ | refine z6 ?_ | refine z7 (fun hg => ?_) (fun hg => ?_) | refine z8 (fun hg => ?_) (fun hg => ?_) | refine z9 ?_ | refine za ?_ | refine zb ?_ | refine zc ?_ | refine zd ?_ | refine ze ?_ | refine zf ?_ | refine zg ?_ | refine zh ?_ | refine zi (fun _ => ?_) | refine zj (fun _ => ?_) | refine zk ?_ | refine zl ?_ ?_ | refine zm ?_ | refine zn ?_ | refine zo ?_ | exact (rfl : _ = _)))
  refine small_ok ok.kind (by decide) (by decide) ?_
  (repeat' (first | refine z0 ?_ | refine z1 ?_ | refine z2 ?_ | refine z3 ?_ | refine z4 ?_ | refine z5 ?_ | refine z6 ?_ | refine z7 (fun hg => ?_) (fun hg => ?_) | refine z8 (fun hg => ?_) (fun hg => ?_) | refine z9 ?_ | refine za ?_ | refine zb ?_ | refine zc ?_ | refine zd ?_ | refine ze ?_ | refine zf ?_ | refine zg ?_ | refine zh ?_ | refine zi (fun _ => ?_) | refine zj (fun _ => ?_) | refine zk ?_ | refine zl ?_ ?_ | refine zm ?_ | refine zn ?_ | refine zo ?_ | exact (rfl : _ = _)))
  refine small_ok ok.dir (by decide) (by decide) ?_
  (repeat' (first | refine z0 ?_ | refine z1 ?_ | refine z2 ?_ | refine z3 ?_ | refine z4 ?_ | refine z5 ?_ | refine z6 ?_ | refine z7 (fun hg => ?_) (fun hg => ?_) | refine z8 (fun hg => ?_) (fun hg => ?_) | refine z9 ?_ | refine za ?_ | refine zb ?_ | refine zc ?_ | refine zd ?_ | refine ze ?_ | refine zf ?_ | refine zg ?_ | refine zh ?_ | refine zi (fun _ => ?_) | refine zj (fun _ => ?_) | refine zk ?_ | refine zl ?_ ?_ | refine zm ?_ | refine zn ?_ | refine zo ?_ | exact (rfl : _ = _)))
  refine small_ok ok.to (by decide) (by decide) ?_
  (repeat' (first | refine z0 ?_ | refine z1 ?_ | refine z2 ?_ | refine z3 ?_ | refine z4 ?_ | refine z5 ?_ | refine z6 ?_ | refine z7 (fun hg => ?_) (fun hg => ?_) | refine z8 (fun hg => ?_) (fun hg => ?_) | refine z9 ?_ | refine za ?_ | refine zb ?_ | refine zc ?_ | refine zd ?_ | refine ze ?_ | refine zf ?_ | refine zg ?_ | refine zh ?_ | refine zi (fun _ => ?_) | refine zj (fun _ => ?_) | refine zk ?_ | refine zl ?_ ?_ | refine zm ?_ | refine zn ?_ | refine zo ?_ | exact (rfl : _ = _)))
  refine small_ok (size_i64 ok.s) (by decide) (by decide) ?_
  obtain ⟨i, hi, hi4⟩ := small_nat ((bs a.s).size : Int) (k := 4) (by decide)
  have hi : smallI ((bs a.s).size : Int) 4 = i := hi
  rw [hi]
  refine r_text (row := names4) (knows_pt _ _ _) hi4 (fun s hs => ?_)
  (repeat' (first | refine z0 ?_ | refine z1 ?_ | refine z2 ?_ | refine z3 ?_ | refine z4 ?_ | refine z5 ?_ | refine z6 ?_ | refine z7 (fun hg => ?_) (fun hg => ?_) | refine z8 (fun hg => ?_) (fun hg => ?_) | refine z9 ?_ | refine za ?_ | refine zb ?_ | refine zc ?_ | refine zd ?_ | refine ze ?_ | refine zf ?_ | refine zg ?_ | refine zh ?_ | refine zi (fun _ => ?_) | refine zj (fun _ => ?_) | refine zk ?_ | refine zl ?_ ?_ | refine zm ?_ | refine zn ?_ | refine zo ?_ | exact (rfl : _ = _)))
  refine r_buildSl (ds := texts10.map fun s => vstr' s) rfl (by omega) (by rfl) (fun e2 => ?_)
  (repeat' (first | refine z0 ?_ | refine z1 ?_ | refine z2 ?_ | refine z3 ?_ | refine z4 ?_ | refine z5 ?_ | refine z6 ?_ | refine z7 (fun hg => ?_) (fun hg => ?_) | refine z8 (fun hg => ?_) (fun hg => ?_) | refine z9 ?_ | refine za ?_ | refine zb ?_ | refine zc ?_ | refine zd ?_ | refine ze ?_ | refine zf ?_ | refine zg ?_ | refine zh ?_ | refine zi (fun _ => ?_) | refine zj (fun _ => ?_) | refine zk ?_ | refine zl ?_ ?_ | refine zm ?_ | refine zn ?_ | refine zo ?_ | exact (rfl : _ = _)))
  refine small_ok (size_i64 ok.as') (by decide) (by decide) ?_
  obtain ⟨j, hj, hj4⟩ := small_nat ((bs a.as').size : Int) (k := 4) (by decide)
  have hj : smallI ((bs a.as').size : Int) 4 = j := hj
  rw [hj]
  refine r_text (row := names4) (knows_there _ (knows_pt _ _ _)) hj4 (fun s2 hs2 => ?_)
  refine r_fa ?_
  refine r_store (by exact kn) (by rfl) (by rfl) (by rfl) (by rfl) (by exact chg) ?_
  obtain ⟨tl, htl⟩ : ∃ tl : St → St, tl = fun m => pt e2 (Obj.cells (List.map (fun s => vstr' s) texts10).toArray 9) :: pt e (Obj.cells (List.map (fun s => vstr' s) names4).toArray 9) :: pt b2 (.cells #[vi 0, vi 0, vi 0, vi 0, vstr' [], vstr' [], vi 0, vi 0, vi 0, vi 0, vi 0, vi 0, vi 0, vi 0, vi 0] 44) :: m := ⟨_, rfl⟩
  refine r_join0I (fun _ σ => ∃ y : Act, y.s.length ≤ 20 ∧ y.as'.length ≤ 20 ∧ y.at' = a.at' ∧ y.n = a.n ∧ σ = tl (pt b1 (.cells (actC y) 44) :: l)) ?_ ?_
  · rintro σ ⟨y, y1, y2, y3, y4, rfl⟩
    subst htl
    have fin : ∀ z : Act, z.s.length ≤ 20 → z.as'.length ≤ 20 → (fun v l' => ∃ l2, Ent l' l2 ∧ R v l2) (actV z) (pt e2 (Obj.cells (List.map (fun s => vstr' s) texts10).toArray 9) :: pt e (Obj.cells (List.map (fun s => vstr' s) names4).toArray 9) :: pt b2 (.cells (actC z) 44) :: pt b1 (.cells (actC z) 44) :: l) := fun z h1 h2 => ⟨l, by exact drp, h z h1 h2⟩
    refine r_fa ?_
    refine r_fa ?_
    refine r_load1 (x := vi y.at'.mount) (by exact kn) (by rfl) ?_
    refine r_fa ?_
    refine r_fa ?_
    refine r_load1 (x := vi y.at'.node) (by exact kn) (by rfl) ?_
    refine small_ok (by rw [y3]; exact ok.mount) (by decide) (by decide) ?_
    refine r_and (r_load1 (x := vi y.at'.node) (by exact kn) (by rfl) rfl) ?_
    refine small_ok (by rw [y3]; exact ok.node) (by decide) (by decide) ?_
    refine r_bin (by rfl) ?_
    refine r_build (by rfl) ?_
    refine r_fa ?_
    refine r_store (by exact kn) (by rfl) (by rfl) (by rfl) (by rfl) (by exact chg) ?_
    refine r_join0 ?_
    refine r_fa ?_
    refine r_load1 (x := vi y.kind) (by exact kn) (by rfl) ?_
    refine r_bin (v := .bool (y.kind == 7)) (by rfl) ?_
    refine r_guard (fun _ => ?_) (fun _ => ?_)
    · refine r_fa ?_
      refine r_load1 (x := vi y.n) (by exact kn) (by rfl) ?_
      refine small_ok (by rw [y4]; exact ok.n) (by decide) (by decide) ?_
      refine r_fa ?_
      refine r_store (by exact kn) (by rfl) (by rfl) (by rfl) (by rfl) (by exact chg) ?_
      refine r_loadn (ys := (actC { y with n := smallI y.n 5, at' := ⟨smallI y.at'.mount 3, IntKind.i64.wrap (1 + smallI y.at'.node 7)⟩ }).toList) (by exact kn) (by rfl) ?_
      refine r_store (by exact kn) (by rfl) (by rfl) (by rfl) (by rfl) (by exact chg) ?_
      refine r_loadn (ys := (actC { y with n := smallI y.n 5, at' := ⟨smallI y.at'.mount 3, IntKind.i64.wrap (1 + smallI y.at'.node 7)⟩ }).toList) (by exact kn) (by rfl) ?_
      exact fin { y with n := smallI y.n 5, at' := ⟨smallI y.at'.mount 3, IntKind.i64.wrap (1 + smallI y.at'.node 7)⟩ } y1 y2
    · refine r_loadn (ys := (actC { y with at' := ⟨smallI y.at'.mount 3, IntKind.i64.wrap (1 + smallI y.at'.node 7)⟩ }).toList) (by exact kn) (by rfl) ?_
      refine r_store (by exact kn) (by rfl) (by rfl) (by rfl) (by rfl) (by exact chg) ?_
      refine r_loadn (ys := (actC { y with at' := ⟨smallI y.at'.mount 3, IntKind.i64.wrap (1 + smallI y.at'.node 7)⟩ }).toList) (by exact kn) (by rfl) ?_
      exact fin { y with at' := ⟨smallI y.at'.mount 3, IntKind.i64.wrap (1 + smallI y.at'.node 7)⟩ } y1 y2
  · refine r_fa ?_
    refine r_load1 (by exact kn) (by rfl) ?_
    refine r_bin (v := .bool (IntKind.i64.wrap (1 + smallI a.kind 8) == 1)) (by rfl) ?_
    refine r_guard (fun _ => ?_) (fun _ => ?_)
    rotate_left
    · exact ⟨{ a with kind := IntKind.i64.wrap (1 + smallI a.kind 8), dir := IntKind.i64.wrap (1 + smallI a.dir 7), to := IntKind.i64.wrap (1 + smallI a.to 7), s := s, as' := s2 }, names_short hs, names_short hs2, rfl, rfl, by subst htl; rfl⟩
    refine r_fa ?_
    refine r_fa ?_
    refine r_load1 (x := vi a.st.kind) (by exact kn) (by rfl) ?_
    refine small_ok ok.skind (by decide) (by decide) ?_
    refine r_bin (by rfl) ?_
    refine r_fa ?_
    refine r_fa ?_
    refine r_store (by exact kn) (by rfl) (by rfl) (by rfl) (by rfl) (by exact chg) ?_
    refine r_fa ?_
    refine r_store (by exact kn) (by rfl) (by rfl) (by rfl) (by rfl) (by exact chg) ?_
    obtain ⟨K, hK⟩ : ∃ K : Act, K = { a with kind := IntKind.i64.wrap (1 + smallI a.kind 8), dir := IntKind.i64.wrap (1 + smallI a.dir 7), to := IntKind.i64.wrap (1 + smallI a.to 7), s := s, as' := [], st := { a.st with kind := IntKind.i64.wrap (1 + smallI a.st.kind 3) } } := ⟨_, rfl⟩
    have hKu : I64 K.st.uid := by rw [hK]; exact ok.uid
    have hKg : I64 K.st.gid := by rw [hK]; exact ok.gid
    have hKs : K.s.length ≤ 20 := by rw [hK]; exact names_short hs
    have hKa : K.at' = a.at' := by rw [hK]
    have hKn : K.n = a.n := by rw [hK]
    refine r_join0I (fun _ σ => ∃ t : Str, t.length ≤ 20 ∧ σ = tl (pt b1 (.cells (actC { K with as' := t }) 44) :: l)) ?_ ?_
    · rintro σ ⟨t, ht, rfl⟩
      have fin : ∀ z : Act, z.as' = t → z.s = K.s → z.at' = K.at' → z.n = K.n → (∃ y : Act, y.s.length ≤ 20 ∧ y.as'.length ≤ 20 ∧ y.at' = a.at' ∧ y.n = a.n ∧ tl (pt b1 (.cells (actC z) 44) :: l) = tl (pt b1 (.cells (actC y) 44) :: l)) := fun z h1 h2 h3 h4 => ⟨z, by rw [h2]; exact hKs, by rw [h1]; exact ht, by rw [h3]; exact hKa, by rw [h4]; exact hKn, rfl⟩
      subst htl
      refine r_join0I (fun _ σ => ∃ m : Int, σ = pt e2 (Obj.cells (List.map (fun s => vstr' s) texts10).toArray 9) :: pt e (Obj.cells (List.map (fun s => vstr' s) names4).toArray 9) :: pt b2 (.cells #[vi 0, vi 0, vi 0, vi 0, vstr' [], vstr' [], vi 0, vi 0, vi 0, vi 0, vi 0, vi 0, vi 0, vi 0, vi 0] 44) :: pt b1 (.cells (actC { K with as' := t, st := { K.st with mode := m } }) 44) :: l) ?_ ?_
      · rintro σ ⟨m, rfl⟩
        refine r_fa ?_
        refine r_fa ?_
        refine r_load1 (x := vi K.st.uid) (by exact kn) (by rfl) ?_
        refine small_ok hKu (by decide) (by decide) ?_
        refine r_fa ?_
        refine r_fa ?_
        refine r_store (by exact kn) (by rfl) (by rfl) (by rfl) (by rfl) (by exact chg) ?_
        refine r_fa ?_
        refine r_fa ?_
        refine r_load1 (x := vi K.st.gid) (by exact kn) (by rfl) ?_
        refine small_ok hKg (by decide) (by decide) ?_
        refine r_fa ?_
        refine r_fa ?_
        refine r_store (by exact kn) (by rfl) (by rfl) (by rfl) (by rfl) (by exact chg) ?_
        exact fin { K with as' := t, st := { K.st with mode := m, uid := smallI K.st.uid 3, gid := smallI K.st.gid 3 } } rfl rfl rfl rfl
      · refine r_fa ?_
        refine r_fa ?_
        refine r_load1 (x := vi K.st.mode) (by exact kn) (by rfl) ?_
        refine r_bin (by rfl) ?_
        refine r_bin (v := .bool (K.st.mode.tmod 4 != 0)) (by rfl) ?_
        refine r_guard (fun _ => ?_) (fun _ => ?_)
        · refine r_fa ?_
          refine r_fa ?_
          refine r_store (by exact kn) (by rfl) (by rfl) (by rfl) (by rfl) (by exact chg) ?_
          exact ⟨493, rfl⟩
        · exact ⟨K.st.mode, rfl⟩
    · refine r_fa ?_
      refine r_fa ?_
      refine r_load1 (by exact kn) (by rfl) ?_
      refine r_bin (v := .bool (IntKind.i64.wrap (1 + smallI a.st.kind 3) == 3)) (by rfl) ?_
      refine r_guard (fun _ => ?_) (fun _ => ?_)
      rotate_left
      · exact ⟨[], by simp, by rw [hK, htl]; rfl⟩
      refine small_ok (size_i64 ok.as') (by decide) (by decide) ?_
      obtain ⟨q, hq, hq4⟩ := small_nat ((bs a.as').size : Int) (k := 10) (by decide)
      have hq : smallI ((bs a.as').size : Int) 10 = q := hq
      rw [hq]
      refine r_text (row := texts10) (knows_pt _ _ _) hq4 (fun t ht => ?_)
      refine r_fa ?_
      refine r_store (by exact kn) (by rfl) (by rfl) (by rfl) (by rfl) (by exact chg) ?_
      exact ⟨t, texts_short ht, by rw [hK, htl]; rfl⟩
end
end Go.Sl
namespace Go.Sl
variable [Ghost]
open Go Go.Mo Go.Proofs
attribute [local irreducible] snil sfa sext sfield sguard sun sbin slen sload sstore snew snewObj sbuildR sbuildSlR smakeMapR smakeSlR slookup smapset srangeMap snext sentry scall scallv sextern sbuiltin sidx sindex sslice sconv srangeX sarg sand sjoin0 sjoin1 sjoin2 sloop0 sloop1 sloop2
abbrev parts9 : List Str := [[97], [98], [99], [108], [46, 46], [46], [47], [47, 47], [122, 122]]
theorem parts_short {s : Str} (h : s ∈ parts9) : s ≠ [] ∧ s.length ≤ 2 := by
  have : ∀ s ∈ parts9, s ≠ [] ∧ s.length ≤ 2 := by decide
  exact this s h
section
variable {l : St} {R : Value → SP} {n : Nat} {v : Value} {xs : List Int}
theorem path_ok (hs : SlAt l 1 v xs.length (xs.map vi)) (hx : ∀ x ∈ xs, I64 x) (h : ∀ s : Str, s.length ≤ 100 → R (vstr' s) l) : scall Tryz.prog 12 #[v] R l := by
  refine scall_post (S12_ok ?_)
  unfold S12
  refine r_buildSl (ds := parts9.map fun s => vstr' s) rfl (by omega) (by rfl) (fun e => ?_)
  refine r_loop2 (fun k u w σ => ∃ (s : Str) (i : Nat), σ = pt e (.cells (parts9.map fun s => vstr' s).toArray 9) :: l ∧ u = vstr' s ∧ w = vi i ∧ s.length ≤ 3 * i ∧ i ≤ 12 ∧ (0 < i → s ≠ []) ∧ k = 12 - i) 12 ⟨[], 0, rfl, rfl, rfl, by simp, by omega, by omega, rfl⟩ ?_
  rintro k u w σ ⟨s, i, rfl, rfl, rfl, hsl, hi, hne, rfl⟩
  have hup := hs.there (pt e (.cells (parts9.map fun s => vstr' s).toArray 9))
  have fin : (fun v l' => ∃ l2, Ent l' l2 ∧ R v l2) (vstr' s) (pt e (.cells (parts9.map fun s => vstr' s).toArray 9) :: l) := ⟨l, Ent.drop _ _, h s (by omega)⟩
  refine r_join1 ?_
  refine r_slen hup ?_
  refine r_bin (by rfl) ?_
  refine r_guard_d (fun hg => ?_) (fun hg => ?_)
  rotate_left
  · refine r_guard_f ?_
    exact fin
  refine r_bin (by rfl) ?_
  refine r_guard_d (fun hg2 => ?_) (fun hg2 => ?_)
  rotate_left
  · exact fin
  have hlt : i < xs.length := by omega
  have hi12 : i < 12 := by omega
  refine r_elem1 (x := vi xs[i]) hup (by simp [List.getElem?_eq_getElem hlt]) ?_
  refine small_ok (hx _ (List.getElem_mem hlt)) (by decide) (by decide) ?_
  obtain ⟨j, hj, hj9⟩ := small_nat xs[i] (k := 9) (by decide)
  have hj : smallI xs[i] 9 = j := hj
  rw [hj]
  refine r_text (row := parts9) (knows_pt _ _ _) hj9 (fun p hp => ?_)
  obtain ⟨hp1, hp2⟩ := parts_short hp
  have hw : IntKind.i64.wrap ((i : Int) + 1) = ((i + 1 : Nat) : Int) := by rw [wrap_in (by omega) (by omega)]; simp
  have next : ∀ q : Str, q.length ≤ s.length + 1 → sbin Tryz.prog .none 9 .add (vstr' q) (vstr' p) (fun v45 => sbin Tryz.prog .none 3 .add (vi i) (.int .i64 1) fun v17 => (fun vs σ' => ∃ k', k' < 12 - i ∧ (match vs with
        | [x0, x1] => (fun u w σ => ∃ (s : Str) (i : Nat), σ = pt e (.cells (parts9.map fun s => vstr' s).toArray 9) :: l ∧ u = vstr' s ∧ w = vi i ∧ s.length ≤ 3 * i ∧ i ≤ 12 ∧ (0 < i → s ≠ []) ∧ k' = 12 - i) x0 x1
        | _ => fun _ => False) σ') [v45, v17]) (pt e (.cells (parts9.map fun s => vstr' s).toArray 9) :: l) := fun q hq => by
    refine r_addstr (by simp only [List.length_append]; omega) ?_
    refine r_bin (by rfl) ?_
    rw [hw]
    refine ⟨12 - (i + 1), by omega, q ++ p, i + 1, rfl, rfl, rfl, ?_, by omega, fun _ => ?_, rfl⟩
    · simp only [List.length_append]; omega
    · intro e0
      exact hp1 (List.append_eq_nil_iff.1 e0).2
  refine r_join1 ?_
  refine r_join1 ?_
  refine r_bin (by rfl) ?_
  refine r_guard_d (fun hg3 => ?_) (fun hg3 => ?_)
  rotate_left
  · refine r_guard_f ?_
    exact next s (by omega)
  obtain ⟨b0, p', rfl⟩ : ∃ b0 p', p = b0 :: p' := by
    cases p with
    | nil => exact absurd rfl hp1
    | cons b0 p' => exact ⟨b0, p', rfl⟩
  refine r_byte (i := 0) (b := b0) rfl ?_
  refine r_bin (v := .bool ((b0.toNat : Int) != 47)) (by rfl) ?_
  refine r_guard (fun _ => ?_) (fun _ => ?_)
  rotate_left
  · refine r_guard_f ?_
    exact next s (by omega)
  refine r_len_str ?_
  refine r_bin (by rfl) ?_
  have hs0 := hne (by omega)
  have hls : (bs s).size = s.length := by simp [bs, ByteArray.size]
  have hpos : 0 < s.length := List.length_pos_iff.2 hs0
  have hw2 : IntKind.i64.wrap (((bs s).size : Int) - 1) = ((s.length - 1 : Nat) : Int) := by rw [hls, wrap_in (by omega) (by omega)]; omega
  rw [hw2]
  refine r_byte (b := s[s.length - 1]'(by omega)) (List.getElem?_eq_getElem (by omega)) ?_
  refine r_bin (v := .bool (((s[s.length - 1]'(by omega)).toNat : Int) != 47)) (by rfl) ?_
  refine r_guard (fun _ => ?_) (fun _ => ?_)
  · refine r_addstr (a := s) (b := [47]) (by simp only [List.length_append, List.length_cons, List.length_nil]; omega) ?_
    exact next (s ++ [47]) (by simp)
  · exact next s (by omega)
theorem texts_ok {v1 v2 : Value} {ss ts : List Str} (h1 : SlAt l 1 v1 ss.length (ss.map fun s => vstr' s)) (h2 : SlAt l 1 v2 ts.length (ts.map fun s => vstr' s)) (hb : ss.length ≤ 2 ^ 60) (h : R (.bool (decide (ss = ts))) l) : scall Tryz.prog 21 #[v1, v2] R l := by
  refine S21_ok ?_
  unfold S21
  refine r_slen h1 ?_
  refine r_slen h2 ?_
  refine r_bin (v := .bool ((ss.length : Int) != ts.length)) (by rfl) ?_
  refine r_guard (fun hg => ?_) (fun hg => ?_)
  · have : ¬ ss = ts := fun e => by rw [e] at hg; simp at hg
    rw [decide_eq_false this] at h; exact h
  have hl : ss.length = ts.length := by
    have : (ss.length : Int) = ts.length := by simpa using hg
    omega
  refine r_loop1 (fun k u σ => ∃ i : Nat, σ = l ∧ u = vi i ∧ i ≤ ss.length ∧ ss.take i = ts.take i ∧ k = ss.length - i) ss.length ⟨0, rfl, rfl, by omega, rfl, rfl⟩ ?_
  rintro k u σ ⟨i, rfl, rfl, hi, he, rfl⟩
  refine r_slen h1 ?_
  refine r_bin (by rfl) ?_
  refine r_guard_d (fun hg2 => ?_) (fun hg2 => ?_)
  · have hlt : i < ss.length := by omega
    have hlt2 : i < ts.length := by omega
    refine r_elem1 (x := vstr' ss[i]) h1 (by simp [List.getElem?_eq_getElem hlt]) ?_
    refine r_elem1 (x := vstr' ts[i]) h2 (by simp [List.getElem?_eq_getElem hlt2]) ?_
    refine r_strne ?_
    refine r_guard_d (fun hn => ?_) (fun hn => ?_)
    · have : ¬ ss = ts := fun e => hn (by simp [e])
      rw [decide_eq_false this] at h; exact h
    · refine r_bin (by rfl) ?_
      rw [wrap_in (by omega) (by omega)]
      refine ⟨ss.length - (i + 1), by omega, i + 1, rfl, by simp, by omega, ?_, rfl⟩
      have hn : ss[i] = ts[i] := Decidable.not_not.1 hn
      rw [List.take_add_one, List.take_add_one, he, List.getElem?_eq_getElem hlt, List.getElem?_eq_getElem hlt2, hn]
  · have hiL : i = ss.length := by omega
    have : ss = ts := by
      rw [List.take_of_length_le (by omega), List.take_of_length_le (by omega)] at he
      exact he
    rw [decide_eq_true this] at h; exact h
end
end Go.Sl
namespace Go.Sl
variable [Ghost]
open Go Go.Mo Go.Proofs
attribute [local irreducible] snil sfa sext sfield sguard sun sbin slen sload sstore snew snewObj sbuildR sbuildSlR smakeMapR smakeSlR slookup smapset srangeMap snext sentry scall scallv sextern sbuiltin sidx sindex sslice sconv srangeX sarg sand sjoin0 sjoin1 sjoin2 sloop0 sloop1 sloop2
structure IvB (k : Nat) (T : Tree) (M : Tab) : Prop where
  good : Good 0 T
  sz : Sz k T
  keep : Keep (2 ^ 12) T
  ok : TabOk M
  tab : M.l.length ≤ k
theorem IvB.mono {k j : Nat} {T : Tree} {M : Tab} (h : IvB k T M) (hj : k ≤ j) : IvB j T M := ⟨h.good, h.sz.mono hj, h.keep, h.ok, Nat.le_trans h.tab hj⟩
theorem IvB.small {k : Nat} {T : Tree} {M : Tab} (h : IvB k T M) (hk : k ≤ 2 ^ 20) : Small T := h.sz.small h.good (by omega)
theorem IvB.full {k : Nat} {T : Tree} {M : Tab} (h : IvB k T M) : Full T := ⟨by rw [live_len]; exact h.keep.room, h.keep.most⟩
def BothC (t m w v : Nat) (T : Tree) (M : Tab) (c : Chunk) : Prop := ∃ β γ c1 c2 c3 c4, c.Perm (c1 ++ (c2 ++ (c3 ++ c4))) ∧ PTree t T β c1 ∧ PTab m M c2 ∧ RTree w T γ c3 ∧ RTab v M c4
abbrev bothV (t m w v : Nat) : Value := .agg #[ptr t 0, ptr m 0, ptr w 0, ptr v 0]
section
variable {l r : St} {t m w v k : Nat} {T : Tree} {M : Tab} {c : Chunk} {y : Act} {R : Value → SP}
theorem both_close {T' : Tree} {M' : Tab} {β γ : Int → Nat} {c1 c2 c3 c4 g : Chunk} {j : Nat} {σ : St} (h : ∀ c' T' M', BothC t m w v T' M' c' → IvB j T' M' → R (.bool true) (c' :: r))
    (h1 : PTree t T' β c1) (h2 : PTab m M' c2) (h3 : RTree w T' γ c3) (h4 : RTab v M' c4) (hI : IvB j T' M') (hσ : σ.flatten.Perm (g :: (c1 ++ (c2 ++ (c3 ++ c4))) :: r).flatten) : ∃ l2, Ent σ l2 ∧ R (.bool true) l2 :=
  ⟨_, (Ent.of_perm hσ).trans (Ent.drop _ _), h _ T' M' ⟨β, γ, c1, c2, c3, c4, .refl _, h1, h2, h3, h4⟩ hI⟩
theorem bothBind_ok (hI : IvB k T M) (hk : k ≤ 2 ^ 19) (hP : BothC t m w v T M c) (h : ∀ c' T' M', BothC t m w v T' M' c' → IvB (k + 4) T' M' → R (.bool true) (c' :: r)) :
    scall Tryz.prog 44 #[bothV t m w v, actV y] R (c :: r) := by
  obtain ⟨β, γ, c1, c2, c3, c4, hc, h1, h2, h3, h4⟩ := hP
  have hS := hI.small (by omega)
  refine scall_perm (l' := c1 :: c2 :: c3 :: c4 :: r) (perm_of_ct fun a => by
    have := ct_of_perm hc a
    simp only [List.flatten_cons, ct_append] at this ⊢; omega) (scall_post (S44_ok ?_))
  unfold S44
  refine r_new fun b2 => ?_
  refine r_new fun b3 => ?_
  have hA : ∀ g : St, RAt (g ++ (c3 :: c4 :: r)) w T γ := fun g => (r_at (take_here c3 (c4 :: r)) h3).mono fun b o hb => knows_right g hb
  refine r_fa ?_
  refine r_load1 (x := ptr w 0) (by exact kn) (by rfl) ?_
  refine r_fa ?_
  refine r_load1 (x := vi y.to) (by exact kn) (by rfl) ?_
  refine rstat_ok (hA [_, _, _, _]) hS hI.good ?_
  refine r_ext (by rfl) ?_
  refine r_ext (by rfl) ?_
  refine r_new fun b5 => ?_
  refine r_store (knows_pt _ _ _) (by rfl) (by rfl) (by rfl) (by rfl) (change_pt _ _ _ _) ?_
  refine r_fa ?_
  refine r_load1 (x := ptr w 0) (by exact kn) (by rfl) ?_
  refine r_fa ?_
  refine r_fa ?_
  refine r_load1 (x := vi y.at'.node) (by exact kn) (by rfl) ?_
  refine rstat_ok (hA [_, _, _, _, _]) hS hI.good ?_
  refine r_ext (by rfl) ?_
  refine r_ext (by rfl) ?_
  refine r_new fun b7 => ?_
  refine r_store (knows_pt _ _ _) (by rfl) (by rfl) (by rfl) (by rfl) (change_pt _ _ _ _) ?_
  have close : ∃ l2, Ent (pt b7 (.cells (sttV (T.st y.at'.node)).cells 42) :: pt b5 (.cells (sttV (T.st y.to)).cells 42) :: pt b3 (.cells (actC y) 44) :: pt b2 (.cells (bothV t m w v).cells 39) :: c1 :: c2 :: c3 :: c4 :: r) l2 ∧ R (.bool true) l2 := by
    refine both_close (g := [pt b7 (.cells (sttV (T.st y.at'.node)).cells 42), pt b5 (.cells (sttV (T.st y.to)).cells 42), pt b3 (.cells (actC y) 44), pt b2 (.cells (bothV t m w v).cells 39)].flatten) h h1 h2 h3 h4 (hI.mono (by omega)) (perm_of_ct fun a => ?_)
    simp only [List.flatten_cons, List.flatten_nil, ct_append, ct_nil, Value.cells, sttL]; omega
  refine r_join1 ?_
  refine r_not ?_
  cases hst : (T.stat y.to).isSome with
  | false =>
    refine r_guard_t ?_
    refine r_guard_t ?_
    exact close
  | true =>
  refine r_guard_f ?_
  refine r_not ?_
  cases hst2 : (T.stat y.at'.node).isSome with
  | false =>
    refine r_guard_t ?_
    exact close
  | true =>
  refine r_guard_f ?_
  refine r_fa ?_
  refine r_load1 (x := ptr m 0) (by exact kn) (by rfl) ?_
  refine r_fa ?_
  refine r_loadn (ys := [vi y.at'.mount, vi y.at'.node]) (by exact kn) (by rfl) ?_
  refine r_fa ?_
  refine r_load1 (x := vi y.to) (by exact kn) (by rfl) ?_
  have hMl := hI.tab
  refine mbind_ok (at' := y.at') (take_there _ (take_there _ (take_there _ (take_there _ (take_there _ (take_here _ _)))))) h2 (by omega) (fun c2' h2' => ?_)
  obtain ⟨B, hB⟩ : ∃ B, M.bind y.at' y.to = B := ⟨_, rfl⟩
  rw [hB] at h2' ⊢
  refine r_ext (by rfl) ?_
  refine r_ext (by rfl) ?_
  refine r_fa ?_
  refine r_load1 (x := ptr v 0) (by exact kn) (by rfl) ?_
  refine r_fa ?_
  refine r_loadn (ys := [vi y.at'.mount, vi y.at'.node]) (by exact kn) (by rfl) ?_
  refine r_fa ?_
  refine r_load1 (x := vi y.to) (by exact kn) (by rfl) ?_
  refine rbind_ok (p := y.at') (take_there _ (take_there _ (take_there _ (take_there _ (take_there _ (take_there _ (take_there _ (take_here _ _)))))))) h4 (by omega) (fun c4' h4' => ?_)
  rw [hB] at h4' ⊢
  have okB : TabOk B.1 := by rw [← hB]; exact hI.ok.bind
  have lenB : B.1.l.length ≤ k + 1 := by
    have := bind_len (M := M) (p := y.at') (node := y.to)
    rw [hB] at this; omega
  refine r_ext (by rfl) ?_
  refine r_ext (by rfl) ?_
  have fin : ∀ (c1' c3' : Chunk) (T' : Tree) (σ : St), PTree t T' β c1' → RTree w T' γ c3' → IvB (k + 4) T' B.1 → σ.flatten.Perm ([pt b7 (.cells (sttV (T.st y.at'.node)).cells 42), pt b5 (.cells (sttV (T.st y.to)).cells 42), pt b3 (.cells (actC y) 44), pt b2 (.cells (bothV t m w v).cells 39)].flatten :: (c1' ++ (c2' ++ (c3' ++ c4'))) :: r).flatten →
      sbin Tryz.prog .none 3 .eql (vi B.2.1) (vi B.2.1) (fun v82 => sguard v82 (sbin Tryz.prog .none 3 .eql (vi B.2.2) (vi B.2.2) fun v86 => (fun v l' => ∃ l2, Ent l' l2 ∧ R v l2) v86) ((fun v l' => ∃ l2, Ent l' l2 ∧ R v l2) (.bool false))) σ := by
    intro c1' c3' T' σ h1' h3' hI' hσ
    refine r_bin (v := .bool (B.2.1 == B.2.1)) (by rfl) ?_
    rw [beq_self_eq_true]
    refine r_guard_t ?_
    refine r_bin (v := .bool (B.2.2 == B.2.2)) (by rfl) ?_
    rw [beq_self_eq_true]
    exact both_close h h1' h2' h3' h4' hI' hσ
  refine r_join0 ?_
  refine r_bin (v := .bool (B.2.2 == 0)) (by rfl) ?_
  refine r_guard (fun _ => ?_) (fun _ => ?_)
  rotate_left
  · refine fin c1 c3 T _ h1 h3 ⟨hI.good, hI.sz.mono (by omega), hI.keep, okB, by omega⟩ (perm_of_ct fun a => ?_)
    simp only [List.flatten_cons, List.flatten_nil, ct_append, ct_nil, Value.cells, sttL]; omega
  have hg1 : Good 0 (T.hold y.to).1 := hI.good.hold
  have hz1 : Sz (k + 2) (T.hold y.to).1 := hI.sz.hold
  have hk1 : Keep (2 ^ 12) (T.hold y.to).1 := hI.keep.hold
  have hS1 : Small (T.hold y.to).1 := hz1.small hg1 (by omega)
  refine r_fa ?_
  refine r_load1 (x := ptr t 0) (by exact kn) (by rfl) ?_
  refine r_fa ?_
  refine r_load1 (x := vi y.to) (by exact kn) (by rfl) ?_
  refine thold_ok hS (take_there _ (take_there _ (take_there _ (take_there _ (take_there _ (take_there _ (take_here _ _))))))) h1 (fun c1a h1a => ?_)
  refine r_fa ?_
  refine r_load1 (x := ptr t 0) (knows_right [_, _, _, _, _, _] (knows_pt _ _ _)) (by rfl) ?_
  refine r_fa ?_
  refine r_fa ?_
  refine r_load1 (x := vi y.at'.node) (knows_right [_, _, _, _, _] (knows_pt _ _ _)) (by rfl) ?_
  refine thold_ok hS1 (take_here _ _) h1a (fun c1b h1b => ?_)
  refine r_fa ?_
  refine r_load1 (x := ptr w 0) (knows_right [_, _, _, _, _, _] (knows_pt _ _ _)) (by rfl) ?_
  refine r_fa ?_
  refine r_load1 (x := vi y.to) (knows_right [_, _, _, _, _] (knows_pt _ _ _)) (by rfl) ?_
  refine rhold_ok (take_there _ (take_there _ (take_there _ (take_there _ (take_there _ (take_there _ (take_there _ (take_here _ _)))))))) h3 hS (fun c3a h3a => ?_)
  refine r_fa ?_
  refine r_load1 (x := ptr w 0) (knows_right [_, _, _, _, _, _, _] (knows_pt _ _ _)) (by rfl) ?_
  refine r_fa ?_
  refine r_fa ?_
  refine r_load1 (x := vi y.at'.node) (knows_right [_, _, _, _, _, _] (knows_pt _ _ _)) (by rfl) ?_
  refine rhold_ok (take_here _ _) h3a hS1 (fun c3b h3b => ?_)
  refine fin c1b c3b _ _ h1b h3b ⟨hg1.hold, hz1.hold, hk1.hold, okB, by omega⟩ (perm_of_ct fun a => ?_)
  simp only [List.flatten_cons, List.flatten_nil, ct_append, ct_nil, Value.cells, sttL]; omega
end
end Go.Sl
namespace Go.Sl
variable [Ghost]
open Go Go.Mo Go.Proofs
attribute [local irreducible] snil sfa sext sfield sguard sun sbin slen sload sstore snew snewObj sbuildR sbuildSlR smakeMapR smakeSlR slookup smapset srangeMap snext sentry scall scallv sextern sbuiltin sidx sindex sslice sconv srangeX sarg sand sjoin0 sjoin1 sjoin2 sloop0 sloop1 sloop2
section
variable {l r : St} {t m w v k : Nat} {T : Tree} {M : Tab} {c : Chunk} {y : Act} {R : Value → SP}
theorem bothDo_ok (hI : IvB k T M) (hk : k ≤ 2 ^ 19) (hP : BothC t m w v T M c) (hys : y.s.length ≤ 20) (hya : y.as'.length ≤ 20) (h : ∀ c' T' M', BothC t m w v T' M' c' → IvB (k + 4) T' M' → R (.bool true) (c' :: r)) :
    scall Tryz.prog 10 #[bothV t m w v, actV y] R (c :: r) := by
  have hP0 := hP
  obtain ⟨β, γ, c1, c2, c3, c4, hc, h1, h2, h3, h4⟩ := hP
  have hS := hI.small (by omega)
  have hAll := hI.sz.all
  have hFs := hI.sz.files
  have hMl := hI.tab
  refine scall_perm (l' := c1 :: c2 :: c3 :: c4 :: r) (perm_of_ct fun a => by
    have := ct_of_perm hc a
    simp only [List.flatten_cons, ct_append] at this ⊢; omega) (scall_post (S10_ok ?_))
  unfold S10
  refine r_new fun b2 => ?_
  refine r_new fun b3 => ?_
  obtain ⟨d2, hd2⟩ : ∃ d2, pt b2 (.cells (bothV t m w v).cells 39) = d2 := ⟨_, rfl⟩
  obtain ⟨d3, hd3⟩ : ∃ d3, pt b3 (.cells (actV y).cells 44) = d3 := ⟨_, rfl⟩
  have K2 : ∀ σ : St, Knows (d2 :: σ) b2 (.cells #[ptr t 0, ptr m 0, ptr w 0, ptr v 0] 39) := fun σ => by rw [← hd2]; exact knows_pt _ _ _
  have K3 : ∀ σ : St, Knows (d3 :: σ) b3 (.cells (actC y) 44) := fun σ => by rw [← hd3]; exact knows_pt _ _ _
  rw [hd2, hd3]
  have fin : ∀ (c1' c2' c3' c4' : Chunk) (β' γ' : Int → Nat) (T' : Tree) (M' : Tab) (σ : St) (e : Int), PTree t T' β' c1' → PTab m M' c2' → RTree w T' γ' c3' → RTab v M' c4' → IvB (k + 4) T' M' → σ.flatten.Perm ((d2 ++ d3) :: (c1' ++ (c2' ++ (c3' ++ c4'))) :: r).flatten →
      sbin Tryz.prog .none 3 .eql (vi e) (vi e) (fun v86 => (fun v l' => ∃ l2, Ent l' l2 ∧ R v l2) v86) σ := by
    intro c1' c2' c3' c4' β' γ' T' M' σ e h1' h2' h3' h4' hI' hσ
    refine r_bin (v := .bool (e == e)) (by rfl) ?_
    rw [beq_self_eq_true]
    exact both_close h h1' h2' h3' h4' hI' hσ
  have kind : ∀ (q : Int) (A B : SP) (σ : St), (y.kind = q → A σ) → (B σ) → sguard (.bool (y.kind == q)) A B σ := fun q A B σ ha hb => by
    by_cases e : y.kind = q
    · have : (y.kind == q) = true := by simpa using e
      rw [this]; exact r_guard_t (ha e)
    · have : (y.kind == q) = false := by simpa using e
      rw [this]; exact r_guard_f hb
  refine r_fa ?_
  refine r_load1 (x := vi y.kind) (K3 _) (by rfl) ?_
  refine r_bin (v := .bool (y.kind == 1)) (by rfl) ?_
  refine kind 1 _ _ _ (fun _ => ?_) ?_
  ·
    refine r_fa ?_
    refine r_load1 (x := ptr t 0) (knows_there _ (K2 _)) (by rfl) ?_
    refine r_fa ?_
    refine r_load1 (x := vi y.dir) (K3 _) (by rfl) ?_
    refine r_fa ?_
    refine r_load1 (x := vstr' y.s) (K3 _) (by rfl) ?_
    refine r_fa ?_
    refine r_loadn (ys := sttL y.st) (K3 _) (by rfl) ?_
    refine r_fa ?_
    refine r_load1 (x := vstr' y.as') (K3 _) (by rfl) ?_
    refine tmake_ok (take_there _ (take_there _ (take_here _ _))) h1 hS (by omega) (by omega) (fun c1' β' h1' => ?_)
    obtain ⟨N, hN⟩ : ∃ N, T.make y.dir y.s y.st y.as' = N := ⟨_, rfl⟩
    have gN : Good 0 N.1 := by rw [← hN]; exact hI.good.make
    have zN : Sz (k + 2) N.1 := by rw [← hN]; exact hI.sz.make
    have kN : Keep (2 ^ 12) N.1 := by rw [← hN]; exact hI.keep.make (by omega)
    rw [hN] at h1' ⊢
    refine r_ext (by rfl) ?_
    refine r_ext (by rfl) ?_
    refine r_fa ?_
    refine r_load1 (x := ptr w 0) (knows_there _ (knows_there _ (K2 _))) (by rfl) ?_
    refine r_fa ?_
    refine r_load1 (x := vi y.dir) (knows_there _ (K3 _)) (by rfl) ?_
    refine r_fa ?_
    refine r_load1 (x := vstr' y.s) (knows_there _ (K3 _)) (by rfl) ?_
    refine r_fa ?_
    refine r_loadn (ys := sttL y.st) (knows_there _ (K3 _)) (by rfl) ?_
    refine r_fa ?_
    refine r_load1 (x := vstr' y.as') (knows_there _ (K3 _)) (by rfl) ?_
    refine rmake_ok (take_there _ (take_there _ (take_there _ (take_there _ (take_here _ _))))) h3 hI.good hS hI.full (by omega) (by omega) (by omega) (fun c3' γ' h3' => ?_)
    rw [hN] at h3' ⊢
    refine r_ext (by rfl) ?_
    refine r_ext (by rfl) ?_
    refine r_bin (v := .bool (N.2.1 == N.2.1)) (by rfl) ?_
    rw [beq_self_eq_true]
    refine r_guard_t ?_
    refine fin c1' c2 c3' c4 β' γ' _ M _ _ h1' h2 h3' h4 ⟨gN, zN.mono (by omega), kN, hI.ok, by omega⟩ (perm_of_ct fun a => ?_)
    simp only [List.flatten_cons, ct_append]; omega
  refine r_bin (v := .bool (y.kind == 2)) (by rfl) ?_
  refine kind 2 _ _ _ (fun _ => ?_) ?_
  ·
    refine r_fa ?_
    refine r_load1 (x := ptr t 0) (knows_there _ (K2 _)) (by rfl) ?_
    refine r_fa ?_
    refine r_load1 (x := vi y.dir) (K3 _) (by rfl) ?_
    refine r_fa ?_
    refine r_load1 (x := vstr' y.s) (K3 _) (by rfl) ?_
    refine r_fa ?_
    refine r_load1 (x := vi y.to) (K3 _) (by rfl) ?_
    refine r_fa ?_
    refine r_load1 (x := ptr w 0) (knows_there _ (K2 _)) (by rfl) ?_
    refine r_fa ?_
    refine r_load1 (x := vi y.dir) (K3 _) (by rfl) ?_
    refine r_fa ?_
    refine r_load1 (x := vstr' y.s) (K3 _) (by rfl) ?_
    refine r_fa ?_
    refine r_load1 (x := vi y.to) (K3 _) (by rfl) ?_
    refine tjoin_ok (take_there _ (take_there _ (take_here _ _))) h1 hS (fun c1' h1' => ?_)
    refine r_and (r_load1 (x := vi y.to) (knows_there _ (K3 _)) (by rfl) rfl) ?_
    refine r_and (r_load1 (x := vstr' y.s) (knows_there _ (K3 _)) (by rfl) rfl) ?_
    refine r_and (r_load1 (x := vi y.dir) (knows_there _ (K3 _)) (by rfl) rfl) ?_
    refine r_and (r_load1 (x := ptr w 0) (knows_there _ (knows_there _ (K2 _))) (by rfl) rfl) ?_
    refine rjoin_ok (take_there _ (take_there _ (take_there _ (take_there _ (take_here _ _))))) h3 hI.good hS (by omega) (fun c3' h3' => ?_)
    refine fin c1' c2 c3' c4 β γ _ M _ _ h1' h2 h3' h4 ⟨hI.good.join, hI.sz.join.mono (by omega), hI.keep.join, hI.ok, by omega⟩ (perm_of_ct fun a => ?_)
    simp only [List.flatten_cons, ct_append]; omega
  refine r_bin (v := .bool (y.kind == 3)) (by rfl) ?_
  refine kind 3 _ _ _ (fun _ => ?_) ?_
  ·
    refine r_fa ?_
    refine r_load1 (x := ptr t 0) (knows_there _ (K2 _)) (by rfl) ?_
    refine r_fa ?_
    refine r_load1 (x := vi y.dir) (K3 _) (by rfl) ?_
    refine r_fa ?_
    refine r_load1 (x := vstr' y.s) (K3 _) (by rfl) ?_
    refine r_fa ?_
    refine r_load1 (x := ptr w 0) (knows_there _ (K2 _)) (by rfl) ?_
    refine r_fa ?_
    refine r_load1 (x := vi y.dir) (K3 _) (by rfl) ?_
    refine r_fa ?_
    refine r_load1 (x := vstr' y.s) (K3 _) (by rfl) ?_
    refine tpart_ok (take_there _ (take_there _ (take_here _ _))) h1 hS hI.good.names (fun c1' h1' => ?_)
    refine r_and (r_load1 (x := vstr' y.s) (knows_there _ (K3 _)) (by rfl) rfl) ?_
    refine r_and (r_load1 (x := vi y.dir) (knows_there _ (K3 _)) (by rfl) rfl) ?_
    refine r_and (r_load1 (x := ptr w 0) (knows_there _ (knows_there _ (K2 _))) (by rfl) rfl) ?_
    refine rpart_ok (take_there _ (take_there _ (take_there _ (take_there _ (take_here _ _))))) h3 hI.good hS (fun c3' h3' => ?_)
    refine fin c1' c2 c3' c4 β γ _ M _ _ h1' h2 h3' h4 ⟨hI.good.part, hI.sz.part.mono (by omega), hI.keep.part, hI.ok, by omega⟩ (perm_of_ct fun a => ?_)
    simp only [List.flatten_cons, ct_append]; omega
  refine r_bin (v := .bool (y.kind == 4)) (by rfl) ?_
  refine kind 4 _ _ _ (fun _ => ?_) ?_
  ·
    refine r_fa ?_
    refine r_load1 (x := ptr t 0) (knows_there _ (K2 _)) (by rfl) ?_
    refine r_fa ?_
    refine r_load1 (x := vi y.dir) (K3 _) (by rfl) ?_
    refine r_fa ?_
    refine r_load1 (x := vstr' y.s) (K3 _) (by rfl) ?_
    refine r_fa ?_
    refine r_load1 (x := vi y.to) (K3 _) (by rfl) ?_
    refine r_fa ?_
    refine r_load1 (x := vstr' y.as') (K3 _) (by rfl) ?_
    refine r_fa ?_
    refine r_load1 (x := ptr w 0) (knows_there _ (K2 _)) (by rfl) ?_
    refine r_fa ?_
    refine r_load1 (x := vi y.dir) (K3 _) (by rfl) ?_
    refine r_fa ?_
    refine r_load1 (x := vstr' y.s) (K3 _) (by rfl) ?_
    refine r_fa ?_
    refine r_load1 (x := vi y.to) (K3 _) (by rfl) ?_
    refine r_fa ?_
    refine r_load1 (x := vstr' y.as') (K3 _) (by rfl) ?_
    refine tmove_ok (take_there _ (take_there _ (take_here _ _))) h1 hI.good hS (fun c1' h1' => ?_)
    refine r_and (r_load1 (x := vstr' y.as') (knows_there _ (K3 _)) (by rfl) rfl) ?_
    refine r_and (r_load1 (x := vi y.to) (knows_there _ (K3 _)) (by rfl) rfl) ?_
    refine r_and (r_load1 (x := vstr' y.s) (knows_there _ (K3 _)) (by rfl) rfl) ?_
    refine r_and (r_load1 (x := vi y.dir) (knows_there _ (K3 _)) (by rfl) rfl) ?_
    refine r_and (r_load1 (x := ptr w 0) (knows_there _ (knows_there _ (K2 _))) (by rfl) rfl) ?_
    refine rmove_ok (take_there _ (take_there _ (take_there _ (take_there _ (take_here _ _))))) h3 hI.good hS (fun n x hx => by have := hI.sz.node n x hx; omega) (by omega) (fun c3' h3' => ?_)
    refine fin c1' c2 c3' c4 β γ _ M _ _ h1' h2 h3' h4 ⟨hI.good.move, hI.sz.move.mono (by omega), hI.keep.move, hI.ok, by omega⟩ (perm_of_ct fun a => ?_)
    simp only [List.flatten_cons, ct_append]; omega
  refine r_bin (v := .bool (y.kind == 5)) (by rfl) ?_
  refine kind 5 _ _ _ (fun _ => ?_) ?_
  ·
    refine r_fa ?_
    refine r_load1 (x := ptr t 0) (knows_there _ (K2 _)) (by rfl) ?_
    refine r_fa ?_
    refine r_load1 (x := vi y.dir) (K3 _) (by rfl) ?_
    refine r_fa ?_
    refine r_load1 (x := vi y.n) (K3 _) (by rfl) ?_
    refine r_fa ?_
    refine r_load1 (x := ptr w 0) (knows_there _ (K2 _)) (by rfl) ?_
    refine r_fa ?_
    refine r_load1 (x := vi y.dir) (K3 _) (by rfl) ?_
    refine r_fa ?_
    refine r_load1 (x := vi y.n) (K3 _) (by rfl) ?_
    refine tsetMode_ok (take_there _ (take_there _ (take_here _ _))) h1 (fun c1' h1' => ?_)
    refine r_and (r_load1 (x := vi y.n) (knows_there _ (K3 _)) (by rfl) rfl) ?_
    refine r_and (r_load1 (x := vi y.dir) (knows_there _ (K3 _)) (by rfl) rfl) ?_
    refine r_and (r_load1 (x := ptr w 0) (knows_there _ (knows_there _ (K2 _))) (by rfl) rfl) ?_
    refine rsetMode_ok (take_there _ (take_there _ (take_there _ (take_there _ (take_here _ _))))) h3 hS (fun c3' h3' => ?_)
    refine fin c1' c2 c3' c4 β γ _ M _ _ h1' h2 h3' h4 ⟨hI.good.setMode, hI.sz.setMode.mono (by omega), hI.keep.setMode, hI.ok, by omega⟩ (perm_of_ct fun a => ?_)
    simp only [List.flatten_cons, ct_append]; omega
  refine r_bin (v := .bool (y.kind == 6)) (by rfl) ?_
  refine kind 6 _ _ _ (fun _ => ?_) ?_
  ·
    refine r_loadn (ys := [ptr t 0, ptr m 0, ptr w 0, ptr v 0]) (knows_there _ (K2 _)) (by rfl) ?_
    refine r_loadn (ys := (actC y).toList) (K3 _) (by rfl) ?_
    refine scall_perm (l' := [c1, c2, c3, c4].flatten :: d3 :: d2 :: r) (perm_of_ct fun a => ?_) ?_
    · simp only [List.flatten_cons, List.flatten_nil, ct_append, ct_nil]; omega
    refine bothBind_ok hI hk ⟨β, γ, c1, c2, c3, c4, by simp, h1, h2, h3, h4⟩ (fun c' T' M' hc' hI' => ?_)
    exact ⟨c' :: r, (ent_mid [_] _ _).trans (ent_mid [_] _ _), h c' T' M' hc' hI'⟩
  refine r_bin (v := .bool (y.kind == 7)) (by rfl) ?_
  refine kind 7 _ _ _ (fun _ => ?_) ?_
  ·
    refine r_fa ?_
    refine r_load1 (x := ptr m 0) (knows_there _ (K2 _)) (by rfl) ?_
    refine r_fa ?_
    refine r_load1 (x := vi y.n) (K3 _) (by rfl) ?_
    refine r_fa ?_
    refine r_load1 (x := ptr v 0) (knows_there _ (K2 _)) (by rfl) ?_
    refine r_fa ?_
    refine r_load1 (x := vi y.n) (K3 _) (by rfl) ?_
    refine munbind_ok (take_there _ (take_there _ (take_there _ (take_here _ _)))) h2 (by omega) (fun c2' h2' => ?_)
    refine r_and (r_load1 (x := vi y.n) (knows_there _ (K3 _)) (by rfl) rfl) ?_
    refine r_and (r_load1 (x := ptr v 0) (knows_there _ (knows_there _ (K2 _))) (by rfl) rfl) ?_
    refine runbind_ok (take_there _ (take_there _ (take_there _ (take_there _ (take_there _ (take_here _ _)))))) h4 (by omega) (fun c4' h4' => ?_)
    have := unbind_len (M := M) (m := y.n)
    refine fin c1 c2' c3 c4' β γ T _ _ _ h1 h2' h3 h4' ⟨hI.good, hI.sz.mono (by omega), hI.keep, hI.ok.unbind, by omega⟩ (perm_of_ct fun a => ?_)
    simp only [List.flatten_cons, ct_append]; omega
  refine r_fa ?_
  refine r_load1 (x := ptr t 0) (knows_there _ (K2 _)) (by rfl) ?_
  refine r_fa ?_
  refine r_load1 (x := vi y.dir) (K3 _) (by rfl) ?_
  refine r_fa ?_
  refine r_load1 (x := vi y.n) (K3 _) (by rfl) ?_
  refine r_fa ?_
  refine r_load1 (x := vi y.to) (K3 _) (by rfl) ?_
  refine r_fa ?_
  refine r_load1 (x := ptr w 0) (knows_there _ (K2 _)) (by rfl) ?_
  refine r_fa ?_
  refine r_load1 (x := vi y.dir) (K3 _) (by rfl) ?_
  refine r_fa ?_
  refine r_load1 (x := vi y.n) (K3 _) (by rfl) ?_
  refine r_fa ?_
  refine r_load1 (x := vi y.to) (K3 _) (by rfl) ?_
  refine tsetOwner_ok (take_there _ (take_there _ (take_here _ _))) h1 (fun c1' h1' => ?_)
  refine r_and (r_load1 (x := vi y.to) (knows_there _ (K3 _)) (by rfl) rfl) ?_
  refine r_and (r_load1 (x := vi y.n) (knows_there _ (K3 _)) (by rfl) rfl) ?_
  refine r_and (r_load1 (x := vi y.dir) (knows_there _ (K3 _)) (by rfl) rfl) ?_
  refine r_and (r_load1 (x := ptr w 0) (knows_there _ (knows_there _ (K2 _))) (by rfl) rfl) ?_
  refine rsetOwner_ok (take_there _ (take_there _ (take_there _ (take_there _ (take_here _ _))))) h3 hS (fun c3' h3' => ?_)
  refine fin c1' c2 c3' c4 β γ _ M _ _ h1' h2 h3' h4 ⟨hI.good.setOwner, hI.sz.setOwner.mono (by omega), hI.keep.setOwner, hI.ok, by omega⟩ (perm_of_ct fun a => ?_)
  simp only [List.flatten_cons, ct_append]; omega
end
end Go.Sl
namespace Go.Sl
variable [Ghost]
open Go Go.Mo Go.Proofs
attribute [local irreducible] snil sfa sext sfield sguard sun sbin slen sload sstore snew snewObj sbuildR sbuildSlR smakeMapR smakeSlR slookup smapset srangeMap snext sentry scall scallv sextern sbuiltin sidx sindex sslice sconv srangeX sarg sand sjoin0 sjoin1 sjoin2 sloop0 sloop1 sloop2
abbrev T0 : Tree := { most := 40, pool := { blocks := 20 }, all := [some { kind := 1, mode := 493, uid := 0, gid := 0, up := 1 }] }
abbrev M0 : Tab := Tab.new 1
abbrev topP : Plc := { mount := 0, node := 1 }
theorem t0_new : Tree.new 40 20 = some T0 := by unfold Tree.new; rw [if_neg (by decide)]
theorem ivb0 : IvB 1 T0 M0 := ⟨Good.new t0_new, Sz.new t0_new, Keep.new t0_new, TabOk.new 1, Nat.le_refl _⟩
section
variable {l r : St} {R : Value → SP} {t m w v k : Nat} {T : Tree} {M : Tab} {root : Plc} {who : Who} {nc : NCall}
theorem playNew_ok (h : ∀ t m w v c, BothC t m w v T0 M0 c → R (.tuple #[bothV t m w v, .bool true]) (c :: l)) : scall Tryz.prog 35 #[] R l := by
  refine scall_post (S35_ok ?_)
  unfold S35
  refine r_new fun b0 => ?_
  refine tnew_ok (fun e => by rw [t0_new] at e; cases e) (fun T hT t β c1 h1 => ?_)
  rw [t0_new] at hT; cases hT
  refine r_ext (by rfl) ?_
  refine r_ext (by rfl) ?_
  refine rnew_ok (fun e => by rw [t0_new] at e; cases e) (fun T hT w γ c3 h3 => ?_)
  rw [t0_new] at hT; cases hT
  refine r_ext (by rfl) ?_
  refine r_ext (by rfl) ?_
  refine mnew_ok (fun m c2 h2 => ?_)
  refine rmnew_ok (fun v c4 h4 => ?_)
  refine r_build (by rfl) ?_
  refine r_new fun b6 => ?_
  refine r_store (knows_pt _ _ _) (by rfl) (by rfl) (by rfl) (by rfl) (change_pt _ _ _ _) ?_
  refine r_loadn (ys := [ptr t 0, ptr m 0, ptr w 0, ptr v 0]) (knows_pt _ _ _) (by rfl) ?_
  refine r_bin (v := .bool true) (by rfl) ?_
  refine r_guard_t ?_
  refine r_fa ?_
  refine r_load1 (x := ptr m 0) (knows_pt _ _ _) (by rfl) ?_
  refine r_bin (v := .bool true) (by rfl) ?_
  refine r_guard_t ?_
  refine r_bin (v := .bool true) (by rfl) ?_
  refine r_store (knows_right [_, _, _, _, _] (knows_pt _ _ _)) (by rfl) (by rfl) (by rfl) (by rfl) (change_right [_, _, _, _, _] (change_pt _ _ _ _)) ?_
  refine r_loadn (ys := [ptr t 0, ptr m 0, ptr w 0, ptr v 0]) (knows_right [_, _, _, _, _] (knows_pt _ _ _)) (by rfl) ?_
  refine ⟨(c1 ++ (c2 ++ (c3 ++ c4))) :: l, ?_, h t m w v _ ⟨β, γ, c1, c2, c3, c4, .refl _, h1, h2, h3, h4⟩⟩
  refine Ent.trans (l' := pt b6 (.cells #[ptr t 0, ptr m 0, ptr w 0, ptr v 0] 39) :: pt b0 (.cells #[ptr t 0, ptr m 0, ptr w 0, ptr v 0] 39) :: ((c1 ++ (c2 ++ (c3 ++ c4))) :: l)) (Ent.of_perm (perm_of_ct fun a => ?_)) ((Ent.drop _ _).trans (Ent.drop _ _))
  simp only [List.flatten_cons, ct_append, List.cons_append, List.nil_append]; omega
theorem top_ok (h : R (plV topP) l) : scall Tryz.prog 14 #[] R l := by
  refine scall_post (S14_ok ?_)
  unfold S14
  refine r_new fun b0 => ?_
  refine r_build (by rfl) ?_
  refine r_store (knows_pt _ _ _) (by rfl) (by rfl) (by rfl) (by rfl) (change_pt _ _ _ _) ?_
  refine r_loadn (ys := [vi 0, vi 1]) (knows_pt _ _ _) (by rfl) ?_
  exact ⟨l, Ent.drop _ _, h⟩
abbrev freshL (t m w v : Nat) : List Value := [ptr t 0, ptr m 0, vi 0, vi 1, ptr w 0, ptr v 0, vi 0, vi 1, nilV]
theorem fresh_ok (h : ∀ t m w v c, BothC t m w v T0 M0 c → R (.tuple #[.agg (freshL t m w v).toArray, .bool true]) (c :: l)) : scall Tryz.prog 9 #[] R l := by
  refine scall_post (S9_ok ?_)
  unfold S9
  refine r_new fun b0 => ?_
  refine playNew_ok (fun t m w v c hc => ?_)
  refine r_ext (by rfl) ?_
  refine r_ext (by rfl) ?_
  refine r_new fun b2 => ?_
  refine r_store (knows_pt _ _ _) (by rfl) (by rfl) (by rfl) (by rfl) (change_pt _ _ _ _) ?_
  refine r_not ?_
  refine r_guard_f ?_
  refine r_fa ?_
  refine r_load1 (x := ptr t 0) (knows_pt _ _ _) (by rfl) ?_
  refine r_fa ?_
  refine r_load1 (x := ptr m 0) (knows_pt _ _ _) (by rfl) ?_
  refine r_fa ?_
  refine r_load1 (x := ptr w 0) (knows_pt _ _ _) (by rfl) ?_
  refine r_fa ?_
  refine r_load1 (x := ptr v 0) (knows_pt _ _ _) (by rfl) ?_
  refine top_ok ?_
  refine r_and (r_load1 (x := ptr v 0) (knows_pt _ _ _) (by rfl) rfl) ?_
  refine r_and (r_load1 (x := ptr w 0) (knows_pt _ _ _) (by rfl) rfl) ?_
  refine r_and (r_load1 (x := ptr m 0) (knows_pt _ _ _) (by rfl) rfl) ?_
  refine r_and (r_load1 (x := ptr t 0) (knows_pt _ _ _) (by rfl) rfl) ?_
  refine r_build (by rfl) ?_
  refine top_ok ?_
  refine r_and (r_load1 (x := ptr v 0) (knows_pt _ _ _) (by rfl) rfl) ?_
  refine r_and (r_load1 (x := ptr w 0) (knows_pt _ _ _) (by rfl) rfl) ?_
  refine r_and (r_load1 (x := ptr m 0) (knows_pt _ _ _) (by rfl) rfl) ?_
  refine r_and (r_load1 (x := ptr t 0) (knows_pt _ _ _) (by rfl) rfl) ?_
  refine r_build (by rfl) ?_
  refine r_build (by rfl) ?_
  refine r_store (knows_right [_, _] (knows_pt _ _ _)) (by rfl) (by rfl) (by rfl) (by rfl) (change_right [_, _] (change_pt _ _ _ _)) ?_
  refine r_loadn (ys := freshL t m w v) (knows_right [_, _] (knows_pt _ _ _)) (by rfl) ?_
  exact ⟨c :: l, (Ent.drop _ _).trans (ent_mid [_] _ _), h t m w v c hc⟩
theorem on_ok {op : Int} {p q : Str} (h : R (callV' { op := op, path := p, to := q } nilV) l) : scall Tryz.prog 19 #[vi op, vstr' p, vstr' q] R l := by
  refine scall_post (S19_ok ?_)
  unfold S19
  refine r_new fun b0 => ?_
  refine r_build (by rfl) ?_
  refine r_store (knows_pt _ _ _) (by rfl) (by rfl) (by rfl) (by rfl) (change_pt _ _ _ _) ?_
  refine r_loadn (knows_pt _ _ _) (by rfl) ?_
  exact ⟨l, Ent.drop _ _, h⟩
theorem mkdirC_ok {mode : Int} {p : Str} (h : R (callV' { op := 1, path := p, mode := mode } nilV) l) : scall Tryz.prog 27 #[vstr' p, vi mode] R l := by
  refine scall_post (S27_ok ?_)
  unfold S27
  refine r_new fun b0 => ?_
  refine r_build (by rfl) ?_
  refine r_store (knows_pt _ _ _) (by rfl) (by rfl) (by rfl) (by rfl) (change_pt _ _ _ _) ?_
  refine r_loadn (knows_pt _ _ _) (by rfl) ?_
  exact ⟨l, Ent.drop _ _, h⟩
theorem mkdir_inv (hI : IvB k T M) : IvB (k + 4) (NWorld.mkdir ⟨T, M, root⟩ who nc).T M := by
  have h0 : IvB (k + 4) T M := hI.mono (by omega)
  unfold NWorld.mkdir
  cases NWorld.walk ⟨T, M, root⟩ who nc.path false with
  | mk f e =>
    simp only
    split
    · exact h0
    · split
      · exact h0
      · split
        · exact h0
        · exact ⟨hI.good.make, hI.sz.make.mono (by omega), hI.keep.make (by simp), hI.ok, by have := hI.tab; omega⟩
theorem rename_inv (hI : IvB k T M) : IvB (k + 4) (NWorld.rename ⟨T, M, root⟩ who nc).T M := by
  have h0 : IvB (k + 4) T M := hI.mono (by omega)
  unfold NWorld.rename
  cases NWorld.walk ⟨T, M, root⟩ who nc.path false with
  | mk f e =>
    simp only
    split
    · exact h0
    · cases NWorld.walk ⟨T, M, root⟩ who nc.to false with
      | mk g e2 =>
        simp only
        split
        · exact h0
        · split
          · exact h0
          · exact ⟨hI.good.move, hI.sz.move.mono (by omega), hI.keep.move, hI.ok, by have := hI.tab; omega⟩
theorem doBoth_ok {c : Chunk} (hI : IvB k T M) (hk : k ≤ 2 ^ 19) (hop : nc.op = 1 ∨ nc.op = 13) (hp : nc.path.length ≤ 2 ^ 40) (hp2 : nc.to.length ≤ 2 ^ 40) {β : Int → Nat} {c1 c2 : Chunk} (h1 : PTree t T β c1) (h2 : PTab m M c2) (hc : c.Perm (c1 ++ c2))
    (h : ∀ c' β' c1', c'.Perm (c1' ++ c2) → PTree t (NWorld.call ⟨T, M, root⟩ who nc).T β' c1' → R (.tuple #[resV (NWorld.call ⟨T, M, root⟩ who nc).why 0 nilV nilV {}, plV {}]) (c' :: r)) :
    scall Tryz.prog 18 #[wV t m root, whoV who, callV' nc nilV] R (c :: r) := by
  refine scall_perm (l' := c1 :: c2 :: r) (perm_of_ct fun a => by
    have := ct_of_perm hc a
    simp only [List.flatten_cons, ct_append] at this ⊢; omega) ?_
  refine scall_post (do2_ok (r := c2 :: r) ⟨_, _, _, rfl⟩ hop ⟨h1, ⟨c2, .here c2 r, h2⟩, hI.good, hI.small (by omega), ?_, ?_, hI.ok, fun n x hx => ?_⟩ hp hp2 (fun c1' β' h1' => ?_))
  · have := hI.sz.all; have := hI.sz.files; omega
  · have := hI.tab; omega
  · have := hI.keep.texts n x hx; omega
  · exact ⟨(c1' ++ c2) :: r, Ent.of_perm (by simp), h _ β' c1' (.refl _) h1'⟩
end
end Go.Sl
namespace Go.Sl
variable [Ghost]
open Go Go.Mo Go.Proofs
attribute [local irreducible] snil sfa sext sfield sguard sun sbin slen sload sstore snew snewObj sbuildR sbuildSlR smakeMapR smakeSlR slookup smapset srangeMap snext sentry scall scallv sextern sbuiltin sidx sindex sslice sconv srangeX sarg sand sjoin0 sjoin1 sjoin2 sloop0 sloop1 sloop2
abbrev T1 : Tree := { most := 40, pool := { blocks := 20 }, all := [some { kind := 1, mode := 493, uid := 0, gid := 0, up := 1, names := [([97], 2)] }, some { kind := 1, mode := 493, uid := 0, gid := 0, up := 1, links := 1 }] }
abbrev who0 : Who := { cwd := topP }
abbrev K1 : NCall := { op := 1, path := [47, 97], mode := 493 }
abbrev K3 : NCall := { op := 13, path := [47, 97], to := [47, 97, 47, 98] }
theorem known1 : (NWorld.call ⟨T0, M0, topP⟩ who0 K1).T = T1 := by kernel_rfl
theorem known1w : (NWorld.call ⟨T0, M0, topP⟩ who0 K1).why = 0 := by kernel_rfl
theorem known2 : (NWorld.call ⟨T1, M0, topP⟩ who0 K1).T = T1 := by kernel_rfl
theorem known2w : (NWorld.call ⟨T1, M0, topP⟩ who0 K1).why = 35 := by kernel_rfl
theorem known3w : (NWorld.call ⟨T1, M0, topP⟩ who0 K3).why = 39 := by kernel_rfl
theorem ivb1 : IvB 5 T1 M0 := by
  have h := mkdir_inv (root := topP) (who := who0) (nc := K1) ivb0
  have e : (NWorld.mkdir ⟨T0, M0, topP⟩ who0 K1).T = T1 := by kernel_rfl
  rw [e] at h; exact h
section
variable {l r : St} {R : Value → SP}
theorem known_ok (h : R (.bool true) l) : scall Tryz.prog 20 #[] R l := by
  refine scall_post (S20_ok ?_)
  unfold S20
  refine fresh_ok (fun t m w v c hc => ?_)
  refine r_ext (by rfl) ?_
  refine r_ext (by rfl) ?_
  refine r_new fun b1 => ?_
  refine r_store (knows_pt _ _ _) (by rfl) (by rfl) (by rfl) (by rfl) (change_pt _ _ _ _) ?_
  refine r_not ?_
  refine r_guard_f ?_
  refine top_ok ?_
  refine r_build (by rfl) ?_
  refine r_new fun b3 => ?_
  refine r_store (knows_pt _ _ _) (by rfl) (by rfl) (by rfl) (by rfl) (change_pt _ _ _ _) ?_
  refine r_fa ?_
  refine r_loadn (ys := [ptr t 0, ptr m 0, vi 0, vi 1]) (knows_there _ (knows_pt _ _ _)) (by rfl) ?_
  refine r_loadn (ys := [vi 0, vi 1, vi 0, vi 0]) (knows_pt _ _ _) (by rfl) ?_
  refine mkdirC_ok (p := [47, 97]) (mode := 493) ?_
  refine r_and (r_loadn (ys := [vi 0, vi 1, vi 0, vi 0]) (knows_pt _ _ _) (by rfl) rfl) ?_
  refine r_and (r_loadn (ys := [ptr t 0, ptr m 0, vi 0, vi 1]) (knows_there _ (knows_pt _ _ _)) (by rfl) rfl) ?_
  obtain ⟨β, γ, c1, c2, c3, c4, hp, h1, h2, h3, h4⟩ := hc
  obtain ⟨d3, hd3⟩ : ∃ d3, d3 = pt b3 (.cells #[vi 0, vi 1, vi 0, vi 0] 67) := ⟨_, rfl⟩
  obtain ⟨d1, hd1⟩ : ∃ d1, d1 = pt b1 (.cells (freshL t m w v).toArray 35) := ⟨_, rfl⟩
  refine scall_perm (l' := (c1 ++ c2) :: d3 :: d1 :: (c3 ++ c4) :: l) ((List.Perm.of_eq (show _ = (d3 :: d1 :: c :: l).flatten by rw [hd3, hd1])).trans (perm_of_ct fun a => by
    have := ct_of_perm hp a
    simp only [List.flatten_cons, ct_append] at this ⊢; omega)) ?_
  refine doBoth_ok (root := topP) (who := who0) (nc := K1) ivb0 (by decide) (.inl rfl) (by decide) (by decide) h1 h2 (.refl _) (fun c' β' c1' hp' h1' => ?_)
  rw [known1] at h1'
  rw [known1w]
  refine r_ext (by rfl) ?_
  refine r_ext (by rfl) ?_
  refine r_new fun b4 => ?_
  refine r_new fun b5 => ?_
  refine r_store (knows_there _ (knows_pt _ _ _)) (by rfl) (by rfl) (by rfl) (by rfl) (change_there _ (change_pt _ _ _ _)) ?_
  refine r_store (knows_pt _ _ _) (by rfl) (by rfl) (by rfl) (by rfl) (change_pt _ _ _ _) ?_
  have k3 : ∀ (a b c : Chunk) (σ : St), Knows (a :: b :: c :: d3 :: σ) b3 (.cells #[vi 0, vi 1, vi 0, vi 0] 67) := fun a b c σ => by rw [hd3]; exact knows_right [_, _, _] (knows_pt _ _ _)
  have k1 : ∀ (a b c d : Chunk) (σ : St), Knows (a :: b :: c :: d :: d1 :: σ) b1 (.cells (freshL t m w v).toArray 35) := fun a b c d σ => by rw [hd1]; exact knows_right [_, _, _, _] (knows_pt _ _ _)
  refine r_fa ?_
  refine r_loadn (ys := [ptr t 0, ptr m 0, vi 0, vi 1]) (k1 _ _ _ _ _) (by rfl) ?_
  refine r_loadn (ys := [vi 0, vi 1, vi 0, vi 0]) (k3 _ _ _ _) (by rfl) ?_
  refine mkdirC_ok (p := [47, 97]) (mode := 493) ?_
  refine r_and (r_loadn (ys := [vi 0, vi 1, vi 0, vi 0]) (k3 _ _ _ _) (by rfl) rfl) ?_
  refine r_and (r_loadn (ys := [ptr t 0, ptr m 0, vi 0, vi 1]) (k1 _ _ _ _ _) (by rfl) rfl) ?_
  obtain ⟨d4, hd4⟩ : ∃ d4, d4 = pt b4 (.cells #[vi 0, vi 0, nilV, nilV, vi 0, vi 0, vi 0, vi 0, vi 0, vi 0, vi 0] 63) := ⟨_, rfl⟩
  obtain ⟨d5, hd5⟩ : ∃ d5, d5 = pt b5 (.cells #[vi 0, vi 0] 27) := ⟨_, rfl⟩
  refine scall_perm (l' := c' :: d5 :: d4 :: d3 :: d1 :: (c3 ++ c4) :: l) ((List.Perm.of_eq (show _ = (d5 :: d4 :: c' :: d3 :: d1 :: (c3 ++ c4) :: l).flatten by rw [hd4, hd5])).trans (perm_of_ct fun a => by
    simp only [List.flatten_cons, ct_append]; omega)) ?_
  refine doBoth_ok (root := topP) (who := who0) (nc := K1) ivb1 (by decide) (.inl rfl) (by decide) (by decide) h1' h2 hp' (fun c'' β'' c1'' hp'' h1'' => ?_)
  rw [known2] at h1''
  rw [known2w]
  refine r_ext (by rfl) ?_
  refine r_ext (by rfl) ?_
  refine r_new fun b6 => ?_
  refine r_new fun b7 => ?_
  refine r_store (knows_there _ (knows_pt _ _ _)) (by rfl) (by rfl) (by rfl) (by rfl) (change_there _ (change_pt _ _ _ _)) ?_
  refine r_store (knows_pt _ _ _) (by rfl) (by rfl) (by rfl) (by rfl) (change_pt _ _ _ _) ?_
  have k3' : ∀ (a b c d e : Chunk) (σ : St), Knows (a :: b :: c :: d :: e :: d3 :: σ) b3 (.cells #[vi 0, vi 1, vi 0, vi 0] 67) := fun a b c d e σ => by rw [hd3]; exact knows_right [_, _, _, _, _] (knows_pt _ _ _)
  have k1' : ∀ (a b c d e f : Chunk) (σ : St), Knows (a :: b :: c :: d :: e :: f :: d1 :: σ) b1 (.cells (freshL t m w v).toArray 35) := fun a b c d e f σ => by rw [hd1]; exact knows_right [_, _, _, _, _, _] (knows_pt _ _ _)
  refine r_fa ?_
  refine r_loadn (ys := [ptr t 0, ptr m 0, vi 0, vi 1]) (k1' _ _ _ _ _ _ _) (by rfl) ?_
  refine r_loadn (ys := [vi 0, vi 1, vi 0, vi 0]) (k3' _ _ _ _ _ _) (by rfl) ?_
  refine on_ok (op := 13) (p := [47, 97]) (q := [47, 97, 47, 98]) ?_
  refine r_and (r_loadn (ys := [vi 0, vi 1, vi 0, vi 0]) (k3' _ _ _ _ _ _) (by rfl) rfl) ?_
  refine r_and (r_loadn (ys := [ptr t 0, ptr m 0, vi 0, vi 1]) (k1' _ _ _ _ _ _ _) (by rfl) rfl) ?_
  obtain ⟨d6, hd6⟩ : ∃ d6, d6 = pt b6 (.cells #[vi 35, vi 0, nilV, nilV, vi 0, vi 0, vi 0, vi 0, vi 0, vi 0, vi 0] 63) := ⟨_, rfl⟩
  obtain ⟨d7, hd7⟩ : ∃ d7, d7 = pt b7 (.cells #[vi 0, vi 0] 27) := ⟨_, rfl⟩
  refine scall_perm (l' := c'' :: d7 :: d6 :: d5 :: d4 :: d3 :: d1 :: (c3 ++ c4) :: l) ((List.Perm.of_eq (show _ = (d7 :: d6 :: c'' :: d5 :: d4 :: d3 :: d1 :: (c3 ++ c4) :: l).flatten by rw [hd6, hd7])).trans (perm_of_ct fun a => by
    simp only [List.flatten_cons, ct_append]; omega)) ?_
  refine doBoth_ok (root := topP) (who := who0) (nc := K3) ivb1 (by decide) (.inr rfl) (by decide) (by decide) h1'' h2 hp'' (fun c3' β3 c13 hp3 h13 => ?_)
  rw [known3w]
  refine r_ext (by rfl) ?_
  refine r_ext (by rfl) ?_
  refine r_new fun b8 => ?_
  refine r_new fun b9 => ?_
  refine r_store (knows_there _ (knows_pt _ _ _)) (by rfl) (by rfl) (by rfl) (by rfl) (change_there _ (change_pt _ _ _ _)) ?_
  refine r_store (knows_pt _ _ _) (by rfl) (by rfl) (by rfl) (by rfl) (change_pt _ _ _ _) ?_
  refine r_fa ?_
  refine r_load1 (x := vi 0) (knows_right [_, _, _, _, _, _] (by rw [hd4]; exact knows_pt _ _ _)) (by rfl) ?_
  refine r_bin (v := .bool true) (by rfl) ?_
  refine r_guard_t ?_
  refine r_fa ?_
  refine r_load1 (x := vi 35) (knows_right [_, _, _, _] (by rw [hd6]; exact knows_pt _ _ _)) (by rfl) ?_
  refine r_bin (v := .bool true) (by rfl) ?_
  refine r_guard_t ?_
  refine r_fa ?_
  refine r_load1 (x := vi 39) (knows_there _ (knows_pt _ _ _)) (by rfl) ?_
  refine r_bin (v := .bool true) (by rfl) ?_
  refine r_guard_t ?_
  refine is_ok ?_
  have e1 : isOp 1 = true := by decide
  rw [e1]
  refine r_guard_t ?_
  refine is_ok ?_
  have e2 : isOp 3 = false := by decide
  rw [e2]
  refine r_not ?_
  exact ⟨l, ent_front [_, _, _, _, _, _, _, _, _, _] l, h⟩
end
end Go.Sl
namespace Go.Sl
variable [Ghost]
open Go.Mo
section
variable {T S : Tree} {n dir to : Int} {x y d : Nd} {s s2 : Str}
theorem getS_ins_self {l : List (Str × Int)} (h : getS s l = none) : getS s (insS s n l) = some n := by
  induction l with
  | nil => simp [insS, getS]
  | cons q r ih =>
    obtain ⟨t, m⟩ := q
    simp only [getS] at h
    split at h
    · cases h
    · rename_i hne
      unfold insS
      split
      · simp only [getS]; rw [if_neg hne]; exact ih h
      · simp [getS]
theorem getS_ins_ne {l : List (Str × Int)} (h : s ≠ s2) : getS s (insS s2 n l) = getS s l := by
  induction l with
  | nil => simp [insS, getS, h]
  | cons q r ih =>
    obtain ⟨t, m⟩ := q
    unfold insS
    split
    · simp only [getS, ih]
    · rw [getS, if_neg h]
theorem st_keep {T' : Tree} {x' : Nd} (hx : T.at n = some x) (hx' : T'.at n = some x') (e1 : x'.kind = x.kind) (e2 : x'.mode = x.mode) (e3 : x'.names = x.names) (e4 : x'.links = x.links)
    (hd : ∀ q ∈ x.names, (T'.dir q.2).isSome = (T.dir q.2).isSome) :
    (T'.st n).kind = (T.st n).kind ∧ (T'.st n).mode = (T.st n).mode ∧ (T'.st n).links = (T.st n).links ∧ T'.names n = T.names n := by
  have hdc : ∀ l : List (Str × Int), (∀ q ∈ l, (T'.dir q.2).isSome = (T.dir q.2).isSome) → dirCount T' l = dirCount T l := by
    intro l
    induction l with
    | nil => intro _; rfl
    | cons q r ih =>
      intro h
      obtain ⟨t, m⟩ := q
      have h1 : (T'.dir m).isSome = (T.dir m).isSome := h _ (.head _)
      simp only [dirCount, h1, ih fun q hq => h q (.tail _ hq)]
  have hds : T'.dirs n x' = T.dirs n x := by
    unfold Tree.dirs namedB
    rw [e4, e3, hdc x.names hd]
  refine ⟨?_, ?_, ?_, ?_⟩
  · unfold Tree.st Tree.stat
    rw [hx, hx']
    simp only [e1]
    repeat' split
    all_goals rfl
  · unfold Tree.st Tree.stat
    rw [hx, hx']
    simp only [e1, e2]
    repeat' split
    all_goals rfl
  · unfold Tree.st Tree.stat
    rw [hx, hx']
    simp only [e1, e4, hds]
    repeat' split
    all_goals rfl
  · unfold Tree.names Tree.dir
    rw [hx, hx']
    simp only [e1]
    by_cases hk : x.kind = 1
    · rw [if_pos hk, if_pos hk]; simp only [e3]
    · rw [if_neg hk, if_neg hk]
theorem turned (hrow : RowOk d.names) (hd : S.at dir = some d) (hs : getS s d.names = some n) (hx : S.at n = some x) (ht : S.at to = some y) (hyk : y.kind = 1) (hdk : d.kind = 1) (ha : getS s2 y.names = none) (hnt : n ≠ to) (hnd : n ≠ dir) :
    ((S.less dir s n).give to s2 n).find to s2 = some n ∧ (∃ x', ((S.less dir s n).give to s2 n).at n = some x' ∧ x'.kind = x.kind ∧ x'.mode = x.mode ∧ x'.names = x.names ∧ x'.links = x.links) ∧
    (∀ k, (((S.less dir s n).give to s2 n).dir k).isSome = (S.dir k).isSome) ∧ ((S.less dir s n).give to s2 n).find dir s = none := by
  have hl := less_at (s := s) hd hx hnd
  obtain ⟨y3, hy3, hyk3, hys3⟩ : ∃ y3, (S.less dir s n).at to = some y3 ∧ y3.kind = 1 ∧ y3.names = if to = dir then delS s d.names else y.names := by
    rw [hl to, if_neg (fun e => hnt e.symm)]
    by_cases e : to = dir
    · rw [if_pos e, if_pos e]; exact ⟨_, rfl, hdk, rfl⟩
    · rw [if_neg e, if_neg e]; exact ⟨y, ht, hyk, rfl⟩
  have hx2 : (S.less dir s n).at n = some { x with links := x.links - 1, up := if x.kind = 1 then n else x.up } := by rw [hl n, if_pos rfl]
  have hg := give_at (s := s2) hy3 hx2 hnt
  have hdy : dir = to → d = y := fun e => by subst e; rw [hd] at ht; cases ht; rfl
  refine ⟨?_, ⟨_, (hg n).trans (if_pos rfl), rfl, rfl, rfl, ?_⟩, fun k => ?_, ?_⟩
  · unfold Tree.find Tree.dir
    rw [hg to, if_neg (fun e => hnt e.symm), if_pos rfl]
    simp only [hyk3, if_true]
    refine getS_ins_self ?_
    rw [hys3]
    split
    · rename_i e
      refine getS_del_none ?_
      rw [hdy e.symm]; exact ha
    · exact ha
  · show x.links - 1 + 1 = x.links
    omega
  · unfold Tree.dir
    rw [hg k]
    by_cases h1 : k = n
    · rw [if_pos h1, h1, hx]
      simp only
      by_cases hk : x.kind = 1
      · simp [hk]
      · simp [hk]
    · rw [if_neg h1]
      by_cases h2 : k = to
      · rw [if_pos h2, h2, ht]
        simp only [hyk3, hyk, if_true]; rfl
      · rw [if_neg h2, hl k, if_neg h1]
        by_cases h3 : k = dir
        · rw [if_pos h3, h3, hd]
          simp only [hdk, if_true]; rfl
        · rw [if_neg h3]
  · unfold Tree.find Tree.dir
    rw [hg dir, if_neg (fun e => hnd e.symm)]
    by_cases h2 : dir = to
    · rw [if_pos h2]
      simp only [hyk3, if_true, hys3]
      rw [if_pos h2.symm]
      have hne : s ≠ s2 := fun e => by
        rw [← hdy h2, ← e, hs] at ha; cases ha
      rw [getS_ins_ne hne]
      exact getS_del_self hrow
    · rw [if_neg h2, hl dir, if_neg (fun e => hnd e.symm), if_pos rfl]
      simp only [hdk, if_true]
      exact getS_del_self hrow
theorem move_cases2 (dir : Int) (s : Str) (to : Int) (s2 : Str) : (∃ w, T.move dir s to s2 = (T, w) ∧ (w ≠ 0 ∨ ∃ n, T.find dir s = some n ∧ T.find to s2 = some n)) ∨
    (∃ d y n x, T.at dir = some d ∧ d.kind = 1 ∧ T.at to = some y ∧ y.kind = 1 ∧ rightN s2 = true ∧ getS s d.names = some n ∧ namedB to y = true ∧ T.at n = some x ∧ ¬ (x.kind = 1 ∧ (to = n ∨ T.within to n = true)) ∧
      ((∃ old z, getS s2 y.names = some old ∧ old ≠ n ∧ T.at old = some z ∧ z.names = [] ∧ (x.kind = 1 ↔ z.kind = 1) ∧ T.move dir s to s2 = (((T.take to s2 old).less dir s n).give to s2 n, 0)) ∨
       (getS s2 y.names = none ∧ T.move dir s to s2 = ((T.less dir s n).give to s2 n, 0)))) := by
  unfold Tree.move
  split
  · rename_i d y hd hy
    obtain ⟨hda, hdk⟩ := dir_at hd
    obtain ⟨hya, hyk⟩ := dir_at hy
    split
    · exact .inl ⟨_, rfl, .inl (by decide)⟩
    · rename_i hr
      split
      · exact .inl ⟨_, rfl, .inl (by decide)⟩
      · rename_i n hn
        split
        · exact .inl ⟨_, rfl, .inl (by decide)⟩
        · rename_i hnb
          split
          · exact .inl ⟨_, rfl, .inl (by decide)⟩
          · rename_i x hx
            split
            · exact .inl ⟨_, rfl, .inl (by decide)⟩
            · rename_i hin
              have hin' : ¬ (x.kind = 1 ∧ (to = n ∨ T.within to n = true)) := by
                simpa only [Bool.and_eq_true, Bool.or_eq_true, decide_eq_true_eq] using hin
              split
              · rename_i old ho
                split
                · rename_i e
                  exact .inl ⟨_, rfl, .inr ⟨n, by simp [Tree.find, hd, hn], by simp [Tree.find, hy, ho, e]⟩⟩
                · rename_i hon
                  split
                  · exact .inl ⟨_, rfl, .inl (by decide)⟩
                  · rename_i z hz
                    split
                    · exact .inl ⟨_, rfl, .inl (by decide)⟩
                    · rename_i h1
                      split
                      · exact .inl ⟨_, rfl, .inl (by decide)⟩
                      · rename_i h2
                        split
                        · exact .inl ⟨_, rfl, .inl (by decide)⟩
                        · rename_i h3
                          refine .inr ⟨d, y, n, x, hda, hdk, hya, hyk, by simpa using hr, hn, by simpa using hnb, hx, hin', .inl ⟨old, z, ho, hon, hz, by simpa using h3, ?_, rfl⟩⟩
                          simp only [Bool.and_eq_true, decide_eq_true_eq, bne_iff_ne, ne_eq, not_and, Decidable.not_not] at h1 h2
                          constructor
                          · exact fun h => h1 h
                          · exact fun h => Classical.byContradiction fun h4 => h2 h4 h
              · rename_i ho
                split
                · exact .inl ⟨_, rfl, .inl (by decide)⟩
                · exact .inr ⟨d, y, n, x, hda, hdk, hya, hyk, by simpa using hr, hn, by simpa using hnb, hx, hin', .inr ⟨ho, rfl⟩⟩
  · exact .inl ⟨_, rfl, .inl (by decide)⟩
theorem renamed (g : Good 0 T) (h0 : (T.move dir s to s2).2 = 0) : ∃ n, T.find dir s = some n ∧ (T.move dir s to s2).1.find to s2 = some n ∧
    ((T.move dir s to s2).1.st n).kind = (T.st n).kind ∧ ((T.move dir s to s2).1.st n).mode = (T.st n).mode ∧ ((T.move dir s to s2).1.st n).links = (T.st n).links ∧ (T.move dir s to s2).1.names n = T.names n ∧
    (T.find to s2 = some n ∨ (T.move dir s to s2).1.find dir s = none) := by
  rcases move_cases2 (T := T) dir s to s2 with ⟨w, h, hw⟩ | ⟨d, y, n, x, hd, hdk, hy, hyk, hr, hs, hnb, hx, hin, ⟨old, z, ho, hon, hz, hzn, hkk, h⟩ | ⟨ho, h⟩⟩
  ·
    rw [h] at h0 ⊢
    rcases hw with hw | ⟨n, h1, h2⟩
    · exact absurd h0 hw
    · exact ⟨n, h1, h2, rfl, rfl, rfl, rfl, .inl h2⟩
  · have hdd : T.dir dir = some d := by simp [Tree.dir, hd, hdk]
    have hyd : T.dir to = some y := by simp [Tree.dir, hy, hyk]
    obtain ⟨-, -, -, hnd, hw⟩ := g.names.live dir d s n hdd hs
    obtain ⟨-, -, -, hot, -⟩ := g.names.live to y s2 old hyd ho
    have hnt : n ≠ to := fun e => by
      subst e; rw [hy] at hx; cases hx
      exact hin ⟨hyk, .inl rfl⟩
    have hod : dir ≠ old := fun e => by
      subst e; rw [hd] at hz; cases hz
      rw [hzn] at hs; cases hs
    have hat := take_at (s := s2) hy hz hot
    have hsa : s = s2 → dir ≠ to := fun e1 e2 => by
      subst e1; subst e2
      rw [hd] at hy; cases hy
      rw [hs] at ho; cases ho
      exact hon rfl
    have hx2 : (T.take to s2 old).at n = some x := by rw [hat n (fun e => hon e.symm), if_neg hnt]; exact hx
    have ht2 : (T.take to s2 old).at to = some { y with names := delS s2 y.names } := by rw [hat to (fun e => hot e.symm), if_pos rfl]
    obtain ⟨d2, hd2, hs2, hk2, hr2⟩ : ∃ d2, (T.take to s2 old).at dir = some d2 ∧ getS s d2.names = some n ∧ d2.kind = 1 ∧ RowOk d2.names := by
      rw [hat dir hod]
      by_cases e : dir = to
      · rw [if_pos e]
        subst e
        rw [hd] at hy; cases hy
        exact ⟨_, rfl, by rw [getS_del_ne fun e => hsa e rfl]; exact hs, hdk, (g.row dir d hd).sublist (delS_sub s2 d.names)⟩
      · rw [if_neg e]; exact ⟨d, hd, hs, hdk, g.row dir d hd⟩
    obtain ⟨t1, ⟨x', t2, t3, t4, t5, t6⟩, t7, t8⟩ := turned (y := { y with names := delS s2 y.names }) hr2 hd2 hs2 hx2 ht2 hyk hk2 (getS_del_self (g.row to y hy)) hnt hnd
    rw [h]
    have hkeep := st_keep hx t2 t3 t4 t5 t6 (fun q hq => by
      rw [t7 q.2]
      obtain ⟨qs, k⟩ := q
      by_cases hko : k = old
      ·
        subst hko
        have hzk : z.kind ≠ 1 := fun hk => by
          have a1 := (namer_up g hx hq hz hk).2
          have a2 := (namer_up g hy (getS_mem ho) hz hk).2
          exact hnt (a1.symm.trans a2)
        have e1 : T.dir k = none := by simp [Tree.dir, hz, hzk]
        have e2 : (T.take to s2 k).dir k = none := by
          unfold Tree.dir
          cases hq2 : (T.take to s2 k).at k with
          | none => rfl
          | some u =>
            have h3 := reap_some (T := T.less to s2 k) k hq2
            rw [less_at hy hz hot, if_pos rfl] at h3
            cases h3
            exact if_neg hzk
        rw [e1, e2]
      · unfold Tree.dir
        rw [hat k hko]
        by_cases hkt : k = to
        · rw [if_pos hkt, hkt, hy]
          simp only [hyk, if_true]; rfl
        · rw [if_neg hkt])
    exact ⟨n, by simp [Tree.find, hdd, hs], t1, hkeep.1, hkeep.2.1, hkeep.2.2.1, hkeep.2.2.2, .inr t8⟩
  · have hdd : T.dir dir = some d := by simp [Tree.dir, hd, hdk]
    obtain ⟨-, -, -, hnd, hw⟩ := g.names.live dir d s n hdd hs
    have hnt : n ≠ to := fun e => by
      subst e; rw [hy] at hx; cases hx
      exact hin ⟨hyk, .inl rfl⟩
    obtain ⟨t1, ⟨x', t2, t3, t4, t5, t6⟩, t7, t8⟩ := turned (g.row dir d hd) hd hs hx hy hyk hdk ho hnt hnd
    rw [h]
    have hkeep := st_keep hx t2 t3 t4 t5 t6 (fun q _ => t7 q.2)
    exact ⟨n, by simp [Tree.find, hdd, hs], t1, hkeep.1, hkeep.2.1, hkeep.2.2.1, hkeep.2.2.2, .inr t8⟩
end
end Go.Sl
namespace Go.Sl
variable [Ghost]
open Go Go.Mo Go.Proofs
attribute [local irreducible] snil sfa sext sfield sguard sun sbin slen sload sstore snew snewObj sbuildR sbuildSlR smakeMapR smakeSlR slookup smapset srangeMap snext sentry scall scallv sextern sbuiltin sidx sindex sslice sconv srangeX sarg sand sjoin0 sjoin1 sjoin2 sloop0 sloop1 sloop2
theorem rename_zero {T : Tree} {M : Tab} {root : Plc} {who : Who} {nc : NCall} (h : (NWorld.rename ⟨T, M, root⟩ who nc).why = 0) :
    (walkM T M root who.cwd who.cred nc.path false).2 = 0 ∧ (walkM T M root who.cwd who.cred nc.to false).2 = 0 ∧
    (T.move (walkM T M root who.cwd who.cred nc.path false).1.dir.node (walkM T M root who.cwd who.cred nc.path false).1.last (walkM T M root who.cwd who.cred nc.to false).1.dir.node (walkM T M root who.cwd who.cred nc.to false).1.last).2 = 0 ∧
    (NWorld.rename ⟨T, M, root⟩ who nc).T = (T.move (walkM T M root who.cwd who.cred nc.path false).1.dir.node (walkM T M root who.cwd who.cred nc.path false).1.last (walkM T M root who.cwd who.cred nc.to false).1.dir.node (walkM T M root who.cwd who.cred nc.to false).1.last).1 := by
  unfold NWorld.rename NWorld.walk at h ⊢
  simp only at h ⊢
  cases hf : walkM T M root who.cwd who.cred nc.path false with
  | mk f e =>
    rw [hf] at h
    simp only at h ⊢
    by_cases he : e = 0
    · subst he
      rw [if_neg (by simp)] at h ⊢
      cases hg : walkM T M root who.cwd who.cred nc.to false with
      | mk g e2 =>
        rw [hg] at h
        simp only at h ⊢
        by_cases he2 : e2 = 0
        · subst he2
          rw [if_neg (by simp)] at h ⊢
          by_cases ho : NWorld.over ⟨T, M, root⟩ who f g = 0
          · rw [if_neg (by simp [ho])] at h ⊢
            exact ⟨trivial, rfl, h, rfl⟩
          · rw [if_pos ho] at h
            exact absurd h ho
        · rw [if_pos he2] at h
          exact absurd h he2
    · rw [if_pos he] at h
      exact absurd h he
abbrev actL (a : Act) : List Value := (actC a).toList
theorem flat_row : ∀ (acts : List Act) (i : Nat) (h : i < acts.length), ((acts.flatMap actL).drop (i * 15)).take 15 = actL acts[i]
  | a :: r, 0, _ => by
    simp only [Nat.zero_mul, List.drop_zero, List.flatMap_cons, List.getElem_cons_zero]
    exact List.take_left' (l₁ := actL a) rfl
  | a :: r, i + 1, h => by
    have ih := flat_row r i (by simpa using h)
    have e : (i + 1) * 15 = (actL a).length + i * 15 := by show (i + 1) * 15 = 15 + i * 15; omega
    rw [e, List.flatMap_cons, List.drop_append, List.drop_eq_nil_of_le (Nat.le_add_right _ _), Nat.add_sub_cancel_left, List.nil_append]
    simpa using ih
end Go.Sl
namespace Go.Sl
variable [Ghost]
open Go Go.Mo Go.Proofs
attribute [local irreducible] snil sfa sext sfield sguard sun sbin slen sload sstore snew snewObj sbuildR sbuildSlR smakeMapR smakeSlR slookup smapset srangeMap snext sentry scall scallv sextern sbuiltin sidx sindex sslice sconv srangeX sarg sand sjoin0 sjoin1 sjoin2 sloop0 sloop1 sloop2
section
variable {l r : St} {R : Value → SP} {v0 v1 v2 : Value} {acts : List Act} {one two : List Int}
theorem renames_ok (hs0 : SlAt l 15 v0 acts.length (acts.flatMap actL)) (oks : ∀ a ∈ acts, ActOk a)
    (hs1 : SlAt l 1 v1 one.length (one.map vi)) (ok1 : ∀ x ∈ one, I64 x)
    (hs2 : SlAt l 1 v2 two.length (two.map vi)) (ok2 : ∀ x ∈ two, I64 x)
    (h : R (.bool true) l) : scall Tryz.prog 3 #[v0, v1, v2] R l := by
  refine scall_post (S3_ok ?_)
  unfold S3
  refine fresh_ok (fun t m w v c0 hc0 => ?_)
  refine r_ext (by rfl) ?_
  refine r_ext (by rfl) ?_
  refine r_new fun b7 => ?_
  refine r_store (knows_pt _ _ _) (by rfl) (by rfl) (by rfl) (by rfl) (change_pt _ _ _ _) ?_
  refine r_not ?_
  refine r_guard_f ?_
  refine r_fa ?_
  refine r_fa ?_
  refine r_load1 (x := ptr t 0) (knows_pt _ _ _) (by rfl) ?_
  refine r_fa ?_
  refine r_fa ?_
  refine r_load1 (x := ptr m 0) (knows_pt _ _ _) (by rfl) ?_
  refine r_fa ?_
  refine r_fa ?_
  refine r_load1 (x := ptr w 0) (knows_pt _ _ _) (by rfl) ?_
  refine r_fa ?_
  refine r_fa ?_
  refine r_load1 (x := ptr v 0) (knows_pt _ _ _) (by rfl) ?_
  refine r_build (by rfl) ?_
  refine r_new fun b9 => ?_
  refine r_store (knows_pt _ _ _) (by rfl) (by rfl) (by rfl) (by rfl) (change_pt _ _ _ _) ?_
  obtain ⟨d7, hd7⟩ : ∃ d7, d7 = pt b7 (.cells (freshL t m w v).toArray 35) := ⟨_, rfl⟩
  obtain ⟨d9, hd9⟩ : ∃ d9, d9 = pt b9 (.cells #[ptr t 0, ptr m 0, ptr w 0, ptr v 0] 39) := ⟨_, rfl⟩
  have K7 : ∀ (g σ : St), Knows (g ++ (d7 :: σ)) b7 (.cells (freshL t m w v).toArray 35) := fun g σ => by rw [hd7]; exact knows_right g (knows_pt _ _ _)
  have K9 : ∀ (g σ : St), Knows (g ++ (d9 :: σ)) b9 (.cells #[ptr t 0, ptr m 0, ptr w 0, ptr v 0] 39) := fun g σ => by rw [hd9]; exact knows_right g (knows_pt _ _ _)
  have hs0' : ∀ g : St, SlAt (g ++ l) 15 v0 acts.length (acts.flatMap actL) := fun g => hs0.mono fun _ _ hb => knows_right g hb
  have hs1' : ∀ g : St, SlAt (g ++ l) 1 v1 one.length (one.map vi) := fun g => hs1.mono fun _ _ hb => knows_right g hb
  have hs2' : ∀ g : St, SlAt (g ++ l) 1 v2 two.length (two.map vi) := fun g => hs2.mono fun _ _ hb => knows_right g hb
  refine r_loop1 (fun k u σ => ∃ (i : Nat) (T : Tree) (M : Tab) (c : Chunk), σ.flatten.Perm (d9 :: d7 :: c :: l).flatten ∧ u = vi i ∧ i ≤ 40 ∧ BothC t m w v T M c ∧ IvB (1 + 4 * i) T M ∧ k = 40 - i) 40 ⟨0, T0, M0, c0, .of_eq (by rw [hd7, hd9]), rfl, by omega, hc0, ivb0, rfl⟩ ?_
  rintro k u σ ⟨i, T, M, c, hσ, rfl, hi40, hB, hI, rfl⟩
  have up : ∀ {b o}, Knows (d9 :: d7 :: c :: l) b o → Knows σ b o := fun hb => by unfold Knows at hb ⊢; exact hσ.mem_iff.2 hb
  refine r_join1I (fun vs σ' => ∃ b : Bool, vs = [.bool b] ∧ (b = true → i < acts.length ∧ i < 40) ∧ σ' = σ) ?_ ?_
  rotate_left
  · refine r_slen ((hs0' [_, _, _]).mono fun _ _ => up) ?_
    refine r_bin (by rfl) ?_
    refine r_guard_d (fun hg => ?_) (fun hg => ?_)
    · refine r_bin (by rfl) ?_
      refine ⟨_, rfl, fun hb => ?_, rfl⟩
      have hb' : (i : Int) < 40 := by simpa using hb
      omega
    · exact ⟨false, rfl, (fun hb => Bool.noConfusion hb), rfl⟩
  rintro x σ' ⟨b, hb, hbi, rfl⟩
  injection hb with hb _
  subst hb
  refine r_guard (fun hbt => ?_) (fun _ => ?_)
  ·
    obtain ⟨hlt, hi⟩ := hbi hbt
    refine r_loadn (ys := [ptr t 0, ptr m 0, ptr w 0, ptr v 0]) (up (K9 [] _)) (by rfl) ?_
    refine r_elemn ((hs0' [_, _, _]).mono fun _ _ => up) hlt (flat_row acts i hlt) ?_
    refine tame_ok (a := acts[i]) (oks _ (List.getElem_mem hlt)) (fun y hy1 hy2 => ?_)
    refine r_and (r_loadn (ys := [ptr t 0, ptr m 0, ptr w 0, ptr v 0]) (up (K9 [] _)) (by rfl) rfl) ?_
    refine scall_perm (l' := c :: d9 :: d7 :: l) (hσ.trans (perm_of_ct fun a => by simp only [List.flatten_cons, ct_append]; omega)) ?_
    refine bothDo_ok hI (by omega) hB hy1 hy2 (fun c' T' M' hB' hI' => ?_)
    refine r_bin (by rfl) ?_
    have hw : IntKind.i64.wrap ((i : Int) + 1) = ((i + 1 : Nat) : Int) := by rw [wrap_in (by omega) (by omega)]; simp
    rw [hw]
    refine ⟨40 - (i + 1), by omega, i + 1, T', M', c', perm_of_ct fun a => ?_, rfl, by omega, hB', hI'.mono (by omega), rfl⟩
    simp only [List.flatten_cons, ct_append]; omega
  obtain ⟨kk, hkk, hI⟩ : ∃ kk, kk ≤ 2 ^ 10 ∧ IvB kk T M := ⟨1 + 4 * i, by omega, hI⟩
  have hS := hI.small (by omega)
  refine scall_perm (l' := d9 :: d7 :: c :: l) hσ ?_
  refine path_ok (hs1' [_, _, _]) ok1 (fun p hp => ?_)
  refine path_ok (hs2' [_, _, _]) ok2 (fun q hq => ?_)
  obtain ⟨β, γ, c1, c2, c3, c4, hc, h1, h2, h3, h4⟩ := hB
  have hCx : ∀ g : St, Cx (g ++ (c :: l)) t m T M β := fun g =>
    ⟨⟨c1, fun b o hb => knows_right g (knows_in (hc.mem_iff.2 (List.mem_append_left _ hb)) _), h1⟩,
     ⟨c2, fun b o hb => knows_right g (knows_in (hc.mem_iff.2 (List.mem_append_right _ (List.mem_append_left _ hb))) _), h2⟩,
     hS, by have := hI.tab; omega, hI.ok, fun n x hx => by have := hI.keep.texts n x hx; omega⟩
  refine r_fa ?_
  refine r_fa ?_
  refine r_load1 (x := ptr t 0) (K7 [_] _) (by rfl) ?_
  refine r_fa ?_
  refine r_fa ?_
  refine r_load1 (x := ptr m 0) (K7 [_] _) (by rfl) ?_
  refine r_build (by rfl) ?_
  refine top_ok ?_
  refine r_and (r_load1 (x := ptr m 0) (K7 [_] _) (by rfl) rfl) ?_
  refine r_and (r_load1 (x := ptr t 0) (K7 [_] _) (by rfl) rfl) ?_
  refine top_ok ?_
  refine r_and (r_load1 (x := ptr m 0) (K7 [_] _) (by rfl) rfl) ?_
  refine r_and (r_load1 (x := ptr t 0) (K7 [_] _) (by rfl) rfl) ?_
  refine Walk_ok (root := topP) (from' := topP) (cr := {}) (hCx [_, _]) (by omega) ?_
  obtain ⟨F, hF⟩ : ∃ F, walkM T M topP topP {} p false = F := ⟨_, rfl⟩
  rw [hF]
  refine r_ext (by rfl) ?_
  refine r_ext (by rfl) ?_
  refine r_new fun b13 => ?_
  refine r_store (knows_pt _ _ _) (by rfl) (by rfl) (by rfl) (by rfl) (change_pt _ _ _ _) ?_
  refine r_fa ?_
  refine r_fa ?_
  refine r_load1 (x := ptr t 0) (K7 [_, _] _) (by rfl) ?_
  refine r_fa ?_
  refine r_fa ?_
  refine r_load1 (x := ptr m 0) (K7 [_, _] _) (by rfl) ?_
  refine r_build (by rfl) ?_
  refine top_ok ?_
  refine r_and (r_load1 (x := ptr m 0) (K7 [_, _] _) (by rfl) rfl) ?_
  refine r_and (r_load1 (x := ptr t 0) (K7 [_, _] _) (by rfl) rfl) ?_
  refine top_ok ?_
  refine r_and (r_load1 (x := ptr m 0) (K7 [_, _] _) (by rfl) rfl) ?_
  refine r_and (r_load1 (x := ptr t 0) (K7 [_, _] _) (by rfl) rfl) ?_
  refine Walk_ok (root := topP) (from' := topP) (cr := {}) (hCx [_, _, _]) (by omega) ?_
  obtain ⟨G, hG⟩ : ∃ G, walkM T M topP topP {} q false = G := ⟨_, rfl⟩
  rw [hG]
  refine r_ext (by rfl) ?_
  refine r_ext (by rfl) ?_
  refine r_new fun b15 => ?_
  refine r_store (knows_pt _ _ _) (by rfl) (by rfl) (by rfl) (by rfl) (change_pt _ _ _ _) ?_
  refine r_fa ?_
  refine r_fa ?_
  refine r_load1 (x := ptr t 0) (K7 [_, _, _] _) (by rfl) ?_
  refine r_fa ?_
  refine r_fa ?_
  refine r_load1 (x := vi F.1.dir.node) (by exact kn) (by rfl) ?_
  refine r_fa ?_
  refine r_load1 (x := vstr' F.1.last) (by exact kn) (by rfl) ?_
  refine tfind_ok (hCx [_, _, _, _]).tree ?_
  refine r_ext (by rfl) ?_
  refine r_ext (by rfl) ?_
  obtain ⟨n, hn⟩ : ∃ n, (T.find F.1.dir.node F.1.last).getD 0 = n := ⟨_, rfl⟩
  rw [hn]
  refine r_fa ?_
  refine r_fa ?_
  refine r_load1 (x := ptr t 0) (K7 [_, _, _] _) (by rfl) ?_
  refine tstat_ok (n := n) (hCx [_, _, _, _]).tree hS ?_
  refine r_ext (by rfl) ?_
  refine r_ext (by rfl) ?_
  refine r_new fun b19 => ?_
  refine r_store (knows_pt _ _ _) (by rfl) (by rfl) (by rfl) (by rfl) (change_pt _ _ _ _) ?_
  refine r_fa ?_
  refine r_fa ?_
  refine r_load1 (x := ptr t 0) (K7 [_, _, _, _] _) (by rfl) ?_
  refine tnames_ok (n := n) (hCx [_, _, _, _, _]).tree hS (fun x hx => hI.good.ordered hx) (fun nv nc hnc => ?_)
  obtain ⟨d13, hd13⟩ : ∃ d13, d13 = pt b13 (.cells (fV F.1).cells 48) := ⟨_, rfl⟩
  obtain ⟨d15, hd15⟩ : ∃ d15, d15 = pt b15 (.cells (fV G.1).cells 48) := ⟨_, rfl⟩
  obtain ⟨d19, hd19⟩ : ∃ d19, d19 = pt b19 (.cells (sttV (T.st n)).cells 42) := ⟨_, rfl⟩
  have K13 : ∀ (g σ : St), Knows (g ++ (d13 :: σ)) b13 (.cells #[vi F.1.dir.mount, vi F.1.dir.node, vstr' F.1.last, vi F.1.pl.mount, vi F.1.pl.node, .bool F.1.has, .bool F.1.slash] 48) := fun g σ => by rw [hd13]; exact knows_right g (knows_pt _ _ _)
  have K15 : ∀ (g σ : St), Knows (g ++ (d15 :: σ)) b15 (.cells #[vi G.1.dir.mount, vi G.1.dir.node, vstr' G.1.last, vi G.1.pl.mount, vi G.1.pl.node, .bool G.1.has, .bool G.1.slash] 48) := fun g σ => by rw [hd15]; exact knows_right g (knows_pt _ _ _)
  have K19 : ∀ (g σ : St), Knows (g ++ (d19 :: σ)) b19 (.cells #[vi (T.st n).node, vi (T.st n).kind, vi (T.st n).mode, vi (T.st n).uid, vi (T.st n).gid, vi (T.st n).links, vi (T.st n).size] 42) := fun g σ => by rw [hd19]; exact knows_right g (knows_pt _ _ _)
  have hsub : (nc :: pt b19 (.cells (sttV (T.st n)).cells 42) :: pt b15 (.cells (fV G.1).cells 48) :: pt b13 (.cells (fV F.1).cells 48) :: d9 :: d7 :: c :: l : St) = nc :: d19 :: d15 :: d13 :: d9 :: d7 :: c :: l := by rw [hd13, hd15, hd19]
  change (_ : St → Prop) (nc :: pt b19 (.cells (sttV (T.st n)).cells 42) :: pt b15 (.cells (fV G.1).cells 48) :: pt b13 (.cells (fV F.1).cells 48) :: d9 :: d7 :: c :: l)
  rw [hsub]
  refine r_fa ?_
  refine r_fa ?_
  refine r_load1 (x := ptr t 0) (K7 [_, _, _, _, _] _) (by rfl) ?_
  refine r_fa ?_
  refine r_fa ?_
  refine r_load1 (x := vi G.1.dir.node) (K15 [_, _] _) (by rfl) ?_
  refine r_fa ?_
  refine r_load1 (x := vstr' G.1.last) (K15 [_, _] _) (by rfl) ?_
  refine tfind_ok (hCx [_, _, _, _, _, _]).tree ?_
  refine r_ext (by rfl) ?_
  refine r_ext (by rfl) ?_
  refine r_fa ?_
  refine r_loadn (ys := [ptr t 0, ptr m 0, vi 0, vi 1]) (K7 [_, _, _, _, _] _) (by rfl) ?_
  refine top_ok ?_
  refine r_and (r_loadn (ys := [ptr t 0, ptr m 0, vi 0, vi 1]) (K7 [_, _, _, _, _] _) (by rfl) rfl) ?_
  refine r_build (by rfl) ?_
  refine on_ok (op := 13) (p := p) (q := q) ?_
  refine r_and (r_loadn (ys := [ptr t 0, ptr m 0, vi 0, vi 1]) (K7 [_, _, _, _, _] _) (by rfl) rfl) ?_
  refine scall_perm (l' := (c1 ++ c2) :: nc :: d19 :: d15 :: d13 :: d9 :: d7 :: (c3 ++ c4) :: l) (perm_of_ct fun a => by
    have := ct_of_perm hc a
    simp only [List.flatten_cons, ct_append] at this ⊢; omega) ?_
  refine doBoth_ok (root := topP) (who := who0) (nc := { op := 13, path := p, to := q }) hI (by omega) (.inr rfl) (by show p.length ≤ _; omega) (by show q.length ≤ _; omega) h1 h2 (.refl _) (fun c' β' c1' hp' h1' => ?_)
  obtain ⟨O, hO⟩ : ∃ O, NWorld.call ⟨T, M, topP⟩ who0 { op := 13, path := p, to := q } = O := ⟨_, rfl⟩
  have hO2 : NWorld.rename ⟨T, M, topP⟩ who0 { op := 13, path := p, to := q } = O := by
    rw [← hO]; unfold NWorld.call
    rw [if_neg (show ¬ (13 : Int) = 1 by decide), if_neg (show ¬ (13 : Int) = 2 by decide), if_neg (show ¬ (13 : Int) = 10 by decide), if_neg (show ¬ (13 : Int) = 9 by decide), if_neg (show ¬ (13 : Int) = 11 by decide), if_pos rfl]
  rw [hO] at h1' ⊢
  refine r_ext (by rfl) ?_
  refine r_ext (by rfl) ?_
  refine r_new fun b24 => ?_
  refine r_new fun b25 => ?_
  refine r_store (knows_there _ (knows_pt _ _ _)) (by rfl) (by rfl) (by rfl) (by rfl) (change_there _ (change_pt _ _ _ _)) ?_
  refine r_store (knows_pt _ _ _) (by rfl) (by rfl) (by rfl) (by rfl) (change_pt _ _ _ _) ?_
  refine r_fa ?_
  refine r_load1 (x := vi O.why) (knows_there _ (knows_pt _ _ _)) (by rfl) ?_
  refine r_bin (v := .bool (O.why != 0)) (by rfl) ?_
  by_cases hw : O.why = 0
  rotate_left
  · have : (O.why != 0) = true := by simpa using hw
    rw [this]
    refine r_guard_t ?_
    exact known_ok ⟨l, ent_front [_, _, _, _, _, _, _, _, _, _] l, h⟩
  have : (O.why != 0) = false := by simpa using hw
  rw [this]
  refine r_guard_f ?_
  have hz := rename_zero (T := T) (M := M) (root := topP) (who := who0) (nc := { op := 13, path := p, to := q }) (by rw [hO2]; exact hw)
  have hF' : walkM T M topP who0.cwd who0.cred p false = F := hF
  have hG' : walkM T M topP who0.cwd who0.cred q false = G := hG
  simp only [hF', hG', hO2] at hz
  obtain ⟨z1, z2, z3, z4⟩ := hz
  have hI2 : IvB (kk + 4) O.T M := by
    have := rename_inv (root := topP) (who := who0) (nc := { op := 13, path := p, to := q }) hI
    rw [hO2] at this; exact this
  obtain ⟨n0, f1, f2, f3, f4, f5, f6, f7⟩ := renamed hI.good z3
  rw [← z4] at f2 f3 f4 f5 f6 f7
  have hnn : n = n0 := by rw [← hn, f1]; rfl
  subst hnn
  have hTA : ∀ g : St, TreeAt (g ++ (c' :: nc :: d19 :: d15 :: d13 :: d9 :: d7 :: (c3 ++ c4) :: l)) t O.T β' := fun g => ⟨c1', fun b o hb => knows_right g (knows_in (hp'.mem_iff.2 (List.mem_append_left _ hb)) _), h1'⟩
  have hS2 : Small O.T := hI2.small (by omega)
  refine r_fa ?_
  refine r_fa ?_
  refine r_load1 (x := ptr t 0) (K7 [_, _, _, _, _, _, _, _] _) (by rfl) ?_
  refine r_fa ?_
  refine r_fa ?_
  refine r_load1 (x := vi G.1.dir.node) (K15 [_, _, _, _, _] _) (by rfl) ?_
  refine r_fa ?_
  refine r_load1 (x := vstr' G.1.last) (K15 [_, _, _, _, _] _) (by rfl) ?_
  refine tfind_ok (hTA [_, _]) ?_
  rw [f2]
  refine r_ext (by rfl) ?_
  refine r_ext (by rfl) ?_
  refine r_fa ?_
  refine r_fa ?_
  refine r_load1 (x := ptr t 0) (K7 [_, _, _, _, _, _, _, _] _) (by rfl) ?_
  refine tstat_ok (n := n) (hTA [_, _]) hS2 ?_
  refine r_ext (by rfl) ?_
  refine r_ext (by rfl) ?_
  refine r_new fun b28 => ?_
  refine r_store (knows_pt _ _ _) (by rfl) (by rfl) (by rfl) (by rfl) (change_pt _ _ _ _) ?_
  refine r_join1 ?_
  rw [z1, z2]
  refine r_bin (v := .bool false) (by rfl) ?_
  refine r_guard_f ?_
  refine r_bin (v := .bool false) (by rfl) ?_
  refine r_guard_f ?_
  refine r_not ?_
  refine r_guard_f ?_
  refine r_bin (v := .bool (n != n)) (by rfl) ?_
  rw [bne_self_eq_false]
  refine r_guard_f ?_
  refine r_fa ?_
  refine r_load1 (x := vi (O.T.st n).kind) (knows_pt _ _ _) (by rfl) ?_
  refine r_fa ?_
  refine r_load1 (x := vi (T.st n).kind) (K19 [_, _, _, _, _] _) (by rfl) ?_
  rw [f3]
  refine r_bin (v := .bool ((T.st n).kind != (T.st n).kind)) (by rfl) ?_
  rw [bne_self_eq_false]
  refine r_guard_f ?_
  refine r_fa ?_
  refine r_load1 (x := vi (O.T.st n).mode) (knows_pt _ _ _) (by rfl) ?_
  refine r_fa ?_
  refine r_load1 (x := vi (T.st n).mode) (K19 [_, _, _, _, _] _) (by rfl) ?_
  rw [f4]
  refine r_bin (v := .bool ((T.st n).mode != (T.st n).mode)) (by rfl) ?_
  rw [bne_self_eq_false]
  refine r_guard_f ?_
  refine r_fa ?_
  refine r_load1 (x := vi (O.T.st n).links) (knows_pt _ _ _) (by rfl) ?_
  refine r_fa ?_
  refine r_load1 (x := vi (T.st n).links) (K19 [_, _, _, _, _] _) (by rfl) ?_
  rw [f5]
  refine r_bin (v := .bool ((T.st n).links != (T.st n).links)) (by rfl) ?_
  rw [bne_self_eq_false]
  refine r_guard_f ?_
  refine r_fa ?_
  refine r_fa ?_
  refine r_load1 (x := ptr t 0) (K7 [_, _, _, _, _, _, _, _, _] _) (by rfl) ?_
  refine tnames_ok (n := n) (hTA [_, _, _]) hS2 (fun x hx => hI2.good.ordered hx) (fun nv2 nc2 hnc2 => ?_)
  have hnl : (T.names n).length ≤ 2 ^ 60 := by
    unfold Tree.names
    cases hq2 : T.dir n with
    | none => simp
    | some x =>
      simp only [List.length_map]
      have := (hI.sz.node n x (dir_at hq2).1).1
      omega
  refine texts_ok (ss := T.names n) (ts := O.T.names n) (hnc.at fun b o hb => knows_right [_, _, _, _, _] (knows_in hb _)) (hnc2.at fun b o hb => knows_in hb _) hnl ?_
  rw [decide_eq_true f6.symm]
  refine r_not ?_
  refine r_guard_f ?_
  obtain ⟨σ', hσ', hEnt⟩ : ∃ σ' : St, σ' = nc2 :: pt b28 (.cells (sttV (O.T.st n)).cells 42) :: pt b25 (.cells #[vi 0, vi 0] 27) :: pt b24 (.cells #[vi O.why, vi 0, nilV, nilV, vi 0, vi 0, vi 0, vi 0, vi 0, vi 0, vi 0] 63) :: c' :: nc :: d19 :: d15 :: d13 :: d9 :: d7 :: (c3 ++ c4) :: l ∧ Ent σ' l := ⟨_, rfl, ent_front [_, _, _, _, _, _, _, _, _, _, _, _] l⟩
  have end' : ∃ l2, Ent σ' l2 ∧ R (.bool true) l2 := ⟨l, hEnt, h⟩
  have rest : O.T.find F.1.dir.node F.1.last = none → (sfa 0 (ptr b7 0) fun v226 =>
    sfa 0 v226 fun v227 =>
    sload none v227 fun v228 =>
    sfa 0 (ptr b13 0) fun v229 =>
    sfa 1 v229 fun v230 =>
    sload none v230 fun v231 =>
    sfa 2 (ptr b13 0) fun v232 =>
    sload none v232 fun v233 =>
    scall Tryz.prog 15 #[v228, v231, v233] fun v234 =>
    sext v234 0 fun v235 =>
    sext v234 1 fun v236 =>
    sun .not v236 fun v238 =>
    sguard v238 (
    sun .not v236 fun v257_1 =>
    sguard v257_1 (
    scall Tryz.prog 20 #[] fun v265_3 =>
    (fun v l' => ∃ l2, Ent l' l2 ∧ R v l2) v265_3) (
    sbin Tryz.prog .none 3 .eql v235 (vi n) fun v261_1 =>
    sguard v261_1 (
    scall Tryz.prog 20 #[] fun v265_2 =>
    (fun v l' => ∃ l2, Ent l' l2 ∧ R v l2) v265_2) (
    (fun v l' => ∃ l2, Ent l' l2 ∧ R v l2) (.bool false)))) (
    sfa 0 (ptr b13 0) fun v240 =>
    sfa 1 v240 fun v241 =>
    sload none v241 fun v242 =>
    sfa 0 (ptr b15 0) fun v243 =>
    sfa 1 v243 fun v244 =>
    sload none v244 fun v245 =>
    sbin Tryz.prog .none 3 .eql v242 v245 fun v246 =>
    sguard v246 (
    sfa 2 (ptr b13 0) fun v248 =>
    sload none v248 fun v249 =>
    sfa 2 (ptr b15 0) fun v250 =>
    sload none v250 fun v251 =>
    sbin Tryz.prog .none 9 .eql v249 v251 fun v252 =>
    sguard v252 (
    sun .not v236 fun v257 =>
    sguard v257 (
    scall Tryz.prog 20 #[] fun v265_1 =>
    (fun v l' => ∃ l2, Ent l' l2 ∧ R v l2) v265_1) (
    sbin Tryz.prog .none 3 .eql v235 (vi n) fun v261 =>
    sguard v261 (
    scall Tryz.prog 20 #[] fun v265 =>
    (fun v l' => ∃ l2, Ent l' l2 ∧ R v l2) v265) (
    (fun v l' => ∃ l2, Ent l' l2 ∧ R v l2) (.bool false)))) (
    (fun v l' => ∃ l2, Ent l' l2 ∧ R v l2) (.bool false))) (
    (fun v l' => ∃ l2, Ent l' l2 ∧ R v l2) (.bool false)))) σ' := by
    intro hnone
    refine r_fa ?_
    refine r_fa ?_
    refine r_load1 (x := ptr t 0) (by rw [hσ']; exact K7 [_, _, _, _, _, _, _, _, _, _] _) (by rfl) ?_
    refine r_fa ?_
    refine r_fa ?_
    refine r_load1 (x := vi F.1.dir.node) (by rw [hσ']; exact K13 [_, _, _, _, _, _, _, _] _) (by rfl) ?_
    refine r_fa ?_
    refine r_load1 (x := vstr' F.1.last) (by rw [hσ']; exact K13 [_, _, _, _, _, _, _, _] _) (by rfl) ?_
    refine tfind_ok (by rw [hσ']; exact hTA [_, _, _, _]) ?_
    rw [hnone]
    refine r_ext (by rfl) ?_
    refine r_ext (by rfl) ?_
    refine r_not ?_
    refine r_guard_t ?_
    refine r_not ?_
    refine r_guard_t ?_
    exact known_ok end'
  change (_ : St → Prop) (nc2 :: pt b28 (.cells (sttV (O.T.st n)).cells 42) :: pt b25 (.cells #[vi 0, vi 0] 27) :: pt b24 (.cells #[vi O.why, vi 0, nilV, nilV, vi 0, vi 0, vi 0, vi 0, vi 0, vi 0, vi 0] 63) :: c' :: nc :: d19 :: d15 :: d13 :: d9 :: d7 :: (c3 ++ c4) :: l)
  rw [← hσ']
  refine r_join1 ?_
  rcases f7 with f7 | f7
  · rw [f7]
    refine r_guard_t ?_
    refine r_bin (v := .bool (n == n)) (by rfl) ?_
    rw [beq_self_eq_true]
    refine r_guard_t ?_
    exact known_ok end'
  · refine r_guard (fun _ => ?_) (fun _ => ?_)
    · refine r_bin (v := .bool ((T.find G.1.dir.node G.1.last).getD 0 == n)) (by rfl) ?_
      refine r_guard (fun _ => ?_) (fun _ => ?_)
      · exact known_ok end'
      · exact rest f7
    · refine r_guard_f ?_
      exact rest f7
end
end Go.Sl
namespace Go.Sl
variable [Ghost]
open Go Go.Mo Go.Proofs
def heapC (W : World) : Chunk := W.heap.toList.zipIdx.map fun p => (p.2, p.1)
theorem mem_heapC {W : World} {b : Nat} {o : Obj} : (b, o) ∈ heapC W ↔ W.heap[b]? = some o := by
  unfold heapC
  rw [List.mem_map, ← Array.getElem?_toList]
  constructor
  · rintro ⟨⟨x, i⟩, h, e⟩
    simp only [Prod.mk.injEq] at e
    obtain ⟨rfl, rfl⟩ := e
    exact List.mem_zipIdx_iff_getElem?.1 h
  · intro h
    exact ⟨(o, b), List.mem_zipIdx_iff_getElem?.2 h, rfl⟩
theorem heapC_nodup (W : World) : ((heapC W).map Prod.fst).Nodup := by
  have : (heapC W).map Prod.fst = W.heap.toList.zipIdx.map Prod.snd := by
    unfold heapC; rw [List.map_map]; rfl
  rw [this, List.zipIdx_map_snd]
  exact List.nodup_range'
theorem knows_heapC {W : World} {b : Nat} {o : Obj} (h : W.heap[b]? = some o) : Knows [heapC W] b o := by
  unfold Knows
  simp only [List.flatten_cons, List.flatten_nil, List.append_nil]
  exact mem_heapC.2 h
theorem flat_len {α : Type} {enc1 : α → List Value} {sz : Nat} (hsz : ∀ a, (enc1 a).length = sz) : ∀ al : List α, (al.flatMap enc1).length = al.length * sz
  | [] => by simp
  | a :: r => by rw [List.flatMap_cons, List.length_append, flat_len hsz r, hsz, List.length_cons, Nat.succ_mul]; omega
theorem flat_get {α : Type} {enc1 : α → List Value} {sz : Nat} (hsz : ∀ a, (enc1 a).length = sz) : ∀ (al : List α) (i j : Nat) (hi : i < al.length), j < sz → (al.flatMap enc1)[i * sz + j]? = (enc1 al[i])[j]?
  | a :: r, 0, j, _, hj => by
    rw [List.flatMap_cons, Nat.zero_mul, Nat.zero_add, List.getElem?_append_left (by rw [hsz]; exact hj)]; rfl
  | a :: r, i + 1, j, hi, hj => by
    have e : (i + 1) * sz + j = (enc1 a).length + (i * sz + j) := by rw [hsz, Nat.succ_mul]; omega
    rw [List.flatMap_cons, e, List.getElem?_append_right (Nat.le_add_right _ _), Nat.add_sub_cancel_left]
    exact flat_get hsz r i j (by simpa using hi) hj
theorem choose_list {α : Type} {Q : Nat → α → Prop} : ∀ n, (∀ i, i < n → ∃ a, Q i a) → ∃ al : List α, al.length = n ∧ ∀ i (h : i < al.length), Q i al[i]
  | 0, _ => ⟨[], rfl, fun i h => by cases h⟩
  | n + 1, h => by
    obtain ⟨al, hl, ha⟩ := choose_list n (fun i hi => h i (by omega))
    obtain ⟨a, hq⟩ := h n (by omega)
    refine ⟨al ++ [a], by simp [hl], fun i hi => ?_⟩
    by_cases hin : i < al.length
    · rw [List.getElem_append_left hin]; exact ha i hin
    · have e : i = n := by simp at hi; omega
      subst e
      rw [List.getElem_append_right (by omega)]
      simpa using hq
theorem takeAt_some : ∀ (cs : List Value) (o m : Nat), o + m ≤ cs.length → takeAt cs o m = some ((cs.drop o).take m)
  | [], o, m, h => by simp at h; obtain ⟨rfl, rfl⟩ := h; rfl
  | c :: cs, 0, 0, _ => rfl
  | c :: cs, 0, m + 1, h => by
    simp only [List.length_cons] at h
    simp only [takeAt, takeAt_some cs 0 m (by omega), List.drop_zero, List.take_succ_cons]
  | c :: cs, o + 1, 0, h => by
    simp only [List.length_cons] at h
    have := takeAt_some cs o 0 (by omega)
    simp only [takeAt, this, List.drop_succ_cons]
  | c :: cs, o + 1, m + 1, h => by
    simp only [List.length_cons] at h
    simp only [takeAt, takeAt_some cs o (m + 1) (by omega), List.drop_succ_cons]
section
variable {H : Type} {enc : TypeId × Value → H} {P : Program} {W : World} {sp : Nat → Bool}
theorem slot_int {n : Nat} {t : TypeId} {v : Value} {x : DataW H × List MemPlace} (ht : P.underlying t = some (.int .i64)) (h : DataW.trod enc P W 0 sp true n t [v] = some x) : ∃ z, v = vi z ∧ I64 z := by
  obtain ⟨z, e, -, hw⟩ := DataW.trod_int ht h
  simp only [List.cons.injEq, and_true] at e
  refine ⟨z, e, ?_⟩
  simp only [Lit.wf, Bool.and_eq_true, decide_eq_true_eq] at hw
  have e1 : IntKind.i64.min = -(2 ^ 63) := by decide
  have e2 : IntKind.i64.max = 2 ^ 63 - 1 := by decide
  rw [e1, e2] at hw
  unfold I64; omega
theorem slot_str {n : Nat} {t : TypeId} {v : Value} {x : DataW H × List MemPlace} (ht : P.underlying t = some .string) (h : DataW.trod enc P W 0 sp true n t [v] = some x) : ∃ s : Str, v = vstr' s ∧ s.length < 2 ^ 63 := by
  obtain ⟨s, e, -, hw⟩ := DataW.trod_string ht h
  simp only [List.cons.injEq, and_true] at e
  refine ⟨s.data.toList, by rw [e]; simp [bs], ?_⟩
  have e1 : maxLen = 2 ^ 63 - 1 := by decide
  rw [e1] at hw
  have : s.data.toList.length = s.size := rfl
  omega
theorem open_sl {α : Type} {t e : TypeId} {sz base : Nat} {v : Value} {d : DataW H} {p : List MemPlace} (ht : P.underlying t = some (.slice e)) (hc : P.cellsOf e = sz) (hpos : 0 < sz) (hv : Value.okWide P W .any base t v)
    (h : DataW.Trod enc P W 0 (fun _ => true) true t v d p) (enc1 : α → List Value) (good : α → Prop) (hsz : ∀ a, (enc1 a).length = sz)
    (elem : ∀ n cs y, DataW.trod enc P W 0 (fun _ => true) true n e cs = some y → ∃ a, cs = enc1 a ∧ good a) :
    ∃ al : List α, SlAt [heapC W] sz v al.length (al.flatMap enc1) ∧ ∀ a ∈ al, good a := by
  obtain ⟨fuel, hf⟩ := h
  have hvc : ∀ u : Value, (∀ cs, u ≠ .agg cs) → v.cells.toList = [u] → v = u := fun u hu hcs => by
    cases v with
    | agg cs =>
      exfalso
      unfold Value.okWide at hv
      rw [ht] at hv
      simp [Cell.okWide, Cell.ok, ht] at hv
    | _ => simpa [Value.cells] using hcs
  rcases Go.Deep.open_slice ht hf with ⟨hcs, -⟩ | ⟨a, len, cap, m, n, D, Pl, hcs, -, hl, -, hm, -, hx⟩
  · have := hvc _ (fun _ e => by cases e) hcs
    subst this
    exact ⟨[], ⟨by simp, ⟨_, _, rfl⟩, .inl rfl⟩, fun _ h => by cases h⟩
  · have := hvc _ (fun _ e => by cases e) hcs
    subst this
    simp only [if_true] at hm
    subst hm
    obtain ⟨al, has, hq⟩ := choose_list (α := α) (Q := fun i x => W.cells? 0 (a.add (i * sz)) sz = some (enc1 x) ∧ good x) len (fun i hi => by
      obtain ⟨cs', h1, h2⟩ := hx i (by omega)
      obtain ⟨x, rfl, hg⟩ := elem n cs' _ h2
      rw [hc] at h1
      exact ⟨x, h1, hg⟩)
    have hgood : ∀ x ∈ al, good x := fun x hx => by
      obtain ⟨i, hi, rfl⟩ := List.mem_iff_getElem.1 hx
      exact (hq i hi).2
    by_cases h0 : len = 0
    · have has0 : al = [] := List.eq_nil_of_length_eq_zero (by omega)
      subst has0
      exact ⟨[], ⟨by simp, ⟨_, _, by rw [h0]; rfl⟩, .inl rfl⟩, fun _ h => by cases h⟩
    · obtain ⟨-, -, hc0⟩ := World.cells?_some (hq 0 (by omega)).1
      have hcell := hc0 0 hpos
      have hx0 : ∃ u, (enc1 (al[0]'(by omega)))[0]? = some u := ⟨_, List.getElem?_eq_getElem (by rw [hsz]; exact hpos)⟩
      obtain ⟨u, hu⟩ := hx0
      rw [hu] at hcell
      have ea : (a.add (0 * sz)).add 0 = a := by simp [Addr.add]
      rw [ea] at hcell
      obtain ⟨b, o, spot⟩ := a
      unfold World.cell? at hcell
      simp only at hcell
      split at hcell
      · rename_i c ty fz hb
        cases spot with
        | some s => simp at hcell
        | none =>
          have get : ∀ i (hi : i < al.length) j, j < sz → c[o + (i * sz + j)]? = (enc1 al[i])[j]? := fun i hi j hj => by
            obtain ⟨-, -, hh⟩ := World.cells?_some (hq i hi).1
            have := hh j hj
            rw [add_off, add_off] at this
            simp only [World.cell?, hb] at this
            rw [← this, Nat.add_assoc]
            rfl
          have hfl := flat_len hsz al
          have get2 : ∀ k, k < len * sz → c[o + k]? = (al.flatMap enc1)[k]? := fun k hk => by
            have hi : k / sz < al.length := by rw [has]; exact (Nat.div_lt_iff_lt_mul hpos).2 hk
            have hj := Nat.mod_lt k hpos
            have ek : k / sz * sz + k % sz = k := by rw [Nat.mul_comm]; exact Nat.div_add_mod k sz
            have h1 := get (k / sz) hi (k % sz) hj
            have h2 := flat_get hsz al (k / sz) (k % sz) hi hj
            rw [ek] at h1 h2
            rw [h1, h2]
          have hnz : 0 < len * sz := Nat.mul_pos (by omega) hpos
          have hend : o + len * sz ≤ c.size := by
            have := get2 (len * sz - 1) (by omega)
            rw [List.getElem?_eq_getElem (by rw [hfl, has]; omega)] at this
            have := (Array.getElem?_eq_some_iff.1 this).1
            omega
          refine ⟨al, ⟨by rw [hfl], ⟨_, _, by rw [has]⟩, .inr ⟨b, o, _, c, ty, fz, by rw [has], knows_heapC hb, ?_⟩⟩, hgood⟩
          rw [has, takeAt_some _ _ _ (by simpa using hend)]
          congr 1
          apply List.ext_getElem?
          intro k
          by_cases hk : k < len * sz
          · rw [List.getElem?_take, if_pos hk, List.getElem?_drop, Array.getElem?_toList]; exact get2 k hk
          · rw [List.getElem?_take, if_neg hk, List.getElem?_eq_none (by rw [hfl, has]; omega)]
      · cases hcell
theorem flat_ints : ∀ xs : List Int, (xs.flatMap fun n => [vi n]) = xs.map vi
  | [] => rfl
  | x :: r => by rw [List.flatMap_cons, flat_ints r]; rfl
end
end Go.Sl
namespace Go.Proofs.YtoimajdjjbdhlaaGreatDoor.diropRenames
open Go Go.Sl Go.ChangeShapes Go.WideShapes Go.ChangeAt Go.RowKit
theorem own : ownKnob Tryz.prog.godebug = none := by kernel_rfl
theorem laidOut : laidOutB Tryz.prog = true := by kernel_rfl
theorem c3 : Tryz.prog.cellsOf 3 = 1 := by kernel_rfl
theorem c9 : Tryz.prog.cellsOf 9 = 1 := by kernel_rfl
theorem c27 : Tryz.prog.cellsOf 27 = 2 := by kernel_rfl
theorem c42 : Tryz.prog.cellsOf 42 = 7 := by kernel_rfl
theorem c44 : Tryz.prog.cellsOf 44 = 15 := by kernel_rfl
section
variable {H : Type} {enc : TypeId × Value → H} {W : World} {sp : Nat → Bool} [Ghost]
set_option maxRecDepth 100000 in
theorem act_open {n : Nat} {cs : List Value} {y : DataW H × List MemPlace} (h : DataW.trod enc Tryz.prog W 0 sp true n 44 cs = some y) : ∃ a, cs = actL a ∧ ActOk a := by
  obtain ⟨xs, m, -, -, hl, hxl, hf⟩ := DataW.trod_struct Tryz.underlying44 h
  rw [c44] at hl
  match cs, hl with
  | [v0, v1, v2, v3, v4, v5, v6, v7, v8, v9, v10, v11, v12, v13, v14], _ =>
    match xs, hxl with
    | [x0, x1, x2, x3, x4, x5, x6, x7], _ =>
    have g0 : DataW.trod enc Tryz.prog W 0 sp true m 3 (([v0, v1, v2, v3, v4, v5, v6, v7, v8, v9, v10, v11, v12, v13, v14].drop 0).take (Tryz.prog.cellsOf 3)) = some x0 := hf 0 _ rfl
    rw [c3] at g0
    have g1 : DataW.trod enc Tryz.prog W 0 sp true m 3 (([v0, v1, v2, v3, v4, v5, v6, v7, v8, v9, v10, v11, v12, v13, v14].drop 1).take (Tryz.prog.cellsOf 3)) = some x1 := hf 1 _ rfl
    rw [c3] at g1
    have g2 : DataW.trod enc Tryz.prog W 0 sp true m 3 (([v0, v1, v2, v3, v4, v5, v6, v7, v8, v9, v10, v11, v12, v13, v14].drop 2).take (Tryz.prog.cellsOf 3)) = some x2 := hf 2 _ rfl
    rw [c3] at g2
    have g3 : DataW.trod enc Tryz.prog W 0 sp true m 3 (([v0, v1, v2, v3, v4, v5, v6, v7, v8, v9, v10, v11, v12, v13, v14].drop 3).take (Tryz.prog.cellsOf 3)) = some x3 := hf 3 _ rfl
    rw [c3] at g3
    have g4 : DataW.trod enc Tryz.prog W 0 sp true m 9 (([v0, v1, v2, v3, v4, v5, v6, v7, v8, v9, v10, v11, v12, v13, v14].drop 4).take (Tryz.prog.cellsOf 9)) = some x4 := hf 4 _ rfl
    rw [c9] at g4
    have g5 : DataW.trod enc Tryz.prog W 0 sp true m 9 (([v0, v1, v2, v3, v4, v5, v6, v7, v8, v9, v10, v11, v12, v13, v14].drop 5).take (Tryz.prog.cellsOf 9)) = some x5 := hf 5 _ rfl
    rw [c9] at g5
    have g6 : DataW.trod enc Tryz.prog W 0 sp true m 42 (([v0, v1, v2, v3, v4, v5, v6, v7, v8, v9, v10, v11, v12, v13, v14].drop 6).take (Tryz.prog.cellsOf 42)) = some x6 := hf 6 _ rfl
    rw [c42] at g6
    have g7 : DataW.trod enc Tryz.prog W 0 sp true m 27 (([v0, v1, v2, v3, v4, v5, v6, v7, v8, v9, v10, v11, v12, v13, v14].drop 13).take (Tryz.prog.cellsOf 27)) = some x7 := hf 7 _ rfl
    rw [c27] at g7
    obtain ⟨n0, rfl, i0⟩ := slot_int Tryz.underlying3 g0
    obtain ⟨n1, rfl, i1⟩ := slot_int Tryz.underlying3 g1
    obtain ⟨n2, rfl, i2⟩ := slot_int Tryz.underlying3 g2
    obtain ⟨n3, rfl, i3⟩ := slot_int Tryz.underlying3 g3
    obtain ⟨s4, rfl, i4⟩ := slot_str Tryz.underlying9 g4
    obtain ⟨s5, rfl, i5⟩ := slot_str Tryz.underlying9 g5
    obtain ⟨ys, m2, -, -, -, hyl, hf2⟩ := DataW.trod_struct Tryz.underlying42 g6
    obtain ⟨zs, m3, -, -, -, hzl, hf3⟩ := DataW.trod_struct Tryz.underlying27 g7
    match ys, hyl with
    | [y0, y1, y2, y3, y4, y5, y6], _ =>
    match zs, hzl with
    | [z0, z1], _ =>
    have k0 : DataW.trod enc Tryz.prog W 0 sp true m2 3 (([v6, v7, v8, v9, v10, v11, v12].drop 0).take (Tryz.prog.cellsOf 3)) = some y0 := hf2 0 _ rfl
    rw [c3] at k0
    have k1 : DataW.trod enc Tryz.prog W 0 sp true m2 3 (([v6, v7, v8, v9, v10, v11, v12].drop 1).take (Tryz.prog.cellsOf 3)) = some y1 := hf2 1 _ rfl
    rw [c3] at k1
    have k2 : DataW.trod enc Tryz.prog W 0 sp true m2 3 (([v6, v7, v8, v9, v10, v11, v12].drop 2).take (Tryz.prog.cellsOf 3)) = some y2 := hf2 2 _ rfl
    rw [c3] at k2
    have k3 : DataW.trod enc Tryz.prog W 0 sp true m2 3 (([v6, v7, v8, v9, v10, v11, v12].drop 3).take (Tryz.prog.cellsOf 3)) = some y3 := hf2 3 _ rfl
    rw [c3] at k3
    have k4 : DataW.trod enc Tryz.prog W 0 sp true m2 3 (([v6, v7, v8, v9, v10, v11, v12].drop 4).take (Tryz.prog.cellsOf 3)) = some y4 := hf2 4 _ rfl
    rw [c3] at k4
    have k5 : DataW.trod enc Tryz.prog W 0 sp true m2 3 (([v6, v7, v8, v9, v10, v11, v12].drop 5).take (Tryz.prog.cellsOf 3)) = some y5 := hf2 5 _ rfl
    rw [c3] at k5
    have k6 : DataW.trod enc Tryz.prog W 0 sp true m2 3 (([v6, v7, v8, v9, v10, v11, v12].drop 6).take (Tryz.prog.cellsOf 3)) = some y6 := hf2 6 _ rfl
    rw [c3] at k6
    have j0 : DataW.trod enc Tryz.prog W 0 sp true m3 3 (([v13, v14].drop 0).take (Tryz.prog.cellsOf 3)) = some z0 := hf3 0 _ rfl
    rw [c3] at j0
    have j1 : DataW.trod enc Tryz.prog W 0 sp true m3 3 (([v13, v14].drop 1).take (Tryz.prog.cellsOf 3)) = some z1 := hf3 1 _ rfl
    rw [c3] at j1
    obtain ⟨a0, rfl, -⟩ := slot_int Tryz.underlying3 k0
    obtain ⟨a1, rfl, e1⟩ := slot_int Tryz.underlying3 k1
    obtain ⟨a2, rfl, -⟩ := slot_int Tryz.underlying3 k2
    obtain ⟨a3, rfl, e3⟩ := slot_int Tryz.underlying3 k3
    obtain ⟨a4, rfl, e4⟩ := slot_int Tryz.underlying3 k4
    obtain ⟨a5, rfl, -⟩ := slot_int Tryz.underlying3 k5
    obtain ⟨a6, rfl, -⟩ := slot_int Tryz.underlying3 k6
    obtain ⟨b0, rfl, f0⟩ := slot_int Tryz.underlying3 j0
    obtain ⟨b1, rfl, f1⟩ := slot_int Tryz.underlying3 j1
    exact ⟨{ kind := n0, dir := n1, to := n2, n := n3, s := s4, as' := s5, st := { node := a0, kind := a1, mode := a2, uid := a3, gid := a4, links := a5, size := a6 }, at' := { mount := b0, node := b1 } }, rfl, ⟨i0, i1, i2, i3, i4, i5, e1, e3, e4, f0, f1⟩⟩
theorem int_open {n : Nat} {cs : List Value} {y : DataW H × List MemPlace} (h : DataW.trod enc Tryz.prog W 0 sp true n 3 cs = some y) : ∃ a : Int, cs = [vi a] ∧ I64 a := by
  obtain ⟨z, e, hx, hw⟩ := DataW.trod_int Tryz.underlying3 h
  subst e
  obtain ⟨z2, e2, i2⟩ := slot_int Tryz.underlying3 h
  exact ⟨z2, by rw [e2], i2⟩
end
theorem same_of {W W' : World} (hb : ∀ k, k < W.heap.size → W'.heap[k]? = W.heap[k]?) {p : MemPlace} (hp : p.block < W.heap.size) : W.sameAt W' p := by
  cases p with
  | cell b o => exact World.cell?_of_block (w := W) (hb b hp)
  | map b => exact hb b hp
theorem kept_of {W W' : World} (hb : ∀ k, k < W.heap.size → W'.heap[k]? = W.heap[k]?) (h1 : W'.os = W.os) (h2 : W'.output = W.output) (may : MemPlace → Prop) : W.keptBut W' may := by
  refine ⟨h1, h2, fun i hi => ?_⟩
  rw [hb i hi]
  cases W.heap[i]? with
  | none => rfl
  | some o => cases o <;> first | exact ⟨rfl, rfl, rfl, fun _ _ => rfl⟩ | exact .inr ⟨rfl, rfl⟩ | rfl
set_option maxRecDepth 100000 in
theorem contract (H : Type) (enc : TypeId × Value → H) (W : World) (base : Nat) (args : Array Value) (ds gs : List (DataW H)) (before : List MemPlace)
    (hval : ∀ (j : Nat) t v, Tryz.f3.params[j]? = some t → args[j]? = some v → Value.okWide Tryz.prog W .any base t v)
    (hW : DataW.Whole enc Tryz.prog Tryz.f3.params.toList Rows.diropRenamesSpec.vars false W args.toList ds gs before) :
    Calls Tryz.prog 3 args W fun e W' => ∃ v, e = .returned v ∧ Rows.diropRenamesSpec.post enc Tryz.prog Tryz.f3 false true false false W args v W' := by
  have hW' := hW
  obtain ⟨p, q, hA0, hV, rfl, hfz, hnd⟩ := hW
  have hA : DataW.TrodAll enc Tryz.prog W 0 (fun _ => true) true Tryz.f3.params.toList args.toList ds p := hA0
  rw [Tryz.params3] at hA hval
  obtain ⟨v0, vs0, d0, ds0, p0, q0, hargs, rfl, rfl, h0, r0⟩ := trodAll_cons hA
  obtain ⟨v1, vs1, d1, ds1, p1, q1, rfl, rfl, rfl, h1, r1⟩ := trodAll_cons r0
  obtain ⟨v2, vs2, d2, ds2, p2, q2, rfl, rfl, rfl, h2, r2⟩ := trodAll_cons r1
  obtain ⟨rfl, rfl, rfl⟩ := trodAll_nil r2
  obtain rfl : args = #[v0, v1, v2] := by cases args; simp_all
  obtain ⟨rfl, rfl⟩ := trodVars_none hV
  clear hA0
  have hlt : ∀ x ∈ p0 ++ (p1 ++ (p2 ++ [])) ++ [], x.block < W.heap.size := fun x hx => by simpa using hW'.lt x hx
  letI : Ghost := ⟨W.os, W.output⟩
  obtain ⟨acts, hs0, ok0⟩ := open_sl (sz := 15) Tryz.underlying22 c44 (by decide) (hval 0 22 v0 rfl rfl) h0 actL ActOk (fun _ => rfl) (fun n cs y h => act_open h)
  obtain ⟨one, hs1, ok1⟩ := open_sl (sz := 1) Tryz.underlying23 c3 (by decide) (hval 1 23 v1 rfl rfl) h1 (fun n => [vi n]) I64 (fun _ => rfl) (fun n cs y h => int_open h)
  obtain ⟨two, hs2, ok2⟩ := open_sl (sz := 1) Tryz.underlying23 c3 (by decide) (hval 2 23 v2 rfl rfl) h2 (fun n => [vi n]) I64 (fun _ => rfl) (fun n cs y h => int_open h)
  rw [flat_ints] at hs1 hs2
  have hsat : Sat ([heapC W] ++ []) W := ⟨⟨by simpa using heapC_nodup W, fun b o hb => mem_heapC.1 (by simpa using hb)⟩, rfl, rfl⟩
  have hrun := renames_ok (R := fun v l => v = .bool true ∧ l = [heapC W]) hs0 ok0 hs1 ok1 hs2 ok2 ⟨rfl, rfl⟩ [] W hsat
  refine Calls.mono hrun fun e W' ⟨v, he, l', hs', hv, hl'⟩ => ?_
  subst hv; subst hl'
  have hblk : ∀ k, k < W.heap.size → W'.heap[k]? = W.heap[k]? := fun k hk => by
    have h3 : W.heap[k]? = some W.heap[k] := Array.getElem?_eq_getElem hk
    rw [h3]
    exact hs'.1.2 k _ (by simpa using mem_heapC.2 h3)
  have stay : ∀ (t : TypeId) (v : Value) (d : DataW H) (ps : List MemPlace), Tryz.prog.readableRec t = true → t < Tryz.prog.types.size → DataW.Trod enc Tryz.prog W 0 (fun _ => true) true t v d ps → (∀ x ∈ ps, x.block < W.heap.size) →
      DataW.Trod enc Tryz.prog W' 0 (fun b => decide (b < W.heap.size)) true t v d ps := fun t v d ps hr hrow ht hx =>
    WideElems.Trod_stays laidOut hr hrow ht (fun x h => same_of hblk (hx x h)) (fun x h => by simpa using hx x h)
  refine ⟨_, he, [d0, d1, d2], [], _, [], p0 ++ (p1 ++ p2), [], hW', trodAll_mk1 (shut_bool Tryz.underlying4 _), trodAll_mk3 (stay 22 v0 d0 p0 (by kernel_rfl) (of_decide_eq_true (by kernel_rfl)) h0 fun x hx => hlt x (by simp [hx])) (stay 23 v1 d1 p1 (by kernel_rfl) (of_decide_eq_true (by kernel_rfl)) h1 fun x hx => hlt x (by simp [hx])) (stay 23 v2 d2 p2 (by kernel_rfl) (of_decide_eq_true (by kernel_rfl)) h2 fun x hx => hlt x (by simp [hx])), rfl,
    kept_of hblk hs'.2.1 hs'.2.2 _, fun h => by cases h⟩
end Go.Proofs.YtoimajdjjbdhlaaGreatDoor.diropRenames
namespace Go.Proofs.YtoimajdjjbdhlaaGreatDoor.diropRenames
open Go Go.Sl Go.ChangeShapes Go.WideShapes Go.ChangeAt Go.RowKit
set_option maxRecDepth 100000 in
theorem lifted (os : Os) (started : os.Started) (H : Type) (enc : TypeId × Value → H) :
    ReturnsInHanded {} Tryz.checked os 3 .any (fun w args => (Rows.diropRenamesSpec.pre enc Tryz.prog Tryz.f3 Rows.diropRenamesRow.domain false w args ∧ laidMetH Tryz.prog Rows.diropRenamesRow.laid w) ∧ sizedMet enc Tryz.prog Tryz.f3 (OpenSpec.ofChange Rows.diropRenamesSpec) false w args)
      (Rows.diropRenamesSpec.post enc Tryz.prog Tryz.f3 false true false false) := by
  refine returnsInHanded_of_change_and (C := Tryz.checked) (X := fun w _ => laidMetH Tryz.prog Rows.diropRenamesRow.laid w) (fun _ _ _ hh h => h.of_heap hh) own started (by kernel_rfl) Tryz.func3
    (ChangeSpec.witness_shaped (enc := enc) (C := Tryz.checked) (os := os) (X := fun w _ => laidMetH Tryz.prog Rows.diropRenamesRow.laid w) false (World.laidAll Tryz.prog os Rows.diropRenamesRow.laid) #[.slice none 0 0, .slice none 0 0, .slice none 0 0] 8 (World.laidAll_os _ _ _)
      (World.shaped_of_ZipB (by kernel_rfl) (by kernel_rfl)) (by kernel_rfl) (by kernel_rfl) (by kernel_rfl)
      (by rw [MakeChecks.laidMetH_plain _ _ _ (by kernel_rfl)]; exact laidMet_laidAll _ (by kernel_rfl) (by kernel_rfl))) ?_
  intro W base args ds gs before hval hW _ _ _ _
  exact contract H enc W base args ds gs before hval hW
end Go.Proofs.YtoimajdjjbdhlaaGreatDoor.diropRenames
namespace Go.Proofs.YtoimajdjjbdhlaaGreatDoor.diropRenames
open Go Go.Sl Go.ChangeShapes Go.WideShapes Go.ChangeAt Go.RowKit
set_option maxHeartbeats 0
theorem k1 : (Rows.diropRenamesRow.inPlace == Tryz.prog.inPlace 3) = true := by kernel_rfl
theorem k2 : (Rows.diropRenamesRow.unfollowed == Tryz.prog.unfollowed 3) = true := by kernel_rfl
theorem k3 : (Rows.diropRenamesRow.recurses == Tryz.prog.recurses 3) = true := by kernel_rfl
theorem k4 : (Rows.diropRenamesRow.named == Tryz.prog.varsNamed 3) = true := by kernel_rfl
theorem and_mk {a b : Bool} (ha : a = true) (hb : b = true) : (a && b) = true := by rw [ha, hb]; rfl
theorem facts : joinedFacts Tryz.prog 3 Tryz.f3 Rows.diropRenamesSpec Rows.diropRenamesRow = true := by
  unfold joinedFacts
  exact (and_mk (and_mk (and_mk (and_mk (and_mk (and_mk (and_mk (and_mk (and_mk (and_mk (and_mk (and_mk (and_mk (and_mk (and_mk (and_mk (and_mk (and_mk (and_mk (and_mk (and_mk (and_mk (and_mk (and_mk (and_mk (and_mk (and_mk (and_mk (and_mk (and_mk (and_mk (by as_aux_lemma => kernel_rfl) (by as_aux_lemma => kernel_rfl)) (by as_aux_lemma => kernel_rfl)) (by as_aux_lemma => kernel_rfl)) (by as_aux_lemma => kernel_rfl)) (by as_aux_lemma => kernel_rfl)) (by as_aux_lemma => kernel_rfl)) (by as_aux_lemma => kernel_rfl)) (by as_aux_lemma => kernel_rfl)) k1) k2) k3) k4) (by as_aux_lemma => kernel_rfl)) (by as_aux_lemma => kernel_rfl)) (by as_aux_lemma => kernel_rfl)) (by as_aux_lemma => kernel_rfl)) (by as_aux_lemma => kernel_rfl)) (by as_aux_lemma => kernel_rfl)) (by as_aux_lemma => kernel_rfl)) (by as_aux_lemma => kernel_rfl)) (by as_aux_lemma => kernel_rfl)) (by as_aux_lemma => kernel_rfl)) (by as_aux_lemma => kernel_rfl)) (by as_aux_lemma => kernel_rfl)) (by as_aux_lemma => kernel_rfl)) (by as_aux_lemma => kernel_rfl)) (by as_aux_lemma => kernel_rfl)) (by as_aux_lemma => kernel_rfl)) (by as_aux_lemma => kernel_rfl)) (by as_aux_lemma => kernel_rfl)) (by as_aux_lemma => kernel_rfl))
theorem named : Tryz.pinned.checked.prog.funcNamed Rows.diropRenamesRow.func = some 3 := by kernel_rfl
theorem inst : Tryz.f3.isInstance Tryz.pinned.checked.prog Rows.diropRenamesRow.origin Rows.diropRenamesRow.targs := of_decide_eq_true (by kernel_rfl)
theorem wrap : Tryz.f3.isWrapper Tryz.pinned.checked.prog Rows.diropRenamesRow.wrapper Rows.diropRenamesRow.mainSum := by
  unfold Func.isWrapper
  first | (rw [if_pos (by decide +kernel)]; kernel_rfl) | (rw [if_neg (by decide +kernel)]; exact ⟨rfl, rfl⟩)
theorem said : Rows.DiropRenamesSaid :=
  OpenClaim.holds_of_wide 3 Tryz.f3 rfl rfl rfl rfl rfl rfl rfl ⟨rfl, rfl, rfl, rfl, rfl⟩ rfl rfl rfl rfl rfl named Tryz.func3 facts inst wrap
    (fun os started H enc _ => lifted os started H enc)
theorem plain (f : FuncId) (fn : Func) (hf : Tryz.pinned.checked.prog.funcNamed "warren/warrenlaw13.DiropRenames" = some f) (hfn : Tryz.pinned.checked.prog.funcs[f]? = some fn) :
    false = Tryz.pinned.checked.prog.looks [] ∧ ∀ (j : Nat) t, fn.params[j]? = some t → Tryz.pinned.checked.prog.wantsStandIn t = false := by
  obtain rfl : f = 3 := Option.some.inj ((show Tryz.prog.funcNamed "warren/warrenlaw13.DiropRenames" = some 3 by as_aux_lemma => kernel_rfl).symm.trans hf) |>.symm
  obtain rfl : fn = Tryz.f3 := (Option.some.inj (Tryz.func3.symm.trans hfn)).symm
  refine ⟨by as_aux_lemma => kernel_rfl, fun j t ht => ?_⟩
  rw [Tryz.params3] at ht
  have hm : t ∈ [22, 23, 23] := by simpa using Array.mem_of_getElem? ht
  have hall : ([22, 23, 23].all fun u => !Tryz.prog.wantsStandIn u) = true := by as_aux_lemma => kernel_rfl
  exact (show Tryz.prog.wantsStandIn t = false by simpa using List.all_eq_true.1 hall t hm)
theorem card : Rows.DiropRenamesCardSaid :=
  Claim7.holds_tied_plain_at .later [] _ _ _ _ said (fun _ h => by cases h) (by as_aux_lemma => kernel_rfl) (fun _ h => by cases h) diropRenames_row_tie rfl ⟨rfl, rfl⟩ (by as_aux_lemma => kernel_rfl) rfl plain (by as_aux_lemma => kernel_rfl)
end Go.Proofs.YtoimajdjjbdhlaaGreatDoor.diropRenames
