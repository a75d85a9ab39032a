/- Texts that are joined (T17 M2 P3 T18 T19 R7 T20 T21 M3 T22 T23 T24 T25 M4 T26 T27 T28 T29 T30 T31 T32 T33). Conditions: none beyond those that each theorem states. -/
import Derived.Test.YtoimajdjjbdhlaaGreatDoorZRC
import Derived.Laws.StructEq
import Derived.Laws.Strings2
import Derived.Lib.AppendZerosOnto
import Derived.Lib.Join
set_option linter.unusedSectionVars false
set_option linter.unusedSimpArgs false
set_option linter.unusedVariables false
namespace Go.Sl
variable [Ghost]
open Go Go.Mo Go.Proofs
attribute [local irreducible] snil sfa sext sfield sguard sun sbin slen sload sstore snew snewObj sbuildR sbuildSlR smakeMapR smakeSlR slookup smapset srangeMap snext sentry scall scallv sextern sbuiltin sidx sindex sslice sconv srangeX sarg sand sjoin0 sjoin1 sjoin2 sloop0 sloop1 sloop2
section
variable {l : St} {R : Value → SP} {nodes blocks : Int}
theorem pnew_ok (h1 : (blocks < 0 ∨ 256 < blocks) → R (.tuple #[.pointer none, vi 1]) l)
    (h2 : ¬ (blocks < 0 ∨ 256 < blocks) → ∀ p c, PPool p { blocks := blocks } c → R (.tuple #[ptr p 0, vi 0]) (c :: l)) : scall Tryz.prog 117 #[vi blocks] R l := by
  refine scall_post (S117_ok ?_)
  unfold S117
  (repeat' (first | refine z0 ?_ | refine z1 ?_ | refine z2 ?_ | refine z3 ?_ | refine z4 ?_ | refine z5 ?_ | refine z6 ?_ | refine z7 (fun hg => ?_) (fun hg => ?_) | refine z8 (fun hg => ?_) (fun hg => ?_) | refine z9 ?_ | refine za ?_ | refine zb ?_ | refine zc ?_ | refine zd ?_ | refine ze ?_ | refine zf ?_ | refine zg ?_ | refine zh ?_ | refine zi (fun _ => ?_) | refine zj (fun _ => ?_) | refine zk ?_ | refine zl ?_ ?_ | refine zm ?_ | refine zn ?_ | refine zo ?_ | exact (rfl : _ = _)))
  · exact ⟨l, .refl _, h1 (.inl hg)⟩
  · exact ⟨l, .refl _, h1 (.inr hg)⟩
  · rename_i hg1 mb pb
    refine ⟨_, ent_close [_, _] l, h2 (by omega) pb _ ⟨180, mb, #[], 0, [], [], [], ?_, .refl _, mapOf_empty kInt, .nil⟩⟩
    simp only [List.flatten_cons, List.flatten_nil, pt, List.append_nil]
    exact .refl _
theorem tnew_ok (h1 : Tree.new nodes blocks = none → R (.tuple #[.pointer none, vi 1]) l)
    (h2 : ∀ T, Tree.new nodes blocks = some T → ∀ t β c, PTree t T β c → R (.tuple #[ptr t 0, vi 0]) (c :: l)) : scall Tryz.prog 70 #[vi nodes, vi blocks] R l := by
  refine scall_post (S70_ok ?_)
  unfold S70
  have bad : (nodes < 1 ∨ 64 < nodes ∨ blocks < 0 ∨ 256 < blocks) → R (.tuple #[.pointer none, vi 1]) l := fun hb => h1 (by
    unfold Tree.new
    rw [if_pos (by simp only [Bool.or_eq_true, decide_eq_true_eq]; omega)])
  refine pnew_ok (fun hb => ?_) (fun hb p pc hpp => ?_)
  · (repeat' (first | refine z0 ?_ | refine z1 ?_ | refine z2 ?_ | refine z3 ?_ | refine z4 ?_ | refine z5 ?_ | refine z6 ?_ | refine z7 (fun hg => ?_) (fun hg => ?_) | refine z8 (fun hg => ?_) (fun hg => ?_) | refine z9 ?_ | refine za ?_ | refine zb ?_ | refine zc ?_ | refine zd ?_ | refine ze ?_ | refine zf ?_ | refine zg ?_ | refine zh ?_ | refine zi (fun _ => ?_) | refine zj (fun _ => ?_) | refine zk ?_ | refine zl ?_ ?_ | refine zm ?_ | refine zn ?_ | refine zo ?_ | exact (rfl : _ = _)))
    all_goals exact ⟨l, .refl _, bad (by omega)⟩
  · (repeat' (first | refine z0 ?_ | refine z1 ?_ | refine z2 ?_ | refine z3 ?_ | refine z4 ?_ | refine z5 ?_ | refine z6 ?_ | refine z7 (fun hg => ?_) (fun hg => ?_) | refine z8 (fun hg => ?_) (fun hg => ?_) | refine z9 ?_ | refine za ?_ | refine zb ?_ | refine zc ?_ | refine zd ?_ | refine ze ?_ | refine zf ?_ | refine zg ?_ | refine zh ?_ | refine zi (fun _ => ?_) | refine zj (fun _ => ?_) | refine zk ?_ | refine zl ?_ ?_ | refine zm ?_ | refine zn ?_ | refine zo ?_ | exact (rfl : _ = _)))
    · exact ⟨l, .drop _ _, bad (by omega)⟩
    · exact ⟨l, .drop _ _, bad (by omega)⟩
    · rename_i mb tb
      have hT0 : Tree.new nodes blocks = some { most := nodes, pool := { blocks := blocks }, all := [some { kind := 1, mode := 493, uid := 0, gid := 0, up := 1 }] } := by
        unfold Tree.new
        rw [if_neg (by simp only [Bool.or_eq_true, decide_eq_true_eq]; omega)]
      have hP0 : PTree tb { most := nodes, pool := { blocks := blocks }, all := [] } (fun _ => 0) [pt tb (.cells #[vi nodes, ptr p 0, .map (some mb), vi 0, vi 0] 117), pt mb (.map #[] 0), pc].flatten :=
        ⟨117, p, mb, 0, #[], 0, [], [], pc, by simp [pt], .refl _, mapOf_empty kInt, .nil, hpp⟩
      have hat0 : ∀ n, ({ most := nodes, pool := { blocks := blocks }, all := [] } : Tree).at n = none := fun n => by
        match n with
        | .ofNat 0 => rfl
        | .ofNat (k + 1) => rfl
        | .negSucc k => rfl
      have hS0 : Small { most := nodes, pool := { blocks := blocks }, all := [] } := ⟨by simp, by simp, fun n x h => absurd (h.symm.trans (hat0 n)) (by simp), fun n x h => absurd (h.symm.trans (hat0 n)) (by simp), fun n x h => absurd (h.symm.trans (hat0 n)) (by simp), by show 0 ≤ blocks ∧ blocks ≤ 2 ^ 30; omega⟩
      refine scall_close [pt tb (.cells #[vi nodes, ptr p 0, .map (some mb), vi 0, vi 0] 117), pt mb (.map #[] 0), pc] l ?_
      refine tadd_ok (st := { kind := 1, mode := 493 }) (text := []) (take_here _ _) hP0 hS0 (fun c' nb hP1 => ?_)
      have hx1 : (addT { most := nodes, pool := { blocks := blocks }, all := [] } { kind := 1, mode := 493 } []).at 1 = some { kind := 1, mode := 493, uid := 0, gid := 0, up := 0 } := by rfl
      obtain ⟨tt, tn, p2, m2, turns, es, clk, xs, cs, pc2, nm, up, mc, hpm, hxs, hm, hns, hpp2, hnm, hup⟩ := tree_open1 (take_here c' l) hP1 hx1
      have hk : Knows (c' :: l) nb (.cells (nCells 1 { kind := 1, mode := 493, uid := 0, gid := 0, up := 0 } nm up) tn) := by
        unfold Knows
        exact hpm.mem_iff.2 (by simp [pt, updB])
      (repeat' (first | refine z0 ?_ | refine z1 ?_ | refine z2 ?_ | refine z3 ?_ | refine z4 ?_ | refine z5 ?_ | refine z6 ?_ | refine z7 (fun hg => ?_) (fun hg => ?_) | refine z8 (fun hg => ?_) (fun hg => ?_) | refine z9 ?_ | refine za ?_ | refine zb ?_ | refine zc ?_ | refine zd ?_ | refine ze ?_ | refine zf ?_ | refine zg ?_ | refine zh ?_ | refine zi (fun _ => ?_) | refine zj (fun _ => ?_) | refine zk ?_ | refine zl ?_ ?_ | refine zm ?_ | refine zn ?_ | refine zo ?_ | exact (rfl : _ = _)))
      refine r_store hk rfl rfl rfl rfl (l' := [pt nb (.cells (nCells 1 { kind := 1, mode := 493, uid := 0, gid := 0, up := 1 } nm 1) tn), mc, pt tb (.cells (tCells (addT { most := nodes, pool := { blocks := blocks }, all := [] } { kind := 1, mode := 493 } []) p2 m2 turns) tt), pt m2 (.map es clk), pc2, cs].flatten :: l) (change_perm (d := [mc, pt tb (.cells (tCells (addT { most := nodes, pool := { blocks := blocks }, all := [] } { kind := 1, mode := 493 } []) p2 m2 turns) tt), pt m2 (.map es clk), pc2, cs].flatten ++ l.flatten) (by
        refine hpm.trans ?_
        have : updB (fun _ => 0) ((0 + 1 : Nat) : Int) nb 1 = nb := by simp [updB]
        simp [pt, updB]; exact .refl _) (by simp [pt])) ?_
      refine ⟨_, .refl _, h2 _ hT0 tb (updB (fun _ => 0) ((0 + 1 : Nat) : Int) nb) _ ?_⟩
      exact tree_shut1 (x' := { kind := 1, mode := 493, uid := 0, gid := 0, up := 1 }) hx1 hxs hm hns hpp2 hnm (fun _ => by rfl)
end
end Go.Sl
namespace Go.Mo
structure Mnt where
  top : Int
  lies : Plc := {}
  deriving DecidableEq, Inhabited
structure Tab where
  l : List (Option Mnt)
  deriving DecidableEq, Inhabited
def Tab.get (t : Tab) (m : Int) : Option Mnt := geti t.l (m + 1)
def overFrom (p : Plc) : Nat → List (Option Mnt) → Option Int
  | _, [] => none
  | i, some x :: r => if 0 < i ∧ x.lies = p then some (i : Int) else overFrom p (i + 1) r
  | i, none :: r => overFrom p (i + 1) r
def Tab.over (t : Tab) (p : Plc) : Option Int := overFrom p 0 t.l
def Tab.list (t : Tab) : List Int := (liveFrom 0 t.l).map (·.1)
def Tab.above (t : Tab) (m : Int) : List Int := ((liveFrom 0 t.l).filter fun q => 0 < q.1 && q.2.lies.mount = m).map (·.1)
def Tab.covered (t : Tab) (node : Int) : Bool := (liveFrom 0 t.l).any fun q => 0 < q.1 && q.2.lies.node = node
def Tab.bind (t : Tab) (p : Plc) (node : Int) : Tab × Int × Int := match t.get p.mount with
  | none => (t, 0, 1)
  | some _ => match t.over p with
    | some _ => (t, 0, 15)
    | none => if 8 ≤ t.list.length then (t, 0, 13) else ({ l := t.l ++ [some { top := node, lies := p }] }, t.l.length, 0)
def Tab.unbind (t : Tab) (m : Int) : Tab × Int := match t.get m with
  | none => (t, 1)
  | some _ => if m = 0 then (t, 1) else if t.above m != [] then (t, 15) else ({ l := seti t.l (m + 1) none }, 0)
def downGo (t : Tab) : Nat → Plc → Plc
  | 0, p => p
  | k + 1, p => match t.over p with
    | none => p
    | some m => match t.get m with
      | none => p
      | some x => downGo t k { mount := m, node := x.top }
def Tab.down (t : Tab) (p : Plc) : Plc := downGo t (t.l.length + 1) p
def Tab.up (t : Tab) (p : Plc) : Plc × Bool := match t.get p.mount with
  | none => (p, false)
  | some x => if p.mount = 0 ∨ x.top ≠ p.node then (p, false) else (x.lies, true)
def Tab.root (t : Tab) (m : Int) : Int × Bool := match t.get m with
  | none => (0, false)
  | some x => (x.top, true)
def Tab.new (root : Int) : Tab := { l := [some { top := root }] }
end Go.Mo
namespace Go.Sl
variable [Ghost]
open Go Go.Mo Go.Proofs
attribute [local irreducible] snil sfa sext sfield sguard sun sbin slen sload sstore snew snewObj sbuildR sbuildSlR smakeMapR smakeSlR slookup smapset srangeMap snext sentry scall scallv sextern sbuiltin sidx sindex sslice sconv srangeX sarg sand sjoin0 sjoin1 sjoin2 sloop0 sloop1 sloop2
abbrev mntV (x : Mnt) : Value := .agg #[vi x.top, vi x.lies.mount, vi x.lies.node]
def tabK (t : Tab) : List (Int × Value) := (liveFrom 0 t.l).map fun p => (p.1, mntV p.2)
def PTab (b : Nat) (t : Tab) (c : Chunk) : Prop :=
  ∃ ty m turns es clk, c.Perm [(b, .cells #[.map (some m), vi ((t.l.length : Int) - 1), vi turns] ty), (m, .map es clk)] ∧ MapOf kInt es clk (tabK t)
def TabAt (l : St) (b : Nat) (t : Tab) : Prop := ∃ c, In l c ∧ PTab b t c
theorem TabAt.there {l : St} {b : Nat} {t : Tab} (d : Chunk) (h : TabAt l b t) : TabAt (d :: l) b t := let ⟨c, h1, h2⟩ := h; ⟨c, h1.there d, h2⟩
theorem TabAt.open {l : St} {b : Nat} {t : Tab} (h : TabAt l b t) : ∃ ty m turns es clk, Knows l b (.cells #[.map (some m), vi ((t.l.length : Int) - 1), vi turns] ty) ∧ Knows l m (.map es clk) ∧ MapOf kInt es clk (tabK t) := by
  obtain ⟨c, hin, ty, m, turns, es, clk, hc, hm⟩ := h
  exact ⟨ty, m, turns, es, clk, hin _ _ (hc.mem_iff.2 (by simp)), hin _ _ (hc.mem_iff.2 (by simp)), hm⟩
theorem live_shift {α : Type} : ∀ (xs : List (Option α)) (i : Nat) (n : Int) (x : α), (n, x) ∈ liveFrom i xs ↔ (n + 1, x) ∈ liveFrom (i + 1) xs
  | [], i, n, x => by simp [liveFrom]
  | none :: r, i, n, x => live_shift r (i + 1) n x
  | some y :: r, i, n, x => by
    simp only [liveFrom, List.mem_cons, Prod.mk.injEq, live_shift r (i + 1) n x]
    have : n = (i : Int) ↔ n + 1 = ((i + 1 : Nat) : Int) := by omega
    rw [this]
theorem tab_lk (t : Tab) (m : Int) : lk m (tabK t) = (t.get m).map mntV := by
  have hnd : ((tabK t).map Prod.fst).Nodup := by unfold tabK; rw [List.map_map]; exact liveFrom_nodup t.l 0
  have key : ∀ (kv : List (Int × Value)) (v : Value), (kv.map Prod.fst).Nodup → (m, v) ∈ kv → lk m kv = some v := by
    intro kv
    induction kv with
    | nil => intro v _ h; cases h
    | cons p kv ih =>
      intro v hn h
      obtain ⟨a, u⟩ := p
      simp only [List.map_cons, List.nodup_cons] at hn
      rcases List.mem_cons.1 h with e | h
      · cases e; simp [lk]
      · have : m ≠ a := fun e => hn.1 (List.mem_map.2 ⟨(m, v), h, e⟩)
        simp only [lk, this, if_false]; exact ih v hn.2 h
  cases hg : t.get m with
  | some x =>
    have h1 : (m, x) ∈ liveFrom 0 t.l := (live_shift t.l 0 m x).2 ((geti_live t.l (m + 1) x).1 hg)
    exact key _ _ hnd (List.mem_map.2 ⟨(m, x), h1, rfl⟩)
  | none =>
    refine lk_none fun h => ?_
    obtain ⟨q, hq, rfl⟩ := List.mem_map.1 h
    obtain ⟨⟨a, x⟩, ha, rfl⟩ := List.mem_map.1 hq
    have := (geti_live t.l (a + 1) x).2 ((live_shift t.l 0 a x).1 ha)
    unfold Tab.get at hg
    simp only at hg
    rw [this] at hg; cases hg
section
variable {l : St} {b : Nat} {t : Tab} {m : Int} {R : Value → SP}
theorem mroot_ok (hT : TabAt l b t) (h : R (.tuple #[vi (t.root m).1, .bool (t.root m).2]) l) : scall Tryz.prog 69 #[ptr b 0, vi m] R l := by
  refine scall_post (S69_ok ?_)
  obtain ⟨ty, mb, turns, es, clk, hk, hkm, hm⟩ := hT.open
  unfold S69
  (repeat' (first | refine z0 ?_ | refine z1 ?_ | refine z2 ?_ | refine z3 ?_ | refine z4 ?_ | refine z5 ?_ | refine z6 ?_ | refine z7 (fun hg => ?_) (fun hg => ?_) | refine z8 (fun hg => ?_) (fun hg => ?_) | refine z9 ?_ | refine za ?_ | refine zb ?_ | refine zc ?_ | refine zd ?_ | refine ze ?_ | refine zf ?_ | refine zg ?_ | refine zh ?_ | refine zi (fun _ => ?_) | refine zj (fun _ => ?_) | refine zk ?_ | refine zl ?_ ?_ | refine zm ?_ | refine zn ?_ | refine zo ?_ | exact (rfl : _ = _)))
  refine r_look2 (K := kInt) (a := m) (by exact kn) hm ?_
  rw [tab_lk]
  cases hg : t.get m with
  | none =>
    (repeat' (first | refine z0 ?_ | refine z1 ?_ | refine z2 ?_ | refine z3 ?_ | refine z4 ?_ | refine z5 ?_ | refine z6 ?_ | refine z7 (fun hg => ?_) (fun hg => ?_) | refine z8 (fun hg => ?_) (fun hg => ?_) | refine z9 ?_ | refine za ?_ | refine zb ?_ | refine zc ?_ | refine zd ?_ | refine ze ?_ | refine zf ?_ | refine zg ?_ | refine zh ?_ | refine zi (fun _ => ?_) | refine zj (fun _ => ?_) | refine zk ?_ | refine zl ?_ ?_ | refine zm ?_ | refine zn ?_ | refine zo ?_ | exact (rfl : _ = _)))
    refine ⟨l, by exact drp, ?_⟩
    simp only [Tab.root, hg] at h; exact h
  | some x =>
    (repeat' (first | refine z0 ?_ | refine z1 ?_ | refine z2 ?_ | refine z3 ?_ | refine z4 ?_ | refine z5 ?_ | refine z6 ?_ | refine z7 (fun hg => ?_) (fun hg => ?_) | refine z8 (fun hg => ?_) (fun hg => ?_) | refine z9 ?_ | refine za ?_ | refine zb ?_ | refine zc ?_ | refine zd ?_ | refine ze ?_ | refine zf ?_ | refine zg ?_ | refine zh ?_ | refine zi (fun _ => ?_) | refine zj (fun _ => ?_) | refine zk ?_ | refine zl ?_ ?_ | refine zm ?_ | refine zn ?_ | refine zo ?_ | exact (rfl : _ = _)))
    refine ⟨l, by exact drp, ?_⟩
    simp only [Tab.root, hg] at h; exact h
end
end Go.Sl
namespace Go.Sl
variable [Ghost]
open Go Go.Mo Go.Proofs
attribute [local irreducible] snil sfa sext sfield sguard sun sbin slen sload sstore snew snewObj sbuildR sbuildSlR smakeMapR smakeSlR slookup smapset srangeMap snext sentry scall scallv sextern sbuiltin sidx sindex sslice sconv srangeX sarg sand sjoin0 sjoin1 sjoin2 sloop0 sloop1 sloop2
section
variable {l : St} {b : Nat} {t : Tab} {m : Int} {R : Value → SP}
theorem mup_ok {p : Plc} (hT : TabAt l b t) (h : R (.tuple #[plV (t.up p).1, .bool (t.up p).2]) l) : scall Tryz.prog 208 #[ptr b 0, plV p] R l := by
  refine scall_post (S208_ok ?_)
  obtain ⟨ty, mb, turns, es, clk, hk, hkm, hm⟩ := hT.open
  unfold S208
  (repeat' (first | refine z0 ?_ | refine z1 ?_ | refine z2 ?_ | refine z3 ?_ | refine z4 ?_ | refine z5 ?_ | refine z6 ?_ | refine z7 (fun hg => ?_) (fun hg => ?_) | refine z8 (fun hg => ?_) (fun hg => ?_) | refine z9 ?_ | refine za ?_ | refine zb ?_ | refine zc ?_ | refine zd ?_ | refine ze ?_ | refine zf ?_ | refine zg ?_ | refine zh ?_ | refine zi (fun _ => ?_) | refine zj (fun _ => ?_) | refine zk ?_ | refine zl ?_ ?_ | refine zm ?_ | refine zn ?_ | refine zo ?_ | exact (rfl : _ = _)))
  refine r_look2 (K := kInt) (a := p.mount) (by exact kn) hm ?_
  rw [tab_lk]
  cases hg : t.get p.mount with
  | none =>
    simp only [Tab.up, hg] at h
    (repeat' (first | refine z0 ?_ | refine z1 ?_ | refine z2 ?_ | refine z3 ?_ | refine z4 ?_ | refine z5 ?_ | refine z6 ?_ | refine z7 (fun hg => ?_) (fun hg => ?_) | refine z8 (fun hg => ?_) (fun hg => ?_) | refine z9 ?_ | refine za ?_ | refine zb ?_ | refine zc ?_ | refine zd ?_ | refine ze ?_ | refine zf ?_ | refine zg ?_ | refine zh ?_ | refine zi (fun _ => ?_) | refine zj (fun _ => ?_) | refine zk ?_ | refine zl ?_ ?_ | refine zm ?_ | refine zn ?_ | refine zo ?_ | exact (rfl : _ = _)))
    exact ⟨l, by exact drp, h⟩
  | some x =>
    by_cases hp : p.mount = 0 ∨ x.top ≠ p.node
    · simp only [Tab.up, hg, if_pos hp] at h
      (repeat' (first | refine z0 ?_ | refine z1 ?_ | refine z2 ?_ | refine z3 ?_ | refine z4 ?_ | refine z5 ?_ | refine z6 ?_ | refine z7 (fun hg => ?_) (fun hg => ?_) | refine z8 (fun hg => ?_) (fun hg => ?_) | refine z9 ?_ | refine za ?_ | refine zb ?_ | refine zc ?_ | refine zd ?_ | refine ze ?_ | refine zf ?_ | refine zg ?_ | refine zh ?_ | refine zi (fun _ => ?_) | refine zj (fun _ => ?_) | refine zk ?_ | refine zl ?_ ?_ | refine zm ?_ | refine zn ?_ | refine zo ?_ | exact (rfl : _ = _)))
      all_goals first
        | exact ⟨l, by exact drp, h⟩
        | (exfalso; simp_all; done)
    · simp only [Tab.up, hg, if_neg hp] at h
      (repeat' (first | refine z0 ?_ | refine z1 ?_ | refine z2 ?_ | refine z3 ?_ | refine z4 ?_ | refine z5 ?_ | refine z6 ?_ | refine z7 (fun hg => ?_) (fun hg => ?_) | refine z8 (fun hg => ?_) (fun hg => ?_) | refine z9 ?_ | refine za ?_ | refine zb ?_ | refine zc ?_ | refine zd ?_ | refine ze ?_ | refine zf ?_ | refine zg ?_ | refine zh ?_ | refine zi (fun _ => ?_) | refine zj (fun _ => ?_) | refine zk ?_ | refine zl ?_ ?_ | refine zm ?_ | refine zn ?_ | refine zo ?_ | exact (rfl : _ = _)))
      all_goals first
        | exact ⟨l, by exact drp, h⟩
        | (exfalso; simp_all; done)
end
end Go.Sl
namespace Go.Sl
variable [Ghost]
open Go Go.Mo Go.Proofs
attribute [local irreducible] snil sfa sext sfield sguard sun sbin slen sload sstore snew snewObj sbuildR sbuildSlR smakeMapR smakeSlR slookup smapset srangeMap snext sentry scall scallv sextern sbuiltin sidx sindex sslice sconv srangeX sarg sand sjoin0 sjoin1 sjoin2 sloop0 sloop1 sloop2
def IterW (P : Program) (gv : Value) (G : St) (A : List (List Value) → Prop) : Prop :=
  IterC P gv G (List (List Value)) (fun d xs => ∃ rest, A (d ++ xs.toList :: rest)) (fun d xs => d ++ [xs.toList]) [] A
section
variable {l G : St} {b cb : Nat} {t : Tab} {m : Int} {R : Value → SP}
abbrev tabRow (t : Tab) : List (List Value) := (liveFrom 0 t.l).map fun p => [vi p.1, mntV p.2]
theorem mordered_iter {ty : TypeId} (hc : Knows G cb (.cells #[ptr b 0] ty)) (hT : TabAt G b t) (hS : t.l.length ≤ 2 ^ 30) :
    IterW Tryz.prog (.func (.func 176) #[] #[ptr cb 0]) G (fun d => d = tabRow t) := by
  intro y I J hyf hy σ hI0
  refine r_callv (by kernel_rfl) ?_
  show scall Tryz.prog 176 #[y, ptr cb 0] _ _
  refine scall_post (S176_ok ?_)
  obtain ⟨ty2, mb, turns, es, clk, hk, hkm, hm⟩ := hT.open
  have hc' := knows_left hc σ
  have hk' := knows_left hk σ
  have hkm' := knows_left hkm σ
  unfold S176
  (repeat' (first | refine z0 ?_ | refine z1 ?_ | refine z2 ?_ | refine z3 ?_ | refine z4 ?_ | refine z5 ?_ | refine z6 ?_ | refine z7 (fun hg => ?_) (fun hg => ?_) | refine z8 (fun hg => ?_) (fun hg => ?_) | refine z9 ?_ | refine za ?_ | refine zb ?_ | refine zc ?_ | refine zd ?_ | refine ze ?_ | refine zf ?_ | refine zg ?_ | refine zh ?_ | refine zi (fun _ => ?_) | refine zj (fun _ => ?_) | refine zk ?_ | refine zl ?_ ?_ | refine zm ?_ | refine zn ?_ | refine zo ?_ | exact (rfl : _ = _)))
  refine keysL_call fun kb kty => ?_
  have hlen : t.list.length ≤ 2 ^ 30 := by
    have := liveFrom_len t.l 0
    unfold Tab.list; simp; omega
  refine scall_frame (m := pt kb (.cells #[.map (some mb)] kty) :: G) (r := σ) (by simp [Split]) ?_
  refine sortedI_ok (L := t.list) ⟨_, _, _, rfl, by kernel_rfl⟩ ?_ (liveFrom_sorted _ _) (by omega) (fun v c hs => ?_)
  · have := keys_iter_laid (G := pt kb (.cells #[.map (some mb)] kty) :: G) (knows_pt _ _ _) (knows_there _ hkm) hm
    have e : ((tabK t).map fun p => kInt.enc p.1) = t.list.map vi := by unfold tabK Tab.list; rw [List.map_map, List.map_map]; rfl
    rw [e] at this; exact this
  · have hsa := hs.at (l := c :: pt kb (.cells #[.map (some mb)] kty) :: G) (fun b o hbo => knows_in hbo _)
    have hc2 := knows_there c (knows_there (pt kb (.cells #[.map (some mb)] kty)) hc)
    have hk2 := knows_there c (knows_there (pt kb (.cells #[.map (some mb)] kty)) hk)
    have hkm2 := knows_there c (knows_there (pt kb (.cells #[.map (some mb)] kty)) hkm)
    have hcl : ∀ σ2, Ent ((c :: pt kb (.cells #[.map (some mb)] kty) :: G) ++ σ2) (G ++ σ2) := fun σ2 => (Ent.drop _ _).trans (.drop _ _)
    generalize (c :: pt kb (.cells #[.map (some mb)] kty) :: G) = G2 at hsa hc2 hk2 hkm2 hcl ⊢
    have hsa' : ∀ σ, SlAt (G2 ++ σ) 1 v t.list.length (t.list.map vi) := fun σ => by
      obtain ⟨h1, h2, h3 | ⟨b, o, cap, cs, ty, fz, h4, h5, h6⟩⟩ := hsa
      · exact ⟨h1, h2, .inl h3⟩
      · exact ⟨h1, h2, .inr ⟨b, o, cap, cs, ty, fz, h4, knows_left h5 σ, h6⟩⟩
    have hrl : (tabRow t).length = t.list.length := by simp [Tab.list]
    refine r_slen (hsa' σ) ?_
    refine r_loop1 (fun k v σ' => ∃ (i : Nat) (σ1 : St), v = vi i ∧ σ' = G2 ++ σ1 ∧ i ≤ t.list.length ∧ k = t.list.length - i ∧ I ((tabRow t).take i) σ1) t.list.length ⟨0, σ, rfl, rfl, Nat.zero_le _, rfl, by simpa using hI0⟩ ?_
    rintro k w σ' ⟨i, σ1, rfl, rfl, hi, rfl, hI1⟩
    have hc3 := knows_left hc2 σ1
    have hk3 := knows_left hk2 σ1
    have hkm3 := knows_left hkm2 σ1
    (repeat' (first | refine z0 ?_ | refine z1 ?_ | refine z2 ?_ | refine z3 ?_ | refine z4 ?_ | refine z5 ?_ | refine z6 ?_ | refine z7 (fun hg => ?_) (fun hg => ?_) | refine z8 (fun hg => ?_) (fun hg => ?_) | refine z9 ?_ | refine za ?_ | refine zb ?_ | refine zc ?_ | refine zd ?_ | refine ze ?_ | refine zf ?_ | refine zg ?_ | refine zh ?_ | refine zi (fun _ => ?_) | refine zj (fun _ => ?_) | refine zk ?_ | refine zl ?_ ?_ | refine zm ?_ | refine zn ?_ | refine zo ?_ | exact (rfl : _ = _)))
    · have hlt : i < t.list.length := by simpa using hg
      have hlt2 : i < (liveFrom 0 t.l).length := by simpa [Tab.list] using hlt
      obtain ⟨⟨a, x⟩, hq⟩ : ∃ q, (liveFrom 0 t.l)[i] = q := ⟨_, rfl⟩
      have hu : (t.list.map vi)[i]? = some (vi a) := by simp [Tab.list, List.getElem?_eq_getElem hlt2, hq]
      refine r_elem1 (hsa' σ1) hu ?_
      (repeat' (first | refine z0 ?_ | refine z1 ?_ | refine z2 ?_ | refine z3 ?_ | refine z4 ?_ | refine z5 ?_ | refine z6 ?_ | refine z7 (fun hg => ?_) (fun hg => ?_) | refine z8 (fun hg => ?_) (fun hg => ?_) | refine z9 ?_ | refine za ?_ | refine zb ?_ | refine zc ?_ | refine zd ?_ | refine ze ?_ | refine zf ?_ | refine zg ?_ | refine zh ?_ | refine zi (fun _ => ?_) | refine zj (fun _ => ?_) | refine zk ?_ | refine zl ?_ ?_ | refine zm ?_ | refine zn ?_ | refine zo ?_ | exact (rfl : _ = _)))
      refine r_look1 (K := kInt) (a := a) (by exact kn) hm ?_
      have hget : t.get a = some x := (geti_live t.l (a + 1) x).2 ((live_shift t.l 0 a x).1 (by rw [← hq]; exact List.getElem_mem _))
      rw [tab_lk, hget]
      simp only [Option.map_some, Option.getD_some]
      have hrow : (tabRow t)[i]? = some [vi a, mntV x] := by simp [List.getElem?_eq_getElem hlt2, hq]
      have htk : (tabRow t).take (i + 1) = (tabRow t).take i ++ [[vi a, mntV x]] := by rw [List.take_add_one, hrow]; rfl
      refine scallv_frame (r := G2) (m := σ1) (.refl _) ?_
      refine scallv_mono (hy _ #[vi a, mntV x] σ1 ⟨(tabRow t).drop (i + 1), ?_⟩ hI1) ?_
      · show _ ++ [vi a, mntV x] :: _ = _
        have : (tabRow t).take i ++ [vi a, mntV x] :: (tabRow t).drop (i + 1) = (tabRow t).take (i + 1) ++ (tabRow t).drop (i + 1) := by rw [htk]; simp
        rw [this, List.take_append_drop]
      · rintro w σ2 (⟨rfl, hI3⟩ | ⟨rfl, hJ⟩)
        · (repeat' (first | refine z0 ?_ | refine z1 ?_ | refine z2 ?_ | refine z3 ?_ | refine z4 ?_ | refine z5 ?_ | refine z6 ?_ | refine z7 (fun hg => ?_) (fun hg => ?_) | refine z8 (fun hg => ?_) (fun hg => ?_) | refine z9 ?_ | refine za ?_ | refine zb ?_ | refine zc ?_ | refine zd ?_ | refine ze ?_ | refine zf ?_ | refine zg ?_ | refine zh ?_ | refine zi (fun _ => ?_) | refine zj (fun _ => ?_) | refine zk ?_ | refine zl ?_ ?_ | refine zm ?_ | refine zn ?_ | refine zo ?_ | exact (rfl : _ = _)))
          have hw : IntKind.i64.wrap ((i : Int) + 1) = ((i + 1 : Nat) : Int) := by rw [wrap_id (by omega) (by omega)]; simp
          rw [hw]
          refine ⟨t.list.length - (i + 1), by omega, i + 1, σ2, rfl, rfl, by omega, rfl, ?_⟩
          rw [htk]; exact hI3
        · (repeat' (first | refine z0 ?_ | refine z1 ?_ | refine z2 ?_ | refine z3 ?_ | refine z4 ?_ | refine z5 ?_ | refine z6 ?_ | refine z7 (fun hg => ?_) (fun hg => ?_) | refine z8 (fun hg => ?_) (fun hg => ?_) | refine z9 ?_ | refine za ?_ | refine zb ?_ | refine zc ?_ | refine zd ?_ | refine ze ?_ | refine zf ?_ | refine zg ?_ | refine zh ?_ | refine zi (fun _ => ?_) | refine zj (fun _ => ?_) | refine zk ?_ | refine zl ?_ ?_ | refine zm ?_ | refine zn ?_ | refine zo ?_ | exact (rfl : _ = _)))
          exact ⟨G ++ σ2, hcl σ2, σ2, rfl, .inr hJ⟩
    · have hge : i = t.list.length := by
        have : ¬ ((i : Int) < t.list.length) := hg
        omega
      refine ⟨G ++ σ1, hcl σ1, σ1, rfl, .inl ⟨_, ?_, hI1⟩⟩
      show (tabRow t).take i = tabRow t
      rw [List.take_of_length_le (by rw [hrl]; omega)]
end
end Go.Sl
namespace Go.Sl
variable [Ghost]
open Go
def intFs (P : Program) : Nat → List Field → Bool
  | _, [] => true
  | i, f :: fs => match P.underlying f.type with
    | some (.int _) => f.name != "_" && Nat.beq f.offset i && intFs P (i + 1) fs
    | _ => false
def intSt (P : Program) (t : TypeId) (n : Nat) : Bool := match P.underlying t with
  | some (.struct fs) => Nat.beq fs.toList.length n && intFs P 0 fs.toList && !P.stoodInHeld t && !P.eqGuardType P.depth t
  | _ => false
theorem run_part_int {P : Program} {t : TypeId} {k : IntKind} (ht : P.underlying t = some (.int k)) {cs : Array Value} {i : Nat} {v : Value} (hv : cs[i]? = some v) (w : World) : (part t cs i).run P w = .ok v w := by
  unfold part
  simp only [isAgg, Sem.run_bind, run_underlying ht, Result.andThen_ok, Sem.run_pure, hv, Bool.false_eq_true, if_false]
theorem run_eqInts {P : Program} (d : Nat) (w : World) : ∀ (fs : List Field) (i : Nat) (xs ys : List Int), intFs P i fs = true → xs.length = i + fs.length → ys.length = i + fs.length →
    (Op.eqFields (d + 1) (xs.map (Value.int .i64)).toArray (ys.map (Value.int .i64)).toArray fs).run P w = .ok (decide (xs.drop i = ys.drop i)) w
  | [], i, xs, ys, _, h1, h2 => by
    have e1 : xs.drop i = [] := List.drop_eq_nil_of_le (by simp at h1; omega)
    have e2 : ys.drop i = [] := List.drop_eq_nil_of_le (by simp at h2; omega)
    rw [e1, e2]; rfl
  | f :: fs, i, xs, ys, hf, h1, h2 => by
    unfold intFs at hf
    split at hf
    · rename_i k hk
      simp only [Bool.and_eq_true, bne_iff_ne, ne_eq] at hf
      obtain ⟨⟨hn, ho⟩, hr⟩ := hf
      have ho' : f.offset = i := Nat.eq_of_beq_eq_true ho
      simp only [List.length_cons] at h1 h2
      have hx : (xs.map (Value.int .i64)).toArray[i]? = some (.int .i64 (xs[i]'(by omega))) := by simp [List.getElem?_eq_getElem (show i < xs.length by omega)]
      have hy : (ys.map (Value.int .i64)).toArray[i]? = some (.int .i64 (ys[i]'(by omega))) := by simp [List.getElem?_eq_getElem (show i < ys.length by omega)]
      have ih := run_eqInts d w fs (i + 1) xs ys hr (by omega) (by omega)
      have hd : (xs.drop i = ys.drop i) ↔ (xs[i]'(by omega) = ys[i]'(by omega) ∧ xs.drop (i + 1) = ys.drop (i + 1)) := by
        rw [List.drop_eq_getElem_cons (show i < xs.length by omega), List.drop_eq_getElem_cons (show i < ys.length by omega), List.cons.injEq]
      simp only [Op.eqFields]
      rw [if_pos hn, ho']
      simp only [Sem.run_bind, run_part_int hk hx, run_part_int hk hy, Result.andThen_ok, run_equalIn_int w d f.type .i64 k _ _ hk]
      by_cases he : xs[i]'(by omega) = ys[i]'(by omega)
      · have : (xs[i]'(by omega) == ys[i]'(by omega)) = true := by simpa using he
        rw [this]
        simp only [Bool.not_true, Bool.false_eq_true, if_false, ih]
        congr 1
        simp [hd, he]
      · have : (xs[i]'(by omega) == ys[i]'(by omega)) = false := by simpa using he
        rw [this]
        simp only [Bool.not_false, if_true, Sem.run_pure]
        congr 1
        simp [hd, he]
    · cases hf
theorem binPure_st {P : Program} {t : TypeId} {n : Nat} (h : intSt P t n = true) : binPure P t = false := by
  unfold intSt at h
  split at h
  · rename_i fs hu
    unfold binPure; rw [hu]
  · cases h
theorem run_aggeq {P : Program} {t : TypeId} {n : Nat} (hc : intSt P t n = true) {xs ys : List Int} (h1 : xs.length = n) (h2 : ys.length = n) (w : World) :
    (Op.equalIn 10000 t (.agg (xs.map (Value.int .i64)).toArray) (.agg (ys.map (Value.int .i64)).toArray)).run P w = .ok (decide (xs = ys)) w ∧ P.eqGuardType P.depth t = false := by
  unfold intSt at hc
  split at hc
  · rename_i fs hu
    simp only [Bool.and_eq_true, Bool.not_eq_true'] at hc
    obtain ⟨⟨⟨hl, hf⟩, hs⟩, hg⟩ := hc
    have hl' : fs.toList.length = n := Nat.eq_of_beq_eq_true hl
    have hfo : P.fieldsOf t = fs := by unfold Program.fieldsOf; rw [hu]
    refine ⟨?_, hg⟩
    rw [run_equalIn_struct w 9999 t _ _ (by rw [hfo]; exact hu) hs, hfo]
    have := run_eqInts (P := P) 9998 w fs.toList 0 xs ys hf (by omega) (by omega)
    simpa using this
  · cases hc
theorem r_aggeq {P : Program} {ek : EqK} {t : TypeId} (n : Nat) {xs ys : List Int} {k : Value → SP} {l : St} (hc : intSt P t n = true) (h1 : xs.length = n) (h2 : ys.length = n) (h : k (.bool (decide (xs = ys))) l) :
    sbin P ek t .eql (.agg (xs.map (Value.int .i64)).toArray) (.agg (ys.map (Value.int .i64)).toArray) k l := by
  refine ⟨binPure_st hc, _, fun F w _ => ?_, h⟩
  obtain ⟨e1, e2⟩ := run_aggeq hc h1 h2 w
  unfold sbin.eqGuardV
  rw [Sem.run_bind, run_eqGuard_agg w _ _ _ _ _ _ e2]
  simp only [Result.andThen_ok]
  rw [run_eql_struct, e1]; rfl
end Go.Sl
namespace Go.Sl
variable [Ghost]
open Go Go.Mo Go.Proofs
attribute [local irreducible] snil sfa sext sfield sguard sun sbin slen sload sstore snew snewObj sbuildR sbuildSlR smakeMapR smakeSlR slookup smapset srangeMap snext sentry scall scallv sextern sbuiltin sidx sindex sslice sconv srangeX sarg sand sjoin0 sjoin1 sjoin2 sloop0 sloop1 sloop2
theorem r_arg {xs : Array Value} {i : Nat} {v : Value} {k : Value → SP} {l : St} (hx : xs[i]? = some v) (h : k v l) : sarg xs i k l := by
  unfold sarg; rw [hx]; exact h
theorem knows_right {m : St} {b : Nat} {o : Obj} (g : St) (h : Knows m b o) : Knows (g ++ m) b o := by
  unfold Knows at *; rw [List.flatten_append]; exact List.mem_append.2 (.inr h)
theorem change_right {m m' : St} {b : Nat} {o' : Obj} (g : St) (h : Change m b o' m') : Change (g ++ m) b o' (g ++ m') := by
  induction g with
  | nil => exact h
  | cons c g ih => exact change_there c ih
theorem ent_front (g m : St) : Ent (g ++ m) m := by
  induction g with
  | nil => exact .refl _
  | cons c g ih => exact (Ent.drop _ _).trans ih
theorem r_placeEq {ek : EqK} {p q : Plc} {k : Value → SP} {l : St} (h : k (.bool (decide (p = q))) l) : sbin Tryz.prog ek 27 .eql (plV p) (plV q) k l := by
  refine r_aggeq (xs := [p.mount, p.node]) (ys := [q.mount, q.node]) 2 (by kernel_rfl) rfl rfl ?_
  have : ([p.mount, p.node] = [q.mount, q.node]) ↔ p = q := by
    cases p; cases q; simp
  rw [decide_eq_decide.2 this]; exact h
def overL (p : Plc) : List (Int × Mnt) → Option Int
  | [] => none
  | q :: r => if 0 < q.1 ∧ q.2.lies = p then some q.1 else overL p r
theorem over_eq (p : Plc) : ∀ (i : Nat) (xs : List (Option Mnt)), overFrom p i xs = overL p (liveFrom i xs)
  | _, [] => rfl
  | i, some x :: r => by
    have ih := over_eq p (i + 1) r
    simp only [overFrom, liveFrom, overL, ih]
    by_cases h : 0 < i <;> simp [h]
  | i, none :: r => over_eq p (i + 1) r
section
variable {l : St} {b : Nat} {t : Tab} {m node : Int} {p : Plc} {R : Value → SP}
theorem mover_ok (hT : TabAt l b t) (hS : t.l.length ≤ 2 ^ 30) (h : R (.tuple #[vi ((t.over p).getD 0), .bool (t.over p).isSome]) l) : scall Tryz.prog 126 #[ptr b 0, plV p] R l := by
  refine scall_post (S126_ok ?_)
  unfold S126
  refine r_new fun b3 => ?_
  refine r_new fun b4 => ?_
  refine r_new fun b5 => ?_
  refine S128_ok ?_
  unfold S128
  refine r_new fun cb => ?_
  unfold srangeX
  have hov : t.over p = overL p (liveFrom 0 t.l) := over_eq p 0 t.l
  refine ⟨List (List Value), fun d σ => ∃ g, σ = g ++ [pt b5 (.cells #[.bool false] 4), pt b4 (.cells #[vi 0] 3), pt b3 (.cells (plV p).cells 27)] ∧ t.over p = overL p ((liveFrom 0 t.l).drop d.length),
    fun o σ => o = none ∧ ∃ g m, t.over p = some m ∧ σ = g ++ [pt b5 (.cells #[.bool true] 4), pt b4 (.cells #[vi m] 3), pt b3 (.cells (plV p).cells 27)],
    _, _, [], _, pt cb (.cells (Value.cells (ptr b 0)) 25) :: l, _, [pt b5 (.cells #[.bool false] 4), pt b4 (.cells #[vi 0] 3), pt b3 (.cells (plV p).cells 27)], ⟨_, _, _, rfl, by kernel_rfl⟩, ?_,
    mordered_iter (knows_pt cb (.cells #[ptr b 0] 25) l) (hT.there _) hS, ⟨[], rfl, by simpa using hov⟩, ?_, ?_, ?_, fun _ h => by cases h⟩
  · unfold Split
    (refine perm_of_ct fun a => ?_; simp only [List.flatten_cons, List.flatten_append, List.flatten_nil, ct_append, ct_cons, ct_nil, pt, vi, ptr, vstr', Value.cells, tCells, nCells, List.append_nil] at *; omega)
  · rintro d xs σ ⟨rest, hA⟩ ⟨g, rfl, hd⟩
    have hlt : d.length < (liveFrom 0 t.l).length := by
      have := congrArg List.length hA
      simp at this; omega
    obtain ⟨⟨a, x⟩, hq⟩ : ∃ q, (liveFrom 0 t.l)[d.length] = q := ⟨_, rfl⟩
    have hxs : xs = #[vi a, mntV x] := by
      have h1 : (tabRow t)[d.length]? = some xs.toList := by
        have hA' : d ++ xs.toList :: rest = tabRow t := hA
        rw [← hA']; simp
      have h2 : (tabRow t)[d.length]? = some [vi a, mntV x] := by simp [List.getElem?_eq_getElem hlt, hq]
      rw [h2] at h1
      have h3 := Option.some.inj h1
      exact Array.toList_inj.1 h3.symm
    subst hxs
    have hdrop : (liveFrom 0 t.l).drop d.length = (a, x) :: (liveFrom 0 t.l).drop (d.length + 1) := by rw [List.drop_eq_getElem_cons hlt, hq]
    rw [hdrop] at hd
    refine ⟨rfl, ?_⟩
    refine r_arg rfl ?_
    refine r_arg rfl ?_
    refine r_new fun b7 => ?_
    refine r_store (by exact kn) (by rfl) (by rfl) (by rfl) (by rfl) (by exact chg) ?_
    have hk3 : Knows (pt b7 (.cells #[vi x.top, vi x.lies.mount, vi x.lies.node] 159) :: (g ++ [pt b5 (.cells #[.bool false] 4), pt b4 (.cells #[vi 0] 3), pt b3 (.cells (plV p).cells 27)])) b3 (.cells #[vi p.mount, vi p.node] 27) :=
      knows_there _ (knows_right _ (by unfold Knows; simp [pt, Value.cells]))
    have hk4 : Knows (pt b7 (.cells #[vi x.top, vi x.lies.mount, vi x.lies.node] 159) :: (g ++ [pt b5 (.cells #[.bool false] 4), pt b4 (.cells #[vi 0] 3), pt b3 (.cells (plV p).cells 27)])) b4 (.cells #[vi 0] 3) :=
      knows_there _ (knows_right _ (by unfold Knows; simp [pt, Value.cells]))
    have next : ¬ (0 < a ∧ x.lies = p) → t.over p = overL p ((liveFrom 0 t.l).drop (d.length + 1)) := fun hn => by
      rw [hd]; simp only [overL]; rw [if_neg hn]
    refine r_join1 ?_
    (repeat' (first | refine z0 ?_ | refine z1 ?_ | refine z2 ?_ | refine z3 ?_ | refine z4 ?_ | refine z5 ?_ | refine z6 ?_ | refine z7 (fun hg => ?_) (fun hg => ?_) | refine z8 (fun hg => ?_) (fun hg => ?_) | refine z9 ?_ | refine za ?_ | refine zb ?_ | refine zc ?_ | refine zd ?_ | refine ze ?_ | refine zf ?_ | refine zg ?_ | refine zh ?_ | refine zi (fun _ => ?_) | refine zj (fun _ => ?_) | refine zk ?_ | refine zl ?_ ?_ | refine zm ?_ | refine zn ?_ | refine zo ?_ | exact (rfl : _ = _)))
    · refine r_placeEq (p := x.lies) (q := p) ?_
      refine r_guard (fun he => ?_) (fun he => ?_)
      · have he : x.lies = p := by simpa using he
        have hov2 : t.over p = some a := by rw [hd]; simp only [overL]; rw [if_pos ⟨hg, he⟩]
        refine r_store hk4 (by rfl) (by rfl) (by rfl) (by rfl) (change_there _ (change_right g (change_there _ (change_pt _ _ _ _)))) ?_
        refine r_store (knows_there _ (knows_right g (knows_pt _ _ _))) (by rfl) (by rfl) (by rfl) (by rfl) (change_there _ (change_right g (change_pt _ _ _ _))) ?_
        exact ⟨rfl, pt b7 _ :: g, a, hov2, rfl⟩
      · have he : ¬ x.lies = p := by simpa using he
        refine ⟨pt b7 _ :: g, rfl, ?_⟩
        rw [next (fun h => he h.2)]
        simp
    · refine ⟨pt b7 _ :: g, rfl, ?_⟩
      rw [next (fun h => hg h.1)]
      simp
  · rintro d σ hA ⟨g, rfl, hd⟩
    have hA' : d = tabRow t := hA
    have hn : t.over p = none := by
      rw [hd, hA']
      rw [List.drop_eq_nil_of_le (by simp)]; rfl
    rw [hn] at h
    refine r_store (l' := pt b4 (.cells #[vi 0] 3) :: pt b5 (.cells #[.bool false] 4) :: pt b3 (.cells (plV p).cells 27) :: (g ++ (pt cb (.cells (Value.cells (ptr b 0)) 25) :: l))) (knows_right _ (knows_right _ (knows_there _ (knows_pt _ _ _)))) (by rfl) (by rfl) (by rfl) (by rfl) (change_perm (o := .cells #[vi 0] 3) (d := (pt b5 (.cells #[.bool false] 4) :: pt b3 (.cells (plV p).cells 27) :: (g ++ (pt cb (.cells (Value.cells (ptr b 0)) 25) :: l))).flatten) (by (refine perm_of_ct fun a => ?_; simp only [List.flatten_cons, List.flatten_append, List.flatten_nil, ct_append, ct_cons, ct_nil, pt, vi, ptr, vstr', Value.cells, tCells, nCells, List.append_nil] at *; omega)) (by simp [pt])) ?_
    (repeat' (first | refine z0 ?_ | refine z1 ?_ | refine z2 ?_ | refine z3 ?_ | refine z4 ?_ | refine z5 ?_ | refine z6 ?_ | refine z7 (fun hg => ?_) (fun hg => ?_) | refine z8 (fun hg => ?_) (fun hg => ?_) | refine z9 ?_ | refine za ?_ | refine zb ?_ | refine zc ?_ | refine zd ?_ | refine ze ?_ | refine zf ?_ | refine zg ?_ | refine zh ?_ | refine zi (fun _ => ?_) | refine zj (fun _ => ?_) | refine zk ?_ | refine zl ?_ ?_ | refine zm ?_ | refine zn ?_ | refine zo ?_ | exact (rfl : _ = _)))
    exact ⟨l, (Ent.drop _ _).trans ((Ent.drop _ _).trans ((Ent.drop _ _).trans ((ent_front g _).trans (Ent.drop _ _)))), h⟩
  · rintro σ ⟨-, g, m, hov2, rfl⟩
    rw [hov2] at h
    refine r_load1 (knows_right _ (knows_right _ (knows_there _ (knows_pt _ _ _)))) (by rfl) ?_
    refine r_load1 (knows_right _ (knows_right _ (knows_pt _ _ _))) (by rfl) ?_
    exact ⟨l, (Ent.drop _ _).trans (ent_tail _ _), h⟩
theorem tab_row {d : List (List Value)} {xs : Array Value} {rest : List (List Value)} (hA : d ++ xs.toList :: rest = tabRow t) : ∃ a x, xs = #[vi a, mntV x] ∧ d.length < (liveFrom 0 t.l).length ∧ (liveFrom 0 t.l).drop d.length = (a, x) :: (liveFrom 0 t.l).drop (d.length + 1) ∧ (liveFrom 0 t.l).take (d.length + 1) = (liveFrom 0 t.l).take d.length ++ [(a, x)] := by
  have hlt : d.length < (liveFrom 0 t.l).length := by
    have := congrArg List.length hA
    simp at this; omega
  obtain ⟨⟨a, x⟩, hq⟩ : ∃ q, (liveFrom 0 t.l)[d.length] = q := ⟨_, rfl⟩
  refine ⟨a, x, ?_, hlt, by rw [List.drop_eq_getElem_cons hlt, hq], by rw [List.take_add_one, List.getElem?_eq_getElem hlt, hq]; rfl⟩
  have h1 : (tabRow t)[d.length]? = some xs.toList := by rw [← hA]; simp
  have h2 : (tabRow t)[d.length]? = some [vi a, mntV x] := by simp [List.getElem?_eq_getElem hlt, hq]
  rw [h2] at h1
  have h3 := Option.some.inj h1
  exact Array.toList_inj.1 h3.symm
theorem mcovered_ok (hT : TabAt l b t) (hS : t.l.length ≤ 2 ^ 30) (h : R (.bool (t.covered node)) l) : scall Tryz.prog 237 #[ptr b 0, vi node] R l := by
  refine scall_post (S237_ok ?_)
  unfold S237
  refine r_new fun b3 => ?_
  refine r_new fun b4 => ?_
  refine S128_ok ?_
  unfold S128
  refine r_new fun cb => ?_
  unfold srangeX
  refine ⟨List (List Value), fun d σ => ∃ g, σ = g ++ [pt b4 (.cells #[.bool false] 4), pt b3 (.cells #[vi node] 3)] ∧ t.covered node = ((liveFrom 0 t.l).drop d.length).any fun q => 0 < q.1 && q.2.lies.node = node,
    fun o σ => o = none ∧ ∃ g, t.covered node = true ∧ σ = g ++ [pt b4 (.cells #[.bool true] 4), pt b3 (.cells #[vi node] 3)],
    _, _, [], _, pt cb (.cells (Value.cells (ptr b 0)) 25) :: l, _, [pt b4 (.cells #[.bool false] 4), pt b3 (.cells #[vi node] 3)], ⟨_, _, _, rfl, by kernel_rfl⟩, ?_,
    mordered_iter (knows_pt cb (.cells #[ptr b 0] 25) l) (hT.there _) hS, ⟨[], rfl, by rfl⟩, ?_, ?_, ?_, fun _ h => by cases h⟩
  · unfold Split
    (refine perm_of_ct fun a => ?_; simp only [List.flatten_cons, List.flatten_append, List.flatten_nil, ct_append, ct_cons, ct_nil, pt, vi, ptr, vstr', Value.cells, tCells, nCells, List.append_nil] at *; omega)
  · rintro d xs σ ⟨rest, hA⟩ ⟨g, rfl, hd⟩
    obtain ⟨a, x, rfl, hlt, hdrop, -⟩ := tab_row hA
    rw [hdrop] at hd
    refine ⟨rfl, ?_⟩
    refine r_arg rfl ?_
    refine r_arg rfl ?_
    refine r_new fun b7 => ?_
    refine r_store (by exact kn) (by rfl) (by rfl) (by rfl) (by rfl) (by exact chg) ?_
    have hk3 : Knows (pt b7 (.cells #[vi x.top, vi x.lies.mount, vi x.lies.node] 159) :: (g ++ [pt b4 (.cells #[.bool false] 4), pt b3 (.cells #[vi node] 3)])) b3 (.cells #[vi node] 3) :=
      knows_there _ (knows_right _ (knows_there _ (knows_pt _ _ _)))
    refine r_join1 ?_
    (repeat' (first | refine z0 ?_ | refine z1 ?_ | refine z2 ?_ | refine z3 ?_ | refine z4 ?_ | refine z5 ?_ | refine z6 ?_ | refine z7 (fun hg => ?_) (fun hg => ?_) | refine z8 (fun hg => ?_) (fun hg => ?_) | refine z9 ?_ | refine za ?_ | refine zb ?_ | refine zc ?_ | refine zd ?_ | refine ze ?_ | refine zf ?_ | refine zg ?_ | refine zh ?_ | refine zi (fun _ => ?_) | refine zj (fun _ => ?_) | refine zk ?_ | refine zl ?_ ?_ | refine zm ?_ | refine zn ?_ | refine zo ?_ | exact (rfl : _ = _)))
    · rename_i hg1
      refine r_store (knows_there _ (knows_right g (knows_pt _ _ _))) (by rfl) (by rfl) (by rfl) (by rfl) (change_there _ (change_right g (change_pt _ _ _ _))) ?_
      have hg1 : 0 < a := by assumption
      have hg2 : x.lies.node = node := by first | exact hg | exact (by simpa using hg)
      exact ⟨rfl, pt b7 _ :: g, by rw [hd]; simp [hg1, hg2], rfl⟩
    · have hg2 : ¬ x.lies.node = node := by first | exact hg | exact (by simpa using hg)
      refine ⟨pt b7 _ :: g, rfl, ?_⟩
      rw [hd]
      simp [hg2]
    · have hg2 : ¬ 0 < a := by first | exact hg | exact (by simpa using hg)
      refine ⟨pt b7 _ :: g, rfl, ?_⟩
      rw [hd]
      simp [hg2]
  · rintro d σ hA ⟨g, rfl, hd⟩
    have hA' : d = tabRow t := hA
    have hn : t.covered node = false := by
      rw [hd, hA']
      rw [List.drop_eq_nil_of_le (by simp)]; rfl
    rw [hn] at h
    refine r_store (knows_right _ (knows_right _ (knows_pt _ _ _))) (by rfl) (by rfl) (by rfl) (by rfl) (change_right _ (change_right _ (change_pt _ _ _ _))) ?_
    refine r_load1 (knows_right _ (knows_right _ (knows_pt _ _ _))) (by rfl) ?_
    exact ⟨l, (Ent.drop _ _).trans (ent_tail _ _), h⟩
  · rintro σ ⟨-, g, hov2, rfl⟩
    rw [hov2] at h
    refine r_load1 (knows_right _ (knows_right _ (knows_pt _ _ _))) (by rfl) ?_
    exact ⟨l, (Ent.drop _ _).trans (ent_tail _ _), h⟩
theorem mabove_ok (hT : TabAt l b t) (hS : t.l.length ≤ 2 ^ 30) (h : ∀ v c, SlC 1 v (t.above m).length ((t.above m).map vi) c → R v (c :: l)) : scall Tryz.prog 97 #[ptr b 0, vi m] R l := by
  refine scall_post (S97_ok ?_)
  unfold S97
  refine r_new fun b3 => ?_
  refine r_new fun b5 => ?_
  refine S128_ok ?_
  unfold S128
  refine r_new fun cb => ?_
  have hl2 : (liveFrom 0 t.l).length ≤ 2 ^ 30 := Nat.le_trans (liveFrom_len t.l 0) hS
  unfold srangeX
  refine ⟨List (List Value), fun d σ => ∃ v c g ys, σ = g ++ [pt b5 (.cells #[v] 23), pt b3 (.cells #[vi m] 3), c] ∧ ys = ((liveFrom 0 t.l).take d.length).filter (fun q => 0 < q.1 && q.2.lies.mount = m) ∧ SlC 1 v ys.length (ys.map fun q => vi q.1) c,
    fun _ _ => False,
    _, _, [], _, pt cb (.cells (Value.cells (ptr b 0)) 25) :: l, _, [pt b5 (.cells #[.slice none 0 0] 23), pt b3 (.cells #[vi m] 3), []], ⟨_, _, _, rfl, by kernel_rfl⟩, ?_,
    mordered_iter (knows_pt cb (.cells #[ptr b 0] 25) l) (hT.there _) hS, ⟨_, [], [], [], rfl, by simp, slC_nil 1⟩, ?_, ?_, fun _ h => h.elim, fun _ h => by cases h⟩
  · unfold Split
    (refine perm_of_ct fun a => ?_; simp only [List.flatten_cons, List.flatten_append, List.flatten_nil, ct_append, ct_cons, ct_nil, pt, vi, ptr, vstr', Value.cells, tCells, nCells, List.append_nil] at *; omega)
  · rintro d xs σ ⟨rest, hA⟩ ⟨v, c, g, ys, rfl, hys, hs⟩
    obtain ⟨a, x, rfl, hlt, hdrop, htake⟩ := tab_row hA
    have hylen : ys.length ≤ d.length := by
      have h1 := List.length_filter_le (fun q : Int × Mnt => 0 < q.1 && q.2.lies.mount = m) ((liveFrom 0 t.l).take d.length)
      rw [← hys] at h1
      exact Nat.le_trans h1 (List.length_take_le _ _)
    refine ⟨rfl, ?_⟩
    refine r_arg rfl ?_
    refine r_arg rfl ?_
    refine r_new fun b7 => ?_
    refine r_store (by exact kn) (by rfl) (by rfl) (by rfl) (by rfl) (by exact chg) ?_
    have hk3 : Knows (pt b7 (.cells #[vi x.top, vi x.lies.mount, vi x.lies.node] 159) :: (g ++ [pt b5 (.cells #[v] 23), pt b3 (.cells #[vi m] 3), c])) b3 (.cells #[vi m] 3) :=
      knows_there _ (knows_right _ (knows_there _ (knows_pt _ _ _)))
    refine r_join1 ?_
    (repeat' (first | refine z0 ?_ | refine z1 ?_ | refine z2 ?_ | refine z3 ?_ | refine z4 ?_ | refine z5 ?_ | refine z6 ?_ | refine z7 (fun hg => ?_) (fun hg => ?_) | refine z8 (fun hg => ?_) (fun hg => ?_) | refine z9 ?_ | refine za ?_ | refine zb ?_ | refine zc ?_ | refine zd ?_ | refine ze ?_ | refine zf ?_ | refine zg ?_ | refine zh ?_ | refine zi (fun _ => ?_) | refine zj (fun _ => ?_) | refine zk ?_ | refine zl ?_ ?_ | refine zm ?_ | refine zn ?_ | refine zo ?_ | exact (rfl : _ = _)))
    · rename_i hg1
      have hg1 : 0 < a := by assumption
      have hg2 : x.lies.mount = m := by first | exact hg | exact (by simpa using hg)
      refine r_load1 (knows_there _ (knows_right g (knows_pt _ _ _))) (by rfl) ?_
      refine r_buildSl (ds := [vi a]) rfl (by omega) rfl (fun e => ?_)
      refine r_append (e := 3) (i := Tryz.t3) (z := .int .i64 0) (m := 1) (news := [vi a]) (by kernel_rfl) (by kernel_rfl) (by kernel_rfl) (by kernel_rfl) rfl hs (r := pt e (.cells #[vi a] 3) :: pt b7 (.cells #[vi x.top, vi x.lies.mount, vi x.lies.node] 159) :: (g ++ [pt b5 (.cells #[v] 23), pt b3 (.cells #[vi m] 3)])) (by
          unfold Take
          (refine perm_of_ct fun a => ?_; simp only [List.flatten_cons, List.flatten_append, List.flatten_nil, ct_append, ct_cons, ct_nil, pt, vi, ptr, vstr', Value.cells, tCells, nCells, List.append_nil] at *; omega))
        (srcAt_row (e' := 3) (by kernel_rfl) (knows_pt _ _ _) rfl rfl (by simp; rfl)) ?_ (by omega) (fun v' c' hs' => ?_)
      · have : Tryz.t3.bytes = 8 := by kernel_rfl
        rw [this]; omega
      · obtain ⟨hv1, hv2⟩ := slC_one hs'
        refine r_store (l' := (pt e (.cells #[vi a] 3) :: pt b7 (.cells #[vi x.top, vi x.lies.mount, vi x.lies.node] 159) :: g) ++ [pt b5 (.cells #[v'] 23), pt b3 (.cells #[vi m] 3), c']) (knows_there _ (knows_there _ (knows_there _ (knows_right g (knows_pt _ _ _))))) (ds := [v']) (by rw [hv1]; rfl) (by rw [hv1]; rfl) (by rw [hv1]; simp [hv2]) rfl
          (change_perm (o := .cells #[v] 23) (d := (c' :: pt e (.cells #[vi a] 3) :: pt b7 (.cells #[vi x.top, vi x.lies.mount, vi x.lies.node] 159) :: (g ++ [pt b3 (.cells #[vi m] 3)])).flatten) (by (refine perm_of_ct fun a => ?_; simp only [List.flatten_cons, List.flatten_append, List.flatten_nil, ct_append, ct_cons, ct_nil, pt, vi, ptr, vstr', Value.cells, tCells, nCells, List.append_nil] at *; omega)) (by (refine perm_of_ct fun a => ?_; simp only [List.flatten_cons, List.flatten_append, List.flatten_nil, ct_append, ct_cons, ct_nil, pt, vi, ptr, vstr', Value.cells, tCells, nCells, List.append_nil] at *; omega))) ?_
        refine ⟨v', c', _, ys ++ [(a, x)], rfl, ?_, by simpa [Value.cells] using hs'⟩
        rw [List.length_append, List.length_singleton, htake, List.filter_append, ← hys]
        simp [hg1, hg2]
    · have hg2 : ¬ x.lies.mount = m := by first | exact hg | exact (by simpa using hg)
      refine ⟨v, c, pt b7 _ :: g, ys, rfl, ?_, hs⟩
      rw [List.length_append, List.length_singleton, htake, List.filter_append, ← hys]
      simp [hg2]
    · have hg2 : ¬ 0 < a := by first | exact hg | exact (by simpa using hg)
      refine ⟨v, c, pt b7 _ :: g, ys, rfl, ?_, hs⟩
      rw [List.length_append, List.length_singleton, htake, List.filter_append, ← hys]
      simp [hg2]
  · rintro d σ hA ⟨v, c, g, ys, rfl, hys, hs⟩
    have hA' : d = tabRow t := hA
    have hab : ys.map (·.1) = t.above m := by
      rw [hys, hA', List.take_of_length_le (by simp)]; rfl
    refine r_load1 (knows_right _ (knows_right _ (knows_pt _ _ _))) (by rfl) ?_
    refine ⟨c :: l, ?_, h v c (by rw [← hab, List.map_map, List.length_map]; exact hs)⟩
    refine Ent.trans (l' := pt cb (.cells (Value.cells (ptr b 0)) 25) :: ((g ++ [pt b5 (.cells #[v] 23), pt b3 (.cells #[vi m] 3)]) ++ (c :: l))) (Ent.of_perm (by (refine perm_of_ct fun a => ?_; simp only [List.flatten_cons, List.flatten_append, List.flatten_nil, ct_append, ct_cons, ct_nil, pt, vi, ptr, vstr', Value.cells, tCells, nCells, List.append_nil] at *; omega))) ((Ent.drop _ _).trans (ent_front _ _))
end
end Go.Sl
namespace Go.Sl
variable [Ghost]
open Go Go.Mo Go.Proofs
attribute [local irreducible] snil sfa sext sfield sguard sun sbin slen sload sstore snew snewObj sbuildR sbuildSlR smakeMapR smakeSlR slookup smapset srangeMap snext sentry scall scallv sextern sbuiltin sidx sindex sslice sconv srangeX sarg sand sjoin0 sjoin1 sjoin2 sloop0 sloop1 sloop2
theorem geti_nth' {α : Type} {xs : List (Option α)} {n : Int} {x : α} (h : geti xs n = some x) : ∃ k : Nat, n = ((k + 1 : Nat) : Int) ∧ nth xs k = some (some x) := by
  unfold geti at h
  split at h
  · rename_i k
    refine ⟨k, rfl, ?_⟩
    split at h
    · rename_i o ho
      rw [ho, h]
    · cases h
  · cases h
theorem nth_geti' {α : Type} {xs : List (Option α)} {k : Nat} {x : α} (h : nth xs k = some (some x)) : geti xs ((k + 1 : Nat) : Int) = some x := by
  show geti xs (Int.ofNat (k + 1)) = some x
  unfold geti
  simp only [h]
structure TabOk (t : Tab) : Prop where
  root : ∃ x, t.get 0 = some x
  below : ∀ m x, t.get m = some x → 0 < m → 0 ≤ x.lies.mount ∧ x.lies.mount < m
theorem tab_get_bound {t : Tab} {m : Int} {x : Mnt} (h : t.get m = some x) : 0 ≤ m ∧ m < t.l.length := by
  obtain ⟨k, h1, h2⟩ := geti_nth' h
  have := nth_lt _ _ _ h2
  omega
theorem overL_some {p : Plc} {m : Int} : ∀ {l : List (Int × Mnt)}, overL p l = some m → ∃ x, (m, x) ∈ l ∧ 0 < m ∧ x.lies = p
  | [], h => by cases h
  | (a, x) :: r, h => by
    simp only [overL] at h
    split at h
    · rename_i hc
      cases h
      exact ⟨x, .head _, hc.1, hc.2⟩
    · obtain ⟨y, h1, h2⟩ := overL_some h
      exact ⟨y, .tail _ h1, h2⟩
theorem over_some {t : Tab} {p : Plc} {m : Int} (h : t.over p = some m) : 0 < m ∧ ∃ x, t.get m = some x ∧ x.lies = p := by
  unfold Tab.over at h
  rw [over_eq] at h
  obtain ⟨x, h1, h2, h3⟩ := overL_some h
  exact ⟨h2, x, (geti_live t.l (m + 1) x).2 ((live_shift t.l 0 m x).1 h1), h3⟩
theorem TabOk.over {t : Tab} (ok : TabOk t) {p : Plc} {m : Int} (h : t.over p = some m) : 0 ≤ p.mount ∧ p.mount < m ∧ m < t.l.length ∧ ∃ x, t.get m = some x := by
  obtain ⟨h1, x, h2, rfl⟩ := over_some h
  have := ok.below m x h2 h1
  have := tab_get_bound h2
  exact ⟨by omega, by omega, by omega, x, h2⟩
theorem live_bound {α : Type} : ∀ (xs : List (Option α)) (i : Nat) (n : Int) (x : α), (n, x) ∈ liveFrom i xs → (i : Int) ≤ n ∧ n < i + xs.length
  | [], _, _, _, h => by cases h
  | none :: r, i, n, x, h => by
    have := live_bound r (i + 1) n x h
    simp only [List.length_cons]; omega
  | some y :: r, i, n, x, h => by
    rcases List.mem_cons.1 h with e | h
    · cases e; simp only [List.length_cons]; omega
    · have := live_bound r (i + 1) n x h
      simp only [List.length_cons]; omega
theorem live_snoc {α : Type} (xs : List (Option α)) (i : Nat) (x : α) : liveFrom i (xs ++ [some x]) = liveFrom i xs ++ [(((i + xs.length : Nat) : Int), x)] := by
  induction xs generalizing i with
  | nil => simp [liveFrom]
  | cons o r ih =>
    cases o with
    | none =>
      simp only [List.cons_append, liveFrom, ih, List.length_cons]
      congr 4; omega
    | some y =>
      simp only [List.cons_append, liveFrom, ih, List.length_cons, List.cons_append]
      congr 5; omega
section
variable {l r : St} {b : Nat} {t : Tab} {c : Chunk} {m node : Int} {p : Plc} {R : Value → SP}
theorem tabAt2 {o1 o2 : Obj} {mb : Nat} (h : PTab b t [(b, o1), (mb, o2)]) (r : St) : TabAt (pt b o1 :: pt mb o2 :: r) b t :=
  ⟨_, fun q o hq => by
    unfold Knows
    simp only [List.mem_cons, List.not_mem_nil, or_false] at hq
    rcases hq with e | e <;> cases e <;> simp [pt], h⟩
theorem mdown_ok (hT : TabAt l b t) (hS : t.l.length ≤ 2 ^ 30) (ok : TabOk t) (h : R (plV (t.down p)) l) : scall Tryz.prog 131 #[ptr b 0, plV p] R l := by
  refine scall_post (S131_ok ?_)
  unfold S131
  refine r_new fun b3 => ?_
  refine r_new fun b4 => ?_
  obtain ⟨W, hW⟩ : ∃ W, t.down p = W := ⟨_, rfl⟩
  rw [hW] at h
  refine r_loop0 (fun k σ => ∃ q : Plc, σ = pt b4 (.cells #[vi 0, vi 0] 27) :: pt b3 (.cells #[vi q.mount, vi q.node] 27) :: l ∧ downGo t k q = W ∧ 1 ≤ k ∧ ∀ m, t.over q = some m → (t.l.length : Int) ≤ (k : Int) - 1 + m) (t.l.length + 1) ⟨p, rfl, hW, by omega, fun m hm => by have := ok.over hm; omega⟩ ?_
  rintro k σ ⟨q, rfl, hgo, hk1, hk2⟩
  have hT2 : TabAt (pt b4 (.cells #[vi 0, vi 0] 27) :: pt b3 (.cells #[vi q.mount, vi q.node] 27) :: l) b t := (hT.there _).there _
  obtain ⟨ty, mb, turns, es, clk, hk, hkm, hm⟩ := hT2.open
  (repeat' (first | refine z0 ?_ | refine z1 ?_ | refine z2 ?_ | refine z3 ?_ | refine z4 ?_ | refine z5 ?_ | refine z6 ?_ | refine z7 (fun hg => ?_) (fun hg => ?_) | refine z8 (fun hg => ?_) (fun hg => ?_) | refine z9 ?_ | refine za ?_ | refine zb ?_ | refine zc ?_ | refine zd ?_ | refine ze ?_ | refine zf ?_ | refine zg ?_ | refine zh ?_ | refine zi (fun _ => ?_) | refine zj (fun _ => ?_) | refine zk ?_ | refine zl ?_ ?_ | refine zm ?_ | refine zn ?_ | refine zo ?_ | exact (rfl : _ = _)))
  refine mover_ok (p := q) hT2 hS ?_
  obtain ⟨k, rfl⟩ : ∃ j, k = j + 1 := ⟨k - 1, by omega⟩
  simp only [downGo] at hgo
  cases hov : t.over q with
  | none =>
    rw [hov] at hgo
    subst hgo
    (repeat' (first | refine z0 ?_ | refine z1 ?_ | refine z2 ?_ | refine z3 ?_ | refine z4 ?_ | refine z5 ?_ | refine z6 ?_ | refine z7 (fun hg => ?_) (fun hg => ?_) | refine z8 (fun hg => ?_) (fun hg => ?_) | refine z9 ?_ | refine za ?_ | refine zb ?_ | refine zc ?_ | refine zd ?_ | refine ze ?_ | refine zf ?_ | refine zg ?_ | refine zh ?_ | refine zi (fun _ => ?_) | refine zj (fun _ => ?_) | refine zk ?_ | refine zl ?_ ?_ | refine zm ?_ | refine zn ?_ | refine zo ?_ | exact (rfl : _ = _)))
    exact ⟨l, by exact drp, h⟩
  | some m =>
    obtain ⟨h1, h2, h3, x, hx⟩ := ok.over hov
    rw [hov] at hgo
    simp only [hx] at hgo
    (repeat' (first | refine z0 ?_ | refine z1 ?_ | refine z2 ?_ | refine z3 ?_ | refine z4 ?_ | refine z5 ?_ | refine z6 ?_ | refine z7 (fun hg => ?_) (fun hg => ?_) | refine z8 (fun hg => ?_) (fun hg => ?_) | refine z9 ?_ | refine za ?_ | refine zb ?_ | refine zc ?_ | refine zd ?_ | refine ze ?_ | refine zf ?_ | refine zg ?_ | refine zh ?_ | refine zi (fun _ => ?_) | refine zj (fun _ => ?_) | refine zk ?_ | refine zl ?_ ?_ | refine zm ?_ | refine zn ?_ | refine zo ?_ | exact (rfl : _ = _)))
    refine r_look1 (K := kInt) (a := m) (by exact kn) hm ?_
    rw [tab_lk, hx]
    simp only [Option.map_some, Option.getD_some]
    (repeat' (first | refine z0 ?_ | refine z1 ?_ | refine z2 ?_ | refine z3 ?_ | refine z4 ?_ | refine z5 ?_ | refine z6 ?_ | refine z7 (fun hg => ?_) (fun hg => ?_) | refine z8 (fun hg => ?_) (fun hg => ?_) | refine z9 ?_ | refine za ?_ | refine zb ?_ | refine zc ?_ | refine zd ?_ | refine ze ?_ | refine zf ?_ | refine zg ?_ | refine zh ?_ | refine zi (fun _ => ?_) | refine zj (fun _ => ?_) | refine zk ?_ | refine zl ?_ ?_ | refine zm ?_ | refine zn ?_ | refine zo ?_ | exact (rfl : _ = _)))
    have := hk2 m hov
    refine ⟨k, by omega, { mount := m, node := x.top }, rfl, hgo, by omega, fun m' hm' => ?_⟩
    have h5 := ok.over hm'
    have h6 : m < m' := h5.2.1
    omega
theorem mbind_ok {at' : Plc} (hk : Take l c r) (hP : PTab b t c) (hS : t.l.length ≤ 2 ^ 30) (h : ∀ c', PTab b (t.bind at' node).1 c' → R (.tuple #[vi (t.bind at' node).2.1, vi (t.bind at' node).2.2]) (c' :: r)) :
    scall Tryz.prog 93 #[ptr b 0, plV at', vi node] R l := by
  obtain ⟨ty, mb, turns, es, clk, hc, hm⟩ := hP
  refine scall_perm (l' := pt b (.cells #[.map (some mb), vi ((t.l.length : Int) - 1), vi turns] ty) :: pt mb (.map es clk) :: r) (hk.trans (perm_of_ct fun a => ?_)) (scall_post (S93_ok ?_))
  · have h1 := ct_of_perm hc a
    simp only [List.flatten_cons, List.flatten_append, List.flatten_nil, ct_append, ct_cons, ct_nil, pt, vi, ptr, vstr', Value.cells, tCells, nCells, List.append_nil] at h1 ⊢
    omega
  have hPb : PTab b t [(b, .cells #[.map (some mb), vi ((t.l.length : Int) - 1), vi turns] ty), (mb, .map es clk)] := ⟨ty, mb, turns, es, clk, .refl _, hm⟩
  have bad : ∀ (e : Int) (g : St), t.bind at' node = (t, 0, e) → ∃ l2, Ent (g ++ (pt b (.cells #[.map (some mb), vi ((t.l.length : Int) - 1), vi turns] ty) :: pt mb (.map es clk) :: r)) l2 ∧ R (.tuple #[vi 0, vi e]) l2 := fun e g hb => by
    rw [hb] at h
    exact ⟨_, (ent_front g _).trans (ent_close [_, _] r), h _ (by simpa [pt] using hPb)⟩
  have hsz : (es.size : Int) = t.list.length := by rw [hm.size]; simp [tabK, Tab.list]
  unfold S93
  (repeat' (first | refine z0 ?_ | refine z1 ?_ | refine z2 ?_ | refine z3 ?_ | refine z4 ?_ | refine z5 ?_ | refine z6 ?_ | refine z7 (fun hg => ?_) (fun hg => ?_) | refine z8 (fun hg => ?_) (fun hg => ?_) | refine z9 ?_ | refine za ?_ | refine zb ?_ | refine zc ?_ | refine zd ?_ | refine ze ?_ | refine zf ?_ | refine zg ?_ | refine zh ?_ | refine zi (fun _ => ?_) | refine zj (fun _ => ?_) | refine zk ?_ | refine zl ?_ ?_ | refine zm ?_ | refine zn ?_ | refine zo ?_ | exact (rfl : _ = _)))
  refine r_look2 (K := kInt) (a := at'.mount) (by exact kn) hm ?_
  rw [tab_lk]
  rename_i b4
  cases hget : t.get at'.mount with
  | none =>
    (repeat' (first | refine z0 ?_ | refine z1 ?_ | refine z2 ?_ | refine z3 ?_ | refine z4 ?_ | refine z5 ?_ | refine z6 ?_ | refine z7 (fun hg => ?_) (fun hg => ?_) | refine z8 (fun hg => ?_) (fun hg => ?_) | refine z9 ?_ | refine za ?_ | refine zb ?_ | refine zc ?_ | refine zd ?_ | refine ze ?_ | refine zf ?_ | refine zg ?_ | refine zh ?_ | refine zi (fun _ => ?_) | refine zj (fun _ => ?_) | refine zk ?_ | refine zl ?_ ?_ | refine zm ?_ | refine zn ?_ | refine zo ?_ | exact (rfl : _ = _)))
    rename_i b8
    exact bad 1 [_, _] (by simp [Tab.bind, hget])
  | some x =>
    (repeat' (first | refine z0 ?_ | refine z1 ?_ | refine z2 ?_ | refine z3 ?_ | refine z4 ?_ | refine z5 ?_ | refine z6 ?_ | refine z7 (fun hg => ?_) (fun hg => ?_) | refine z8 (fun hg => ?_) (fun hg => ?_) | refine z9 ?_ | refine za ?_ | refine zb ?_ | refine zc ?_ | refine zd ?_ | refine ze ?_ | refine zf ?_ | refine zg ?_ | refine zh ?_ | refine zi (fun _ => ?_) | refine zj (fun _ => ?_) | refine zk ?_ | refine zl ?_ ?_ | refine zm ?_ | refine zn ?_ | refine zo ?_ | exact (rfl : _ = _)))
    rename_i b8
    refine mover_ok (t := t) (p := at') ((tabAt2 hPb r).there _ |>.there _) hS ?_
    cases hov : t.over at' with
    | some q =>
      (repeat' (first | refine z0 ?_ | refine z1 ?_ | refine z2 ?_ | refine z3 ?_ | refine z4 ?_ | refine z5 ?_ | refine z6 ?_ | refine z7 (fun hg => ?_) (fun hg => ?_) | refine z8 (fun hg => ?_) (fun hg => ?_) | refine z9 ?_ | refine za ?_ | refine zb ?_ | refine zc ?_ | refine zd ?_ | refine ze ?_ | refine zf ?_ | refine zg ?_ | refine zh ?_ | refine zi (fun _ => ?_) | refine zj (fun _ => ?_) | refine zk ?_ | refine zl ?_ ?_ | refine zm ?_ | refine zn ?_ | refine zo ?_ | exact (rfl : _ = _)))
      exact bad 15 [_, _] (by simp [Tab.bind, hget, hov])
    | none =>
      (repeat' (first | refine z0 ?_ | refine z1 ?_ | refine z2 ?_ | refine z3 ?_ | refine z4 ?_ | refine z5 ?_ | refine z6 ?_ | refine z7 (fun hg => ?_) (fun hg => ?_) | refine z8 (fun hg => ?_) (fun hg => ?_) | refine z9 ?_ | refine za ?_ | refine zb ?_ | refine zc ?_ | refine zd ?_ | refine ze ?_ | refine zf ?_ | refine zg ?_ | refine zh ?_ | refine zi (fun _ => ?_) | refine zj (fun _ => ?_) | refine zk ?_ | refine zl ?_ ?_ | refine zm ?_ | refine zn ?_ | refine zo ?_ | exact (rfl : _ = _)))
      · exact bad 13 [_, _] (by have : 8 ≤ t.list.length := by omega
                                simp [Tab.bind, hget, hov, this])
      · have hlt : ¬ 8 ≤ t.list.length := by omega
        have hbd : t.bind at' node = (({ l := t.l ++ [some { top := node, lies := at' }] } : Tab), (t.l.length : Int), (0 : Int)) := by simp [Tab.bind, hget, hov, hlt]
        rw [hbd] at h
        have hw : IntKind.i64.wrap ((t.l.length : Int) - 1 + 1) = (t.l.length : Int) := by rw [wrap_id (by omega) (by omega)]; omega
        rw [hw]
        have hnot : (t.l.length : Int) ∉ (tabK t).map Prod.fst := fun hmem => by
          obtain ⟨q, hq, hq2⟩ := List.mem_map.1 hmem
          obtain ⟨⟨a, y⟩, hy, rfl⟩ := List.mem_map.1 hq
          have := live_bound t.l 0 a y hy
          simp only at hq2
          omega
        refine r_mapset (K := kInt) (a := (t.l.length : Int)) (by exact kn) hm (fun es' clk' hm' => ⟨_, by exact chg, ?_⟩)
        (repeat' (first | refine z0 ?_ | refine z1 ?_ | refine z2 ?_ | refine z3 ?_ | refine z4 ?_ | refine z5 ?_ | refine z6 ?_ | refine z7 (fun hg => ?_) (fun hg => ?_) | refine z8 (fun hg => ?_) (fun hg => ?_) | refine z9 ?_ | refine za ?_ | refine zb ?_ | refine zc ?_ | refine zd ?_ | refine ze ?_ | refine zf ?_ | refine zg ?_ | refine zh ?_ | refine zi (fun _ => ?_) | refine zj (fun _ => ?_) | refine zk ?_ | refine zl ?_ ?_ | refine zm ?_ | refine zn ?_ | refine zo ?_ | exact (rfl : _ = _)))
        rw [putK_of_not hnot] at hm'
        have ht : tabK ({ l := t.l ++ [some { top := node, lies := at' }] } : Tab) = tabK t ++ [((t.l.length : Int), mntV { top := node, lies := at' })] := by
          unfold tabK
          rw [live_snoc]; simp
        refine ⟨_, (ent_front [_, _] _).trans (ent_close [_, _] r), h _ ⟨ty, mb, IntKind.i64.wrap (turns + 1), es', clk', ?_, by rw [ht]; exact hm'⟩⟩
        have : (((t.l ++ [some ({ top := node, lies := at' } : Mnt)]).length : Int) - 1) = t.l.length := by simp
        rw [this]
        simp [pt]
theorem munbind_ok (hk : Take l c r) (hP : PTab b t c) (hS : t.l.length ≤ 2 ^ 30) (h : ∀ c', PTab b (t.unbind m).1 c' → R (vi (t.unbind m).2) (c' :: r)) :
    scall Tryz.prog 45 #[ptr b 0, vi m] R l := by
  obtain ⟨ty, mb, turns, es, clk, hc, hm⟩ := hP
  refine scall_perm (l' := pt b (.cells #[.map (some mb), vi ((t.l.length : Int) - 1), vi turns] ty) :: pt mb (.map es clk) :: r) (hk.trans (perm_of_ct fun a => ?_)) (scall_post (S45_ok ?_))
  · have h1 := ct_of_perm hc a
    simp only [List.flatten_cons, List.flatten_append, List.flatten_nil, ct_append, ct_cons, ct_nil, pt, vi, ptr, vstr', Value.cells, tCells, nCells, List.append_nil] at h1 ⊢
    omega
  have hPb : PTab b t [(b, .cells #[.map (some mb), vi ((t.l.length : Int) - 1), vi turns] ty), (mb, .map es clk)] := ⟨ty, mb, turns, es, clk, .refl _, hm⟩
  have bad : ∀ (e : Int) (g : St), t.unbind m = (t, e) → ∃ l2, Ent (g ++ (pt b (.cells #[.map (some mb), vi ((t.l.length : Int) - 1), vi turns] ty) :: pt mb (.map es clk) :: r)) l2 ∧ R (vi e) l2 := fun e g hb => by
    rw [hb] at h
    exact ⟨_, (ent_front g _).trans (ent_close [_, _] r), h _ (by simpa [pt] using hPb)⟩
  unfold S45
  (repeat' (first | refine z0 ?_ | refine z1 ?_ | refine z2 ?_ | refine z3 ?_ | refine z4 ?_ | refine z5 ?_ | refine z6 ?_ | refine z7 (fun hg => ?_) (fun hg => ?_) | refine z8 (fun hg => ?_) (fun hg => ?_) | refine z9 ?_ | refine za ?_ | refine zb ?_ | refine zc ?_ | refine zd ?_ | refine ze ?_ | refine zf ?_ | refine zg ?_ | refine zh ?_ | refine zi (fun _ => ?_) | refine zj (fun _ => ?_) | refine zk ?_ | refine zl ?_ ?_ | refine zm ?_ | refine zn ?_ | refine zo ?_ | exact (rfl : _ = _)))
  refine r_look2 (K := kInt) (a := m) (by exact kn) hm ?_
  rw [tab_lk]
  cases hget : t.get m with
  | none =>
    (repeat' (first | refine z0 ?_ | refine z1 ?_ | refine z2 ?_ | refine z3 ?_ | refine z4 ?_ | refine z5 ?_ | refine z6 ?_ | refine z7 (fun hg => ?_) (fun hg => ?_) | refine z8 (fun hg => ?_) (fun hg => ?_) | refine z9 ?_ | refine za ?_ | refine zb ?_ | refine zc ?_ | refine zd ?_ | refine ze ?_ | refine zf ?_ | refine zg ?_ | refine zh ?_ | refine zi (fun _ => ?_) | refine zj (fun _ => ?_) | refine zk ?_ | refine zl ?_ ?_ | refine zm ?_ | refine zn ?_ | refine zo ?_ | exact (rfl : _ = _)))
    rename_i b8
    exact bad 1 [_] (by simp [Tab.unbind, hget])
  | some x =>
    (repeat' (first | refine z0 ?_ | refine z1 ?_ | refine z2 ?_ | refine z3 ?_ | refine z4 ?_ | refine z5 ?_ | refine z6 ?_ | refine z7 (fun hg => ?_) (fun hg => ?_) | refine z8 (fun hg => ?_) (fun hg => ?_) | refine z9 ?_ | refine za ?_ | refine zb ?_ | refine zc ?_ | refine zd ?_ | refine ze ?_ | refine zf ?_ | refine zg ?_ | refine zh ?_ | refine zi (fun _ => ?_) | refine zj (fun _ => ?_) | refine zk ?_ | refine zl ?_ ?_ | refine zm ?_ | refine zn ?_ | refine zo ?_ | exact (rfl : _ = _)))
    · exact bad 1 [_] (by unfold Tab.unbind; rw [hget]; simp [hg])
    · have h0 : ¬ m = 0 := hg
      refine mabove_ok (t := t) (m := m) ((tabAt2 hPb r).there _) hS (fun v cv hv => ?_)
      refine r_slen (hv.at (fun b o hbo => knows_in hbo _)) ?_
      (repeat' (first | refine z0 ?_ | refine z1 ?_ | refine z2 ?_ | refine z3 ?_ | refine z4 ?_ | refine z5 ?_ | refine z6 ?_ | refine z7 (fun hg => ?_) (fun hg => ?_) | refine z8 (fun hg => ?_) (fun hg => ?_) | refine z9 ?_ | refine za ?_ | refine zb ?_ | refine zc ?_ | refine zd ?_ | refine ze ?_ | refine zf ?_ | refine zg ?_ | refine zh ?_ | refine zi (fun _ => ?_) | refine zj (fun _ => ?_) | refine zk ?_ | refine zl ?_ ?_ | refine zm ?_ | refine zn ?_ | refine zo ?_ | exact (rfl : _ = _)))
      · exact bad 15 [_, _] (by
          have hne : t.above m ≠ [] := fun e => by rw [e] at hg; simp at hg
          simp [Tab.unbind, *])
      · have hab : t.above m = [] := by
          cases hh : t.above m with
          | nil => rfl
          | cons q rr => rw [hh] at hg; simp at hg
        have hub : t.unbind m = ({ l := seti t.l (m + 1) none }, 0) := by unfold Tab.unbind; rw [hget]; simp [h0, hab]
        rw [hub] at h
        refine r_delete (K := kInt) (a := m) (kt := 3) (ety := 159) (by kernel_rfl) (by kernel_rfl) (.inl ⟨_, rfl⟩) (by exact kn) hm (fun es' hm' => ⟨_, by exact chg, ?_⟩)
        (repeat' (first | refine z0 ?_ | refine z1 ?_ | refine z2 ?_ | refine z3 ?_ | refine z4 ?_ | refine z5 ?_ | refine z6 ?_ | refine z7 (fun hg => ?_) (fun hg => ?_) | refine z8 (fun hg => ?_) (fun hg => ?_) | refine z9 ?_ | refine za ?_ | refine zb ?_ | refine zc ?_ | refine zd ?_ | refine ze ?_ | refine zf ?_ | refine zg ?_ | refine zh ?_ | refine zi (fun _ => ?_) | refine zj (fun _ => ?_) | refine zk ?_ | refine zl ?_ ?_ | refine zm ?_ | refine zn ?_ | refine zo ?_ | exact (rfl : _ = _)))
        obtain ⟨j, hj, hn⟩ := geti_nth' hget
        have hmj : m = ((0 + j : Nat) : Int) := by omega
        obtain ⟨A, B, e1, -, e3⟩ := liveFrom_set t.l 0 j x hn
        have hseti : seti t.l (m + 1) none = setNth t.l j none := by rw [hj]; rfl
        have hnotA : m ∉ (A.map fun p => (p.1, mntV p.2)).map Prod.fst := fun hmem => by
          have hnd := liveFrom_nodup t.l 0
          rw [e1, List.map_append, List.nodup_append] at hnd
          obtain ⟨q, hq, hq2⟩ := List.mem_map.1 hmem
          obtain ⟨q2, hq3, rfl⟩ := List.mem_map.1 hq
          exact hnd.2.2 m (List.mem_map.2 ⟨q2, hq3, hq2⟩) m (by rw [hmj]; simp) rfl
        have ht : delK m (tabK t) = tabK ({ l := seti t.l (m + 1) none } : Tab) := by
          unfold tabK
          rw [hseti, e1, e3, List.map_append, List.map_append, List.map_cons, ← hmj]
          exact delK_of_split hnotA
        rw [ht] at hm'
        refine ⟨_, (ent_front [_, _] _).trans (ent_close [_, _] r), h _ ⟨ty, mb, IntKind.i64.wrap (turns + 1), es', clk, ?_, hm'⟩⟩
        simp only [seti_len]
        simp [pt]
theorem mnew_ok (h : ∀ b c, PTab b (Tab.new node) c → R (ptr b 0) (c :: l)) : scall Tryz.prog 72 #[vi node] R l := by
  refine scall_post (S72_ok ?_)
  unfold S72
  (repeat' (first | refine z0 ?_ | refine z1 ?_ | refine z2 ?_ | refine z3 ?_ | refine z4 ?_ | refine z5 ?_ | refine z6 ?_ | refine z7 (fun hg => ?_) (fun hg => ?_) | refine z8 (fun hg => ?_) (fun hg => ?_) | refine z9 ?_ | refine za ?_ | refine zb ?_ | refine zc ?_ | refine zd ?_ | refine ze ?_ | refine zf ?_ | refine zg ?_ | refine zh ?_ | refine zi (fun _ => ?_) | refine zj (fun _ => ?_) | refine zk ?_ | refine zl ?_ ?_ | refine zm ?_ | refine zn ?_ | refine zo ?_ | exact (rfl : _ = _)))
  rename_i mb
  refine r_mapset (K := kInt) (a := 0) (by exact kn) (mapOf_empty kInt) (fun es' clk' hm' => ⟨_, by exact chg, ?_⟩)
  (repeat' (first | refine z0 ?_ | refine z1 ?_ | refine z2 ?_ | refine z3 ?_ | refine z4 ?_ | refine z5 ?_ | refine z6 ?_ | refine z7 (fun hg => ?_) (fun hg => ?_) | refine z8 (fun hg => ?_) (fun hg => ?_) | refine z9 ?_ | refine za ?_ | refine zb ?_ | refine zc ?_ | refine zd ?_ | refine ze ?_ | refine zf ?_ | refine zg ?_ | refine zh ?_ | refine zi (fun _ => ?_) | refine zj (fun _ => ?_) | refine zk ?_ | refine zl ?_ ?_ | refine zm ?_ | refine zn ?_ | refine zo ?_ | exact (rfl : _ = _)))
  rename_i b
  refine ⟨_, ent_close [_, _] l, h b _ ⟨163, mb, 0, es', clk', ?_, hm'⟩⟩
  simp [pt, Tab.new]
  exact .refl _
end
end Go.Sl
namespace Go.Mo
def splitC : Str → List Str
  | [] => [[]]
  | b :: r => if b = 47 then [] :: splitC r else match splitC r with
    | [] => [[b]]
    | p :: ps => (b :: p) :: ps
def full (s : Str) : Bool := !(s == [])
def parts (s : Str) : List Str := (splitC s).filter full
structure Path where
  root : Bool := false
  slash : Bool := false
  parts : List Str := []
  deriving DecidableEq, Inhabited
def long (s : Str) : Bool := 255 < s.length
def isSl (o : Option UInt8) : Bool := o == some 47
def readP (s : Str) : Path × Int :=
  if s = [] then ({}, 32)
  else if 4096 < s.length then ({}, 45)
  else if s.contains 0 then ({}, 39)
  else if (parts s).any long then ({}, 45)
  else ({ root := isSl s.head?, slash := isSl s.getLast?, parts := parts s }, 0)
def joinS : List Str → Str
  | [] => []
  | [p] => p
  | p :: q :: r => p ++ 47 :: joinS (q :: r)
def writeP (p : Path) : Str := (if p.root then [47] else []) ++ joinS p.parts ++ (if p.slash && p.parts.length != 0 then [47] else [])
def may (c : Cred) (s : Stt) (want : Int) : Bool :=
  c.uid = 0 || ((if c.uid = s.uid then s.mode / 64 else if c.gid = s.gid then s.mode / 8 else s.mode) / want) % 2 = 1
def owns (c : Cred) (s : Stt) : Bool := c.uid = 0 || c.uid = s.uid
def sticky (c : Cred) (dir s : Stt) : Bool := (dir.mode / 512) % 2 = 1 && !owns c dir && !owns c s
structure Fnd where
  dir : Plc := {}
  last : Str := []
  pl : Plc := {}
  has : Bool := false
  slash : Bool := false
  deriving DecidableEq, Inhabited
structure WEnv where
  T : Tree
  M : Tab
  c : Cred
  root : Plc
  follow : Bool
structure Wk where
  pl : Plc
  left : List Str
  slash : Bool
  links : Int
  f : Fnd
  deriving DecidableEq, Inhabited
def Tree.st (T : Tree) (n : Int) : Stt := (T.stat n).getD {}
def isPlace (T : Tree) (M : Tab) (p : Plc) : Bool := (T.stat p.node).isSome && (M.root p.mount).2
def hereF (p : Plc) : Fnd := { dir := p, pl := p, has := true }
def upGo (M : Tab) (root : Plc) : Nat → Plc → Plc × Bool
  | 0, p => (p, false)
  | k + 1, p => match M.up p with
    | (q, true) => if M.down q = root then (root, true) else upGo M root k q
    | (_, false) => (p, false)
def wup (T : Tree) (M : Tab) (root p : Plc) : Plc :=
  if p = root then p else match upGo M root (M.l.length + 1) p with
    | (q, true) => q
    | (q, false) => M.down { mount := q.mount, node := T.up q.node }
def linkW (E : WEnv) (w : Wk) (left : List Str) (text : Str) : Except Int Wk :=
  if 40 ≤ w.links then .error 46
  else if text = [] then .error 32
  else if (4096 : Int) < text.length + (writeP { parts := left, slash := w.slash }).length then .error 45
  else match readP text with
    | (p, e) => if e ≠ 0 then .error e else
      let q := if p.root then E.root else w.pl
      .ok { pl := q, left := p.parts ++ left, slash := if left.length = 0 then w.slash || p.slash else w.slash, links := w.links + 1, f := hereF q }
def partW (E : WEnv) (w : Wk) (s : Str) (left : List Str) : Except (Fnd × Int) Wk :=
  if (E.T.st w.pl.node).kind ≠ 1 then .error ({}, 37)
  else if !may E.c (E.T.st w.pl.node) 1 then .error ({}, 34)
  else if s = [46] then .ok { w with left := left, f := hereF w.pl }
  else if s = [46, 46] then .ok { w with pl := wup E.T E.M E.root w.pl, left := left, f := hereF (wup E.T E.M E.root w.pl) }
  else match E.T.find w.pl.node s with
    | none => if left.length ≠ 0 then .error ({}, 32) else .error ({ dir := w.pl, last := s, slash := w.slash }, 0)
    | some n =>
      let p := E.M.down { mount := w.pl.mount, node := n }
      if (E.T.st p.node).kind = 3 ∧ (left.length ≠ 0 ∨ E.follow = true ∨ w.slash = true) then
        match linkW E w left (E.T.text p.node) with
        | .error e => .error ({}, e)
        | .ok w' => .ok w'
      else .ok { w with pl := p, left := left, f := { dir := w.pl, last := s, pl := p, has := true } }
def endW (E : WEnv) (w : Wk) : Fnd × Int :=
  if w.slash && (E.T.st w.pl.node).kind != 1 then ({}, 37) else ({ w.f with slash := w.slash }, 0)
def walkGo (E : WEnv) : Nat → Wk → Fnd × Int
  | 0, _ => ({}, 0)
  | k + 1, w => match w.left with
    | [] => endW E w
    | s :: left => match partW E w s left with
      | .error r => r
      | .ok w' => walkGo E k w'
def Wk.size (w : Wk) : Nat := (40 - w.links).toNat * 5000 + w.left.length
def beginW (E : WEnv) (from' : Plc) (p : Path) : Wk :=
  let q := if p.root then E.root else E.M.down from'
  { pl := q, left := p.parts, slash := p.slash, links := 0, f := hereF q }
def walkM (T : Tree) (M : Tab) (root from' : Plc) (c : Cred) (path : Str) (follow : Bool) : Fnd × Int :=
  if !isPlace T M root || !isPlace T M from' then ({}, 1)
  else match readP path with
    | (p, e) => if e ≠ 0 then ({}, e) else walkGo { T := T, M := M, c := c, root := M.down root, follow := follow } 300000 (beginW { T := T, M := M, c := c, root := M.down root, follow := follow } from' p)
end Go.Mo
namespace Go.Sl
variable [Ghost]
open Go Go.Mo Go.Proofs
attribute [local irreducible] snil sfa sext sfield sguard sun sbin slen sload sstore snew snewObj sbuildR sbuildSlR smakeMapR smakeSlR slookup smapset srangeMap snext sentry scall scallv sextern sbuiltin sidx sindex sslice sconv srangeX sarg sand sjoin0 sjoin1 sjoin2 sloop0 sloop1 sloop2
theorem bits_may (x : Int) (j : Nat) (w : Int) (hj : j ≤ 2) (hw : w = 2 ^ j) :
    (IntKind.i64.wrap ((BitVec.ofInt IntKind.i64.bits (IntKind.i64.wrap ((BitVec.ofInt IntKind.i64.bits w &&& ~~~ BitVec.ofInt IntKind.i64.bits x).toNat : Int)) &&& BitVec.ofInt IntKind.i64.bits 7).toNat : Int) == 0) = decide ((x / w) % 2 = 1) := by
  have hb : IntKind.i64.bits = 64 := rfl
  rw [hb]
  have e1 : BitVec.ofInt 64 w = BitVec.twoPow 64 j := by
    subst hw
    rcases j with _ | _ | _ | j
    · rfl
    · rfl
    · rfl
    · omega
  rw [e1, BitVec.twoPow_and, BitVec.getLsbD_not]
  have hlt : (decide (j < 64)) = true := by simp; omega
  rw [hlt, Bool.true_and]
  have hbit : (BitVec.ofInt 64 x).getLsbD j = decide ((x / w) % 2 = 1) := by
    rw [BitVec.getLsbD, Nat.testBit_eq_decide_div_mod_eq, BitVec.toNat_ofInt]
    rw [decide_eq_decide]
    subst hw
    have hm : ((2 ^ 64 : Nat) : Int) = 18446744073709551616 := by decide
    rw [hm]
    rcases j with _ | _ | _ | j
    · simp only [Nat.pow_zero, Int.pow_zero, Nat.div_one, Int.ediv_one]; omega
    · simp only [show (2 : Nat) ^ (0 + 1) = 2 from rfl, show (2 : Int) ^ (0 + 1) = 2 from rfl]; omega
    · simp only [show (2 : Nat) ^ (0 + 1 + 1) = 4 from rfl, show (2 : Int) ^ (0 + 1 + 1) = 4 from rfl]; omega
    · omega
  rw [hbit]
  cases hd : decide ((x / w) % 2 = 1) with
  | true =>
    simp only [Bool.not_true, Bool.false_eq_true, if_false]
    rfl
  | false =>
    simp only [Bool.not_false, if_true]
    rcases j with _ | _ | _ | j
    · rfl
    · rfl
    · rfl
    · omega
section
variable {l G : St} {c : Cred} {s d : Stt} {want : Int} {R : Value → SP}
theorem fdiv_pos (x : Int) : x.fdiv 64 = x / 64 ∧ x.fdiv 8 = x / 8 := ⟨Int.fdiv_eq_ediv_of_nonneg _ (by decide), Int.fdiv_eq_ediv_of_nonneg _ (by decide)⟩
theorem may_ok (hw : want = 1 ∨ want = 2 ∨ want = 4) (h : R (.bool (may c s want)) l) : scall Tryz.prog 178 #[crV c, sttV s, vi want] R l := by
  refine scall_post (S178_ok ?_)
  unfold S178
  obtain ⟨j, hj, hwj⟩ : ∃ j : Nat, j ≤ 2 ∧ want = 2 ^ j := by
    rcases hw with rfl | rfl | rfl
    · exact ⟨0, by omega, rfl⟩
    · exact ⟨1, by omega, rfl⟩
    · exact ⟨2, by omega, rfl⟩
  have h64 := (fdiv_pos s.mode).1
  have h8 := (fdiv_pos s.mode).2
  (repeat' (first | refine z0 ?_ | refine z1 ?_ | refine z2 ?_ | refine z3 ?_ | refine z4 ?_ | refine z5 ?_ | refine z6 ?_ | refine z7 (fun hg => ?_) (fun hg => ?_) | refine z8 (fun hg => ?_) (fun hg => ?_) | refine z9 ?_ | refine za ?_ | refine zb ?_ | refine zc ?_ | refine zd ?_ | refine ze ?_ | refine zf ?_ | refine zg ?_ | refine zh ?_ | refine zi (fun _ => ?_) | refine zj (fun _ => ?_) | refine zk ?_ | refine zl ?_ ?_ | refine zm ?_ | refine zn ?_ | refine zo ?_ | exact (rfl : _ = _)))
  · have hm : may c s want = true := by simp [may, hg]
    rw [hm] at h
    exact ⟨l, by exact drp, h⟩
  · rename_i hg1
    have hm : may c s want = decide ((s.mode / 64 / want) % 2 = 1) := by simp only [may, hg1, decide_false, Bool.false_or, if_pos hg]
    rw [bits_may _ j want hj hwj]
    refine ⟨l, by exact drp, ?_⟩
    rw [hm, ← h64] at h
    exact h
  · rename_i hg1 hg2
    have hm : may c s want = decide ((s.mode / 8 / want) % 2 = 1) := by simp only [may, hg1, decide_false, Bool.false_or, if_neg hg2, if_pos hg]
    rw [bits_may _ j want hj hwj]
    refine ⟨l, by exact drp, ?_⟩
    rw [hm, ← h8] at h
    exact h
  · rename_i hg1 hg2
    have hm : may c s want = decide ((s.mode / want) % 2 = 1) := by simp only [may, hg1, decide_false, Bool.false_or, if_neg hg2, if_neg hg]
    rw [bits_may _ j want hj hwj]
    refine ⟨l, by exact drp, ?_⟩
    rw [hm] at h
    exact h
theorem owns_ok (h : R (.bool (owns c s)) l) : scall Tryz.prog 204 #[crV c, sttV s] R l := by
  refine scall_post (S204_ok ?_)
  unfold S204
  (repeat' (first | refine z0 ?_ | refine z1 ?_ | refine z2 ?_ | refine z3 ?_ | refine z4 ?_ | refine z5 ?_ | refine z6 ?_ | refine z7 (fun hg => ?_) (fun hg => ?_) | refine z8 (fun hg => ?_) (fun hg => ?_) | refine z9 ?_ | refine za ?_ | refine zb ?_ | refine zc ?_ | refine zd ?_ | refine ze ?_ | refine zf ?_ | refine zg ?_ | refine zh ?_ | refine zi (fun _ => ?_) | refine zj (fun _ => ?_) | refine zk ?_ | refine zl ?_ ?_ | refine zm ?_ | refine zn ?_ | refine zo ?_ | exact (rfl : _ = _)))
  · have hm : owns c s = true := by simp [owns, hg]
    rw [hm] at h
    exact ⟨l, by exact drp, h⟩
  · refine ⟨l, by exact drp, ?_⟩
    have hm : owns c s = (c.uid == s.uid) := by
      by_cases he : c.uid = s.uid <;> simp [owns, hg, he]
    rw [hm] at h; exact h
theorem bit512 (x : Int) : (IntKind.i64.wrap ((BitVec.ofInt IntKind.i64.bits x &&& BitVec.ofInt IntKind.i64.bits 512).toNat : Int) != 0) = decide ((x / 512) % 2 = 1) := by
  have hb : IntKind.i64.bits = 64 := rfl
  rw [hb]
  have e1 : BitVec.ofInt 64 512 = BitVec.twoPow 64 9 := rfl
  rw [e1, BitVec.and_twoPow]
  have hbit : (BitVec.ofInt 64 x).getLsbD 9 = decide ((x / 512) % 2 = 1) := by
    rw [BitVec.getLsbD, Nat.testBit_eq_decide_div_mod_eq, BitVec.toNat_ofInt]
    rw [decide_eq_decide]
    have hm : ((2 ^ 64 : Nat) : Int) = 18446744073709551616 := by decide
    rw [hm]
    simp only [show (2 : Nat) ^ 9 = 512 from rfl]; omega
  rw [hbit]
  cases hd : decide ((x / 512) % 2 = 1) with
  | true => rfl
  | false => rfl
theorem sticky_ok (h : R (.bool (sticky c d s)) l) : scall Tryz.prog 238 #[crV c, sttV d, sttV s] R l := by
  refine scall_post (S238_ok ?_)
  unfold S238
  (repeat' (first | refine z0 ?_ | refine z1 ?_ | refine z2 ?_ | refine z3 ?_ | refine z4 ?_ | refine z5 ?_ | refine z6 ?_ | refine z7 (fun hg => ?_) (fun hg => ?_) | refine z8 (fun hg => ?_) (fun hg => ?_) | refine z9 ?_ | refine za ?_ | refine zb ?_ | refine zc ?_ | refine zd ?_ | refine ze ?_ | refine zf ?_ | refine zg ?_ | refine zh ?_ | refine zi (fun _ => ?_) | refine zj (fun _ => ?_) | refine zk ?_ | refine zl ?_ ?_ | refine zm ?_ | refine zn ?_ | refine zo ?_ | exact (rfl : _ = _)))
  · rw [bit512] at hg
    have hg : (d.mode / 512) % 2 = 1 := by simpa using hg
    refine owns_ok (c := c) (s := d) ?_
    cases ho : owns c d with
    | true =>
      (repeat' (first | refine z0 ?_ | refine z1 ?_ | refine z2 ?_ | refine z3 ?_ | refine z4 ?_ | refine z5 ?_ | refine z6 ?_ | refine z7 (fun hg => ?_) (fun hg => ?_) | refine z8 (fun hg => ?_) (fun hg => ?_) | refine z9 ?_ | refine za ?_ | refine zb ?_ | refine zc ?_ | refine zd ?_ | refine ze ?_ | refine zf ?_ | refine zg ?_ | refine zh ?_ | refine zi (fun _ => ?_) | refine zj (fun _ => ?_) | refine zk ?_ | refine zl ?_ ?_ | refine zm ?_ | refine zn ?_ | refine zo ?_ | exact (rfl : _ = _)))
      have hm : sticky c d s = false := by simp [sticky, ho]
      rw [hm] at h
      exact ⟨l, by exact drp, h⟩
    | false =>
      (repeat' (first | refine z0 ?_ | refine z1 ?_ | refine z2 ?_ | refine z3 ?_ | refine z4 ?_ | refine z5 ?_ | refine z6 ?_ | refine z7 (fun hg => ?_) (fun hg => ?_) | refine z8 (fun hg => ?_) (fun hg => ?_) | refine z9 ?_ | refine za ?_ | refine zb ?_ | refine zc ?_ | refine zd ?_ | refine ze ?_ | refine zf ?_ | refine zg ?_ | refine zh ?_ | refine zi (fun _ => ?_) | refine zj (fun _ => ?_) | refine zk ?_ | refine zl ?_ ?_ | refine zm ?_ | refine zn ?_ | refine zo ?_ | exact (rfl : _ = _)))
      refine owns_ok (c := c) (s := s) ?_
      (repeat' (first | refine z0 ?_ | refine z1 ?_ | refine z2 ?_ | refine z3 ?_ | refine z4 ?_ | refine z5 ?_ | refine z6 ?_ | refine z7 (fun hg => ?_) (fun hg => ?_) | refine z8 (fun hg => ?_) (fun hg => ?_) | refine z9 ?_ | refine za ?_ | refine zb ?_ | refine zc ?_ | refine zd ?_ | refine ze ?_ | refine zf ?_ | refine zg ?_ | refine zh ?_ | refine zi (fun _ => ?_) | refine zj (fun _ => ?_) | refine zk ?_ | refine zl ?_ ?_ | refine zm ?_ | refine zn ?_ | refine zo ?_ | exact (rfl : _ = _)))
      refine ⟨l, by exact drp, ?_⟩
      have hm : sticky c d s = !owns c s := by simp only [sticky, ho, hg]; simp
      rw [hm] at h
      exact h
  · rw [bit512] at hg
    have hg : ¬ (d.mode / 512) % 2 = 1 := by simpa using hg
    have hm : sticky c d s = false := by simp [sticky, hg]
    rw [hm] at h
    exact ⟨l, by exact drp, h⟩
end
end Go.Sl
namespace Go.Sl
variable [Ghost]
open Go Go.Mo Go.Proofs
attribute [local irreducible] snil sfa sext sfield sguard sun sbin slen sload sstore snew snewObj sbuildR sbuildSlR smakeMapR smakeSlR slookup smapset srangeMap snext sentry scall scallv sextern sbuiltin sidx sindex sslice sconv srangeX sarg sand sjoin0 sjoin1 sjoin2 sloop0 sloop1 sloop2
theorem bs_extract (s : Str) (a b : Nat) : (bs s).extract a b = bs ((s.drop a).take (b - a)) := ByteArray.extract_mk s a b
theorem bs_size (s : Str) : (bs s).size = s.length := by simp [bs, ByteArray.size]
theorem map_vstr_inj : ∀ {a b : List Str}, a.map vstr' = b.map vstr' → a = b
  | [], [], _ => rfl
  | [], _ :: _, h => by cases h
  | _ :: _, [], h => by cases h
  | x :: a, y :: b, h => by
    simp only [List.map_cons, List.cons.injEq] at h
    rw [map_vstr_inj h.2]
    have := h.1
    injection this with this
    rw [bs_inj this]
theorem r_strlen {s : Str} {k : Value → SP} {l : St} (h : k (vi s.length) l) : slen .str (vstr' s) k l := by
  refine r_len_str ?_
  rw [bs_size]; exact h
theorem r_cut {s : Str} {i : Nat} {k : Value → SP} {l : St} (hi : i ≤ s.length) (h : k (vstr' (s.take i)) l) : sslice none (vstr' s) none (some (vi (i : Int))) none k l := by
  unfold sslice
  refine ⟨rfl, 0, i, rfl, rfl, Nat.zero_le _, by rw [bs_size]; exact hi, ?_⟩
  rw [bs_extract]; simpa using h
theorem r_rest {s : Str} {i : Nat} {k : Value → SP} {l : St} (hi : i ≤ s.length) (h : k (vstr' (s.drop i)) l) : sslice none (vstr' s) (some (vi (i : Int))) none none k l := by
  unfold sslice
  refine ⟨rfl, i, s.length, rfl, (bs_size s).symm, hi, by rw [bs_size]; exact Nat.le_refl _, ?_⟩
  rw [bs_extract, List.take_of_length_le (by simp)]; exact h
theorem splitC_neg : ∀ s : Str, Lib.indexByte s 47 < 0 → splitC s = [s]
  | [], _ => rfl
  | b :: s, h => by
    have hc := (indexByte_neg 47 (b :: s)).1 h
    have h1 : b ≠ 47 := fun e => by subst e; simp at hc
    have h2 : Lib.indexByte s 47 < 0 := (indexByte_neg 47 s).2 (by
      simp only [List.contains_cons, Bool.or_eq_false_iff] at hc
      exact hc.2)
    simp only [splitC, if_neg h1, splitC_neg s h2]
theorem splitC_pos : ∀ (s : Str) (i : Nat), Lib.indexByte s 47 = (i : Int) → i < s.length ∧ splitC s = s.take i :: splitC (s.drop (i + 1))
  | [], i, h => by simp [Lib.indexByte] at h
  | b :: s, i, h => by
    unfold Lib.indexByte at h
    by_cases h1 : b = 47
    · subst h1
      simp at h
      have : i = 0 := by omega
      subst this
      simp [splitC]
    · have h2 : (b == 47) = false := by simpa using h1
      rw [h2] at h
      simp only [Bool.false_eq_true, if_false] at h
      split at h
      · omega
      · rename_i h3
        have hge := Lib.indexByte_ge s 47
        have h3' : Lib.indexByte s 47 ≠ -1 := by simpa using h3
        obtain ⟨j, hj⟩ : ∃ j : Nat, Lib.indexByte s 47 = (j : Int) := ⟨(Lib.indexByte s 47).toNat, by omega⟩
        have hi : i = j + 1 := by omega
        subst hi
        obtain ⟨h4, h5⟩ := splitC_pos s j hj
        refine ⟨by simp; omega, ?_⟩
        simp only [splitC, if_neg h1, h5, List.take_succ_cons, List.drop_succ_cons]
theorem splitC_count : ∀ s : Str, ((splitC s).filter full).length ≤ s.length ∧ ∀ p ps, splitC s = p :: ps → (ps.filter full).length + (if full p then 1 else 0) ≤ s.length
  | [] => ⟨by simp [splitC, full], fun p ps h => by simp [splitC] at h; obtain ⟨rfl, rfl⟩ := h; simp [full]⟩
  | b :: s => by
    obtain ⟨ih1, ih2⟩ := splitC_count s
    have key : ∀ p ps, splitC (b :: s) = p :: ps → (ps.filter full).length + (if full p then 1 else 0) ≤ (b :: s).length := by
      intro p ps h
      simp only [splitC] at h
      split at h
      · cases h
        simp only [List.length_cons]
        have : full [] = false := rfl
        rw [this]; simp; omega
      · split at h
        · cases h
          simp only [List.length_cons, List.filter_nil, List.length_nil]; split <;> omega
        · rename_i q qs hq
          cases h
          have := ih2 q ps hq
          simp only [List.length_cons]
          split <;> omega
    refine ⟨?_, key⟩
    cases hc : splitC (b :: s) with
    | nil => simp
    | cons p ps =>
      have := key p ps hc
      rw [List.filter_cons]
      split
      · rename_i hp; rw [if_pos hp] at this; simp only [List.length_cons] at this ⊢; omega
      · rename_i hp; rw [if_neg hp] at this; simpa using this
theorem parts_len (s : Str) : (parts s).length ≤ s.length := (splitC_count s).1
section
variable {l G : St} {s : Str} {R : Value → SP}
theorem index_ok (h : R (vi (Lib.indexByte s 47)) l) : scall Tryz.prog 281 #[vstr' s, vstr' [47]] R l := by
  refine S281_ok ?_
  unfold S281
  refine S291_ok ?_
  unfold S291
  refine r_len_str ?_
  refine r_join1 ?_
  refine r_bin (by rfl) ?_
  refine r_guard_f ?_
  refine r_streq (a := [47]) (b := s) ?_
  by_cases he : [47] = s
  · have : decide ([47] = s) = true := by simpa using he
    rw [this]
    refine r_guard_t ?_
    subst he
    exact h
  · have : decide ([47] = s) = false := by simpa using he
    rw [this]
    refine r_guard_f ?_
    refine r_bin (by rfl) ?_
    refine r_guard_t ?_
    unfold sindex
    refine ⟨47, by decide, rfl, ?_⟩
    exact scall_pure (fun w => Tryz.stringslite_IndexByte (bs s) 47 w) (by rw [bs_toList]; exact h)
theorem split_iter {b3 b4 b5 : Nat} {t3 t4 t5 : TypeId} (hb : s.length ≤ 2 ^ 40) :
    IterD Tryz.prog (.func (.func 279) #[] #[ptr b4 0, ptr b3 0, ptr b5 0]) [pt b5 (.cells #[vi 0] t5), pt b4 (.cells #[vstr' [47]] t4), pt b3 (.cells #[vstr' s] t3)] []
      (List Value) (fun d xs => ∃ v rest, xs = #[v] ∧ d ++ v :: rest = (splitC s).map vstr') (fun d xs => d ++ xs.toList) [] (fun d => d = (splitC s).map vstr') := by
  intro y I J hyf hy σ hI0
  refine r_callv (by kernel_rfl) ?_
  show scall Tryz.prog 279 #[y, ptr b4 0, ptr b3 0, ptr b5 0] _ _
  refine scall_post (S279_ok ?_)
  unfold S279
  have e0 : ([pt b5 (.cells #[vi 0] t5), pt b4 (.cells #[vstr' [47]] t4), pt b3 (.cells #[vstr' s] t3)] : St) ++ σ = pt b5 (.cells #[vi 0] t5) :: pt b4 (.cells #[vstr' [47]] t4) :: pt b3 (.cells #[vstr' s] t3) :: σ := rfl
  rw [e0]
  refine r_load1 (knows_there _ (knows_pt _ _ _)) (by rfl) ?_
  refine r_len_str ?_
  refine r_bin (by rfl) ?_
  refine r_guard_f ?_
  refine r_loop0 (fun k σ' => ∃ (rem : Str) (d : List Value) (σ1 : St), σ' = pt b5 (.cells #[vi 0] t5) :: pt b4 (.cells #[vstr' [47]] t4) :: pt b3 (.cells #[vstr' rem] t3) :: σ1 ∧ I d σ1 ∧ d ++ (splitC rem).map vstr' = (splitC s).map vstr' ∧ k = rem.length ∧ rem.length ≤ s.length) s.length ⟨s, [], σ, rfl, hI0, rfl, rfl, Nat.le_refl _⟩ ?_
  rintro k σ' ⟨rem, d, σ1, rfl, hI, hd, rfl, hrem⟩
  refine r_load1 (knows_there _ (knows_there _ (knows_pt _ _ _))) (by rfl) ?_
  refine r_load1 (knows_there _ (knows_pt _ _ _)) (by rfl) ?_
  refine index_ok ?_
  refine r_bin (by rfl) ?_
  refine r_guard_d (fun hg => ?_) (fun hg => ?_)
  · have hsp := splitC_neg rem hg
    rw [hsp] at hd
    refine r_load1 (knows_there _ (knows_there _ (knows_pt _ _ _))) (by rfl) ?_
    refine scallv_frame (r := [pt b5 (.cells #[vi 0] t5), pt b4 (.cells #[vstr' [47]] t4), pt b3 (.cells #[vstr' rem] t3)]) (m := σ1) (.refl _) ?_
    refine scallv_mono (hy d #[vstr' rem] σ1 ⟨vstr' rem, [], rfl, hd⟩ hI) ?_
    rintro w σ2 (⟨rfl, hI3⟩ | ⟨rfl, hJ⟩)
    · exact ⟨σ2, ent_front _ _, σ2, rfl, .inl ⟨_, hd, hI3⟩⟩
    · exact ⟨σ2, ent_front _ _, σ2, rfl, .inr hJ⟩
  · obtain ⟨i, hi⟩ : ∃ i : Nat, Lib.indexByte rem 47 = (i : Int) := ⟨(Lib.indexByte rem 47).toNat, by omega⟩
    rw [hi]
    obtain ⟨hlt, hsp⟩ := splitC_pos rem i hi
    refine r_load1 (knows_there _ (knows_there _ (knows_pt _ _ _))) (by rfl) ?_
    refine r_load1 (knows_pt _ _ _) (by rfl) ?_
    refine r_bin (by rfl) ?_
    have hw : IntKind.i64.wrap ((i : Int) + 0) = (i : Int) := by rw [wrap_id (by omega) (by omega)]; omega
    rw [hw]
    refine r_cut (by omega) ?_
    refine scallv_frame (r := [pt b5 (.cells #[vi 0] t5), pt b4 (.cells #[vstr' [47]] t4), pt b3 (.cells #[vstr' rem] t3)]) (m := σ1) (.refl _) ?_
    refine scallv_mono (hy d #[vstr' (rem.take i)] σ1 ⟨vstr' (rem.take i), (splitC (rem.drop (i + 1))).map vstr', rfl, by rw [← hd, hsp]; rfl⟩ hI) ?_
    rintro w σ2 (⟨rfl, hI3⟩ | ⟨rfl, hJ⟩)
    · refine r_not ?_
      refine r_guard_f ?_
      refine r_load1 (knows_there _ (knows_there _ (knows_pt _ _ _))) (by rfl) ?_
      refine r_load1 (knows_there _ (knows_pt _ _ _)) (by rfl) ?_
      refine r_len_str ?_
      refine r_bin (by rfl) ?_
      have hw2 : IntKind.i64.wrap ((i : Int) + 1) = ((i + 1 : Nat) : Int) := by rw [wrap_id (by omega) (by omega)]; simp
      refine (?_ : sslice none _ (some (vi (IntKind.i64.wrap ((i : Int) + 1)))) none none _ _)
      rw [hw2]
      refine r_rest (by omega) ?_
      refine r_store (knows_there _ (knows_there _ (knows_pt _ _ _))) (by rfl) (by rfl) (by rfl) (by rfl) (change_there _ (change_there _ (change_pt _ _ _ _))) ?_
      refine ⟨(rem.drop (i + 1)).length, by simp; omega, rem.drop (i + 1), d ++ [vstr' (rem.take i)], σ2, rfl, hI3, ?_, rfl, by simp; omega⟩
      rw [← hd, hsp]; simp
    · refine r_not ?_
      refine r_guard_t ?_
      exact ⟨σ2, ent_front _ _, σ2, rfl, .inr hJ⟩
theorem parts_iter {cb : Nat} {ty : TypeId} (hb : s.length ≤ 2 ^ 40) :
    IterV Tryz.prog (.func (.func 222) #[] #[ptr cb 0]) (pt cb (.cells #[vstr' s] ty) :: G) (fun d => d = (parts s).map vstr') := by
  intro y I J hyf hy σ hI0
  refine r_callv (by kernel_rfl) ?_
  obtain ⟨yf, ya, yc, rfl⟩ := hyf
  generalize hyv : Value.func yf ya yc = y at hy
  show scall Tryz.prog 222 #[y, ptr cb 0] _ _
  have hyc : y.cells = #[y] := by rw [← hyv]; rfl
  refine scall_post (S222_ok ?_)
  unfold S222
  refine r_new fun b2 => ?_
  refine r_load1 (knows_there _ (knows_pt _ _ _)) (by rfl) ?_
  refine S223_ok ?_
  unfold S223
  refine S264_ok ?_
  unfold S264
  refine r_new fun b3 => ?_
  refine r_new fun b4 => ?_
  refine r_new fun b5 => ?_
  unfold srangeX
  let fl : List Value → List Value := fun d => d.filter fun v => match v with | .string b => b.size != 0 | _ => false
  have hfl : ∀ ps : List Str, fl (ps.map vstr') = (ps.filter full).map vstr' := by
    intro ps
    induction ps with
    | nil => rfl
    | cons p ps ih =>
      have hp : ((bs p).size != 0) = full p := by
        rw [bs_size]; unfold full
        cases p <;> simp
      show List.filter _ (vstr' p :: ps.map vstr') = _
      simp only [List.filter_cons, hp]
      cases full p with
      | true => simp only [if_true, List.map_cons]; congr 1
      | false => simpa using ih
  refine ⟨List Value, fun d σ' => ∃ σ1, σ' = pt b2 (.cells (Value.cells y) 141) :: pt cb (.cells #[vstr' s] ty) :: (G ++ σ1) ∧ I (fl d) σ1,
    fun o σ' => o = none ∧ ∃ σ1, σ' = pt b2 (.cells (Value.cells y) 141) :: pt cb (.cells #[vstr' s] ty) :: (G ++ σ1) ∧ J σ1,
    _, _, [], _, [pt b5 (.cells #[vi 0] 3), pt b4 (.cells #[vstr' [47]] 9), pt b3 (.cells #[vstr' s] 9)], [], pt b2 (.cells (Value.cells y) 141) :: pt cb (.cells #[vstr' s] ty) :: (G ++ σ), ⟨_, _, _, rfl, by kernel_rfl⟩, ?_, split_iter hb, ⟨σ, rfl, hI0⟩, ?_, ?_, ?_, fun _ h => by cases h⟩
  · unfold Split
    exact .refl _
  · rintro d xs σ' ⟨v, rest, rfl, hA⟩ ⟨σ1, rfl, hI⟩
    refine ⟨rfl, ?_⟩
    refine r_arg rfl ?_
    have hmem : v ∈ (splitC s).map vstr' := by
      have : v ∈ d ++ v :: rest := by simp
      rw [hA] at this; exact this
    obtain ⟨p, -, rfl⟩ := List.mem_map.1 hmem
    refine r_join1 ?_
    refine r_strne (b := []) ?_
    have hfa : fl (d ++ [vstr' p]) = fl d ++ (if full p then [vstr' p] else []) := by
      show List.filter _ _ = List.filter _ _ ++ _
      rw [List.filter_append]
      have hp : ((bs p).size != 0) = full p := by
        rw [bs_size]; unfold full
        cases p <;> simp
      congr 1
      simp only [List.filter_cons, List.filter_nil, hp]
    have hok : fl d ++ (if full p then [vstr' p] else []) ++ fl rest = (parts s).map vstr' := by
      have h1 := hfl (splitC s)
      rw [← hA] at h1
      have h2 : fl (d ++ vstr' p :: rest) = fl (d ++ [vstr' p]) ++ fl rest := by
        show List.filter _ _ = List.filter _ _ ++ List.filter _ _
        rw [← List.filter_append]; simp
      rw [h2, hfa] at h1; exact h1
    by_cases hp : p = []
    · subst hp
      refine r_guard_f ?_
      refine r_guard_f ?_
      refine ⟨σ1, rfl, ?_⟩
      show I (fl (d ++ [vstr' []])) σ1
      rw [hfa]
      simpa [full] using hI
    · have hfull : full p = true := by simp [full, hp]
      rw [hfull] at hfa hok
      have hpt : decide (p ≠ []) = true := by simpa using hp
      rw [hpt]
      refine r_guard_t ?_
      refine r_load1 (x := y) (knows_pt _ _ _) (by rw [hyc]; rfl) ?_
      refine scallv_frame (r := pt b2 (.cells (Value.cells y) 141) :: pt cb (.cells #[vstr' s] ty) :: G) (m := σ1) (.refl _) ?_
      refine scallv_mono (hy (fl d) #[vstr' p] σ1 ⟨vstr' p, fl rest, rfl, by simpa using hok⟩ hI) ?_
      rintro w σ2 (⟨rfl, hI3⟩ | ⟨rfl, hJ⟩)
      · refine r_not ?_
        refine r_guard_f ?_
        refine ⟨σ2, rfl, ?_⟩
        show I (fl (d ++ [vstr' p])) σ2
        rw [hfa]; exact hI3
      · refine r_not ?_
        refine r_guard_t ?_
        exact ⟨rfl, σ2, rfl, hJ⟩
  · rintro d σ' hA ⟨σ1, rfl, hI⟩
    have hA : d = (splitC s).map vstr' := hA
    refine ⟨pt cb (.cells #[vstr' s] ty) :: (G ++ σ1), Ent.drop _ _, σ1, rfl, .inl ⟨_, ?_, hI⟩⟩
    show fl d = _
    rw [hA]; exact hfl (splitC s)
  · rintro σ' ⟨-, σ1, rfl, hJ⟩
    exact ⟨pt cb (.cells #[vstr' s] ty) :: (G ++ σ1), Ent.drop _ _, σ1, rfl, .inr hJ⟩
theorem read_ok (hb : s.length ≤ 2 ^ 40) (h1 : (readP s).2 ≠ 0 → R (.tuple #[.agg #[.bool false, .bool false, .slice none 0 0], vi (readP s).2]) l)
    (h2 : (readP s).2 = 0 → ∀ v c, SlC 1 v (parts s).length ((parts s).map vstr') c → (readP s).1 = { root := isSl s.head?, slash := isSl s.getLast?, parts := parts s } → R (.tuple #[.agg #[.bool (isSl s.head?), .bool (isSl s.getLast?), v], vi 0]) (c :: l)) :
    scall Tryz.prog 130 #[vstr' s] R l := by
  refine scall_post (S130_ok ?_)
  unfold S130
  refine r_new fun b2 => ?_
  refine r_new fun b3 => ?_
  refine r_streq (b := []) ?_
  by_cases h0 : s = []
  · have hr : readP s = ({}, 32) := by unfold readP; rw [if_pos h0]
    rw [hr] at h1
    have ht : decide (s = []) = true := by simpa using h0
    rw [ht]
    (repeat' (first | refine z0 ?_ | refine z1 ?_ | refine z2 ?_ | refine z3 ?_ | refine z4 ?_ | refine z5 ?_ | refine z6 ?_ | refine z7 (fun hg => ?_) (fun hg => ?_) | refine z8 (fun hg => ?_) (fun hg => ?_) | refine z9 ?_ | refine za ?_ | refine zb ?_ | refine zc ?_ | refine zd ?_ | refine ze ?_ | refine zf ?_ | refine zg ?_ | refine zh ?_ | refine zi (fun _ => ?_) | refine zj (fun _ => ?_) | refine zk ?_ | refine zl ?_ ?_ | refine zm ?_ | refine zn ?_ | refine zo ?_ | exact (rfl : _ = _)))
    exact ⟨l, by exact drp, h1 (by decide)⟩
  have ht : decide (s = []) = false := by simpa using h0
  rw [ht]
  refine r_guard_f ?_
  refine r_strlen ?_
  refine r_bin (by rfl) ?_
  refine r_guard_d (fun hg => ?_) (fun hg => ?_)
  · have hr : readP s = ({}, 45) := by unfold readP; rw [if_neg h0, if_pos (by omega)]
    rw [hr] at h1
    (repeat' (first | refine z0 ?_ | refine z1 ?_ | refine z2 ?_ | refine z3 ?_ | refine z4 ?_ | refine z5 ?_ | refine z6 ?_ | refine z7 (fun hg => ?_) (fun hg => ?_) | refine z8 (fun hg => ?_) (fun hg => ?_) | refine z9 ?_ | refine za ?_ | refine zb ?_ | refine zc ?_ | refine zd ?_ | refine ze ?_ | refine zf ?_ | refine zg ?_ | refine zh ?_ | refine zi (fun _ => ?_) | refine zj (fun _ => ?_) | refine zk ?_ | refine zl ?_ ?_ | refine zm ?_ | refine zn ?_ | refine zo ?_ | exact (rfl : _ = _)))
    exact ⟨l, by exact drp, h1 (by decide)⟩
  have h4096 : ¬ 4096 < s.length := by omega
  refine indexByte_ok ?_
  refine r_bin (by rfl) ?_
  refine r_guard_d (fun hg2 => ?_) (fun hg2 => ?_)
  · have hc : s.contains 0 = true := by
      cases hcc : s.contains 0 with
      | true => rfl
      | false =>
        have := (indexByte_neg 0 s).2 hcc
        have hg3 : Lib.indexByte s 0 ≥ 0 := hg2
        omega
    have hr : readP s = ({}, 39) := by unfold readP; rw [if_neg h0, if_neg h4096, if_pos hc]
    rw [hr] at h1
    (repeat' (first | refine z0 ?_ | refine z1 ?_ | refine z2 ?_ | refine z3 ?_ | refine z4 ?_ | refine z5 ?_ | refine z6 ?_ | refine z7 (fun hg => ?_) (fun hg => ?_) | refine z8 (fun hg => ?_) (fun hg => ?_) | refine z9 ?_ | refine za ?_ | refine zb ?_ | refine zc ?_ | refine zd ?_ | refine ze ?_ | refine zf ?_ | refine zg ?_ | refine zh ?_ | refine zi (fun _ => ?_) | refine zj (fun _ => ?_) | refine zk ?_ | refine zl ?_ ?_ | refine zm ?_ | refine zn ?_ | refine zo ?_ | exact (rfl : _ = _)))
    exact ⟨l, by exact drp, h1 (by decide)⟩
  have hc : ¬ s.contains 0 = true := by
    intro hcc
    have hg3 : ¬ Lib.indexByte s 0 ≥ 0 := hg2
    have := (indexByte_neg 0 s).1 (by omega)
    rw [this] at hcc; cases hcc
  have hr : readP s = if (parts s).any long then ({}, 45) else ({ root := isSl s.head?, slash := isSl s.getLast?, parts := parts s }, 0) := by
    unfold readP; rw [if_neg h0, if_neg h4096, if_neg hc]
  obtain ⟨b0, r0, hs0⟩ : ∃ b r, s = b :: r := by cases s with | nil => exact absurd rfl h0 | cons b r => exact ⟨b, r, rfl⟩
  have hlast : s.getLast? = some (s.getLast h0) := List.getLast?_eq_some_getLast h0
  have hlen : 0 < s.length := List.length_pos_iff.2 h0
  have hgl : s[s.length - 1]? = some (s.getLast h0) := by rw [← List.getLast?_eq_getElem?]; exact hlast
  have hsl : ∀ b : UInt8, ((b.toNat : Int) == 47) = isSl (some b) := by
    intro b
    unfold isSl
    by_cases hb : b = 47
    · subst hb; rfl
    · have h3 : ¬ b.toNat = 47 := fun e => hb (UInt8.toNat_inj.1 e)
      have h4 : (some b == some (47 : UInt8)) = false := by simpa using hb
      rw [h4]
      simp; omega
  have e1 : ((b0.toNat : Int) == 47) = isSl s.head? := by rw [hsl, hs0]; rfl
  have e2 : (((s.getLast h0).toNat : Int) == 47) = isSl s.getLast? := by rw [hsl, hlast]
  have bsget : ∀ i : Nat, (bs s)[i]? = s[i]? := fun i => by
    show (⟨s.toArray⟩ : ByteArray)[i]? = _
    by_cases hi : i < s.length
    · rw [List.getElem?_eq_getElem hi]
      exact getElem?_pos (⟨s.toArray⟩ : ByteArray) i (by simpa [ByteArray.size] using hi)
    · rw [List.getElem?_eq_none (by omega)]
      exact getElem?_neg (⟨s.toArray⟩ : ByteArray) i (by simpa [ByteArray.size] using hi)
  unfold sindex
  refine ⟨b0, by decide, by rw [bsget, hs0]; rfl, ?_⟩
  refine r_bin (by rfl) ?_
  refine r_strlen ?_
  refine r_bin (by rfl) ?_
  have hw : IntKind.i64.wrap ((s.length : Int) - 1) = ((s.length - 1 : Nat) : Int) := by rw [wrap_id (by omega) (by omega)]; omega
  rw [hw]
  refine ⟨s.getLast h0, by omega, by rw [bsget]; exact hgl, ?_⟩
  refine r_bin (by rfl) ?_
  rw [e1, e2]
  refine r_build (by rfl) ?_
  refine r_new fun b4 => ?_
  refine r_store (knows_pt _ _ _) (by rfl) (by rfl) (by rfl) (by rfl) (change_pt _ _ _ _) ?_
  refine S177_ok ?_
  unfold S177
  refine r_new fun cb => ?_
  have hplen : (parts s).length ≤ s.length := parts_len s
  unfold srangeX
  refine ⟨List Value, fun d σ => ∃ v c g ps, d = ps.map vstr' ∧ ps.any long = false ∧ σ = g ++ (pt b4 (.cells #[.bool (isSl s.head?), .bool (isSl s.getLast?), v] 221) :: c :: pt b3 (.cells #[vi 0] 49) :: pt b2 (.cells #[.bool false, .bool false, .slice none 0 0] 221) :: l) ∧ SlC 1 v d.length d c,
    fun o σ => o = none ∧ (parts s).any long = true ∧ ∃ v c g, σ = g ++ (pt b4 (.cells #[.bool (isSl s.head?), .bool (isSl s.getLast?), v] 221) :: c :: pt b3 (.cells #[vi 45] 49) :: pt b2 (.cells #[.bool false, .bool false, .slice none 0 0] 221) :: l),
    _, _, [], _, pt cb (.cells #[vstr' s] 9) :: [], _, pt b4 (.cells #[.bool (isSl s.head?), .bool (isSl s.getLast?), .slice none 0 0] 221) :: [] :: pt b3 (.cells #[vi 0] 49) :: pt b2 (.cells #[.bool false, .bool false, .slice none 0 0] 221) :: l, ⟨_, _, _, rfl, by kernel_rfl⟩, ?_, parts_iter hb, ⟨_, [], [], [], rfl, rfl, rfl, slC_nil 1⟩, ?_, ?_, ?_, fun _ h => by cases h⟩
  · unfold Split
    simp [pt, Value.cells]
  · rintro d xs σ ⟨u, rest, rfl, hA⟩ ⟨v, c, g, ps, rfl, hps, rfl, hs⟩
    have hmem : u ∈ (parts s).map vstr' := by
      have : u ∈ ps.map vstr' ++ u :: rest := by simp
      have hA' : ps.map vstr' ++ u :: rest = (parts s).map vstr' := hA
      rw [hA'] at this; exact this
    have hlen2 : ps.length + 1 ≤ 2 ^ 41 := by
      have hA' : ps.map vstr' ++ u :: rest = (parts s).map vstr' := hA
      have := congrArg List.length hA'
      simp at this; omega
    obtain ⟨p, hp, rfl⟩ := List.mem_map.1 hmem
    refine ⟨rfl, ?_⟩
    refine r_arg rfl ?_
    refine r_strlen ?_
    refine r_bin (by rfl) ?_
    refine r_guard_d (fun hg => ?_) (fun hg => ?_)
    · refine r_build (by rfl) ?_
      refine r_store (knows_right g (knows_there _ (knows_there _ (knows_there _ (knows_pt _ _ _))))) (by rfl) (by rfl) (by rfl) (by rfl) (change_right g (change_there _ (change_there _ (change_there _ (change_pt _ _ _ _))))) ?_
      refine r_store (knows_right g (knows_there _ (knows_there _ (knows_pt _ _ _)))) (by rfl) (by rfl) (by rfl) (by rfl) (change_right g (change_there _ (change_there _ (change_pt _ _ _ _)))) ?_
      refine ⟨rfl, List.any_eq_true.2 ⟨p, hp, ?_⟩, v, c, g, rfl⟩
      have : (255 : Int) < (p.length : Int) := hg
      simp only [long, decide_eq_true_eq]; omega
    · refine r_fa ?_
      refine r_load1 (x := v) (knows_right g (knows_pt _ _ _)) (by rfl) ?_
      refine r_buildSl (ds := [vstr' p]) rfl (by omega) rfl (fun e => ?_)
      refine r_append (e := 9) (i := Tryz.t9) (z := .string ⟨#[]⟩) (m := 1) (news := [vstr' p]) (by kernel_rfl) (by kernel_rfl) (by kernel_rfl) (by kernel_rfl) rfl hs (r := pt e (.cells #[vstr' p] 9) :: (g ++ (pt b4 (.cells #[.bool (isSl s.head?), .bool (isSl s.getLast?), v] 221) :: pt b3 (.cells #[vi 0] 49) :: pt b2 (.cells #[.bool false, .bool false, .slice none 0 0] 221) :: l))) (by
          unfold Take
          (refine perm_of_ct fun a => ?_; simp only [List.flatten_cons, List.flatten_append, List.flatten_nil, ct_append, ct_cons, ct_nil, pt, vi, ptr, vstr', Value.cells, tCells, nCells, List.append_nil] at *; omega))
        (srcAt_row (e' := 9) (by kernel_rfl) (knows_pt _ _ _) rfl rfl (by simp; rfl)) ?_ (by simp; omega) (fun v' c' hs' => ?_)
      · have : Tryz.t9.bytes = 16 := by kernel_rfl
        rw [this]; simp; omega
      · obtain ⟨hv1, hv2⟩ := slC_one hs'
        refine r_fa ?_
        refine r_store (l' := (pt e (.cells #[vstr' p] 9) :: g) ++ (pt b4 (.cells #[.bool (isSl s.head?), .bool (isSl s.getLast?), v'] 221) :: c' :: pt b3 (.cells #[vi 0] 49) :: pt b2 (.cells #[.bool false, .bool false, .slice none 0 0] 221) :: l)) (knows_there _ (knows_there _ (knows_right g (knows_pt _ _ _)))) (ds := [.bool (isSl s.head?), .bool (isSl s.getLast?), v']) (by rw [hv1]; rfl) (by rw [hv1]; rfl) (by rw [hv1]; simp [hv2]) rfl
          (change_perm (o := .cells #[.bool (isSl s.head?), .bool (isSl s.getLast?), v] 221) (d := (c' :: pt e (.cells #[vstr' p] 9) :: (g ++ (pt b3 (.cells #[vi 0] 49) :: pt b2 (.cells #[.bool false, .bool false, .slice none 0 0] 221) :: l))).flatten) (by (refine perm_of_ct fun a => ?_; simp only [List.flatten_cons, List.flatten_append, List.flatten_nil, ct_append, ct_cons, ct_nil, pt, vi, ptr, vstr', Value.cells, tCells, nCells, List.append_nil] at *; omega)) (by (refine perm_of_ct fun a => ?_; simp only [List.flatten_cons, List.flatten_append, List.flatten_nil, ct_append, ct_cons, ct_nil, pt, vi, ptr, vstr', Value.cells, tCells, nCells, List.append_nil] at *; omega))) ?_
        refine ⟨v', c', _, ps ++ [p], by simp, ?_, rfl, by simpa [Value.cells] using hs'⟩
        have hnl : long p = false := by
          have : ¬ (255 : Int) < (p.length : Int) := hg
          simp only [long, decide_eq_false_iff_not]; omega
        rw [List.any_append, hps]; simp [hnl]
  · rintro d σ hA ⟨v, c, g, ps, rfl, hps, rfl, hs⟩
    have hA : ps.map vstr' = (parts s).map vstr' := hA
    have hpe : ps = parts s := map_vstr_inj hA
    subst hpe
    rw [hps] at hr
    simp only [Bool.false_eq_true, if_false] at hr
    obtain ⟨hv1, hv2⟩ := slC_one hs
    have e9 : ([pt cb (.cells #[vstr' s] 9)] : St) ++ (g ++ (pt b4 (.cells #[.bool (isSl s.head?), .bool (isSl s.getLast?), v] 221) :: c :: pt b3 (.cells #[vi 0] 49) :: pt b2 (.cells #[.bool false, .bool false, .slice none 0 0] 221) :: l)) = (pt cb (.cells #[vstr' s] 9) :: g) ++ (pt b4 (.cells #[.bool (isSl s.head?), .bool (isSl s.getLast?), v] 221) :: c :: pt b3 (.cells #[vi 0] 49) :: pt b2 (.cells #[.bool false, .bool false, .slice none 0 0] 221) :: l) := rfl
    rw [e9]
    refine r_loadn (knows_right _ (knows_pt _ _ _)) (by rfl) ?_
    refine r_store (knows_right _ (knows_there _ (knows_there _ (knows_there _ (knows_pt _ _ _))))) (ds := [.bool (isSl s.head?), .bool (isSl s.getLast?), v]) (by rfl) (by rfl) (by show [Value.bool _, Value.bool _, v].all (·.oneCell') = true; simp only [List.all_cons, List.all_nil, hv2, Bool.and_true]; rfl) (by rfl) (change_right _ (change_there _ (change_there _ (change_there _ (change_pt _ _ _ _))))) ?_
    refine r_store (knows_right _ (knows_there _ (knows_there _ (knows_pt _ _ _)))) (by rfl) (by rfl) (by rfl) (by rfl) (change_right _ (change_there _ (change_there _ (change_pt _ _ _ _)))) ?_
    refine r_loadn (knows_right _ (knows_there _ (knows_there _ (knows_there _ (knows_pt _ _ _))))) (by rfl) ?_
    refine r_load1 (knows_right _ (knows_there _ (knows_there _ (knows_pt _ _ _)))) (by rfl) ?_
    refine ⟨c :: l, ?_, h2 (by rw [hr]) v c (by simpa using hs) (by rw [hr])⟩
    refine (ent_front _ _).trans ((Ent.drop _ _).trans ?_)
    exact ent_mid [c] _ _ |>.trans (ent_mid [c] _ _)
  · rintro σ ⟨-, hany, v, c, g, rfl⟩
    rw [hany] at hr
    simp only [if_true] at hr
    rw [hr] at h1
    refine r_loadn (knows_right _ (knows_right _ (knows_there _ (knows_there _ (knows_there _ (knows_pt _ _ _)))))) (by rfl) ?_
    refine r_load1 (knows_right _ (knows_right _ (knows_there _ (knows_there _ (knows_pt _ _ _))))) (by rfl) ?_
    exact ⟨l, (ent_front _ _).trans ((ent_front _ _).trans (by exact drp)), h1 (by decide)⟩
end
end Go.Sl
namespace Go.Sl
variable [Ghost]
open Go Go.Mo Go.Proofs
attribute [local irreducible] snil sfa sext sfield sguard sun sbin slen sload sstore snew snewObj sbuildR sbuildSlR smakeMapR smakeSlR slookup smapset srangeMap snext sentry scall scallv sextern sbuiltin sidx sindex sslice sconv srangeX sarg sand sjoin0 sjoin1 sjoin2 sloop0 sloop1 sloop2
def SlS (l : St) (v : Value) (xs : List Value) : Prop := (xs = [] ∧ ∃ p cap, v = .slice p 0 cap) ∨
  ∃ b o cap cs ty fz, v = .slice (some ⟨b, o, none⟩) xs.length cap ∧ xs.length ≤ cap ∧ 0 < xs.length ∧ Knows l b (.cells cs ty fz) ∧ takeAt cs.toList o xs.length = some xs ∧ ∀ u ∈ xs, u.oneCell' = true
theorem SlS.at {l : St} {v : Value} {xs : List Value} (h : SlS l v xs) : SlAt l 1 v xs.length xs := by
  rcases h with ⟨rfl, p, cap, rfl⟩ | ⟨b, o, cap, cs, ty, fz, h1, h2, h0, h3, h4, -⟩
  · exact ⟨rfl, ⟨_, _, rfl⟩, .inl rfl⟩
  · exact ⟨by simp, ⟨_, _, h1⟩, .inr ⟨b, o, cap, cs, ty, fz, h1, h3, by simpa using h4⟩⟩
theorem SlS.mono {l l' : St} {v : Value} {xs : List Value} (h : SlS l v xs) (hl : ∀ b o, Knows l b o → Knows l' b o) : SlS l' v xs := by
  rcases h with h | ⟨b, o, cap, cs, ty, fz, h1, h2, h0, h3, h4⟩
  · exact .inl h
  · exact .inr ⟨b, o, cap, cs, ty, fz, h1, h2, h0, hl _ _ h3, h4⟩
theorem SlS.there {l : St} {v : Value} {xs : List Value} (d : Chunk) (h : SlS l v xs) : SlS (d :: l) v xs := h.mono fun _ _ => knows_there d
theorem SlC.sls {l : St} {v : Value} {n : Nat} {xs : List Value} {c : Chunk} (h : SlC 1 v n xs c) (hin : ∀ b o, (b, o) ∈ c → Knows l b o) : SlS l v xs := by
  obtain ⟨h1, hone, ⟨rfl, rfl, -⟩ | ⟨b, cap, zs, ty, rfl, hc, rfl, hl⟩⟩ := h
  · exact .inl ⟨List.length_eq_zero_iff.1 (by simpa using h1), _, _, rfl⟩
  · have h1' : xs.length = n := by simpa using h1
    by_cases h0 : n = 0
    · subst h0
      exact .inl ⟨List.length_eq_zero_iff.1 h1', _, _, rfl⟩
    · exact .inr ⟨b, 0, cap, _, ty, _, by rw [h1'], by omega, by omega, hin b (.cells (xs ++ zs).toArray ty) (by simp), by simpa using takeAt_append xs zs, hone⟩
section
variable {l r : St} {v x : Value} {xs : List Value} {k : Value → SP}
theorem r_sslen (h : SlS l v xs) (hk : k (vi xs.length) l) : slen .slice v k l := r_slen h.at hk
theorem r_ssget {i : Nat} (h : SlS l v xs) (hx : xs[i]? = some x) (hk : k x l) : sidx none 1 v (vi (i : Int)) (fun p => sload none p k) l := r_elem1 h.at hx hk
theorem sls_tail {o cap : Nat} {b : Nat} (h : SlS l (.slice (some ⟨b, o, none⟩) (xs.length + 1) cap) (x :: xs)) : SlS l (.slice (if cap = 1 then some ⟨b, o, none⟩ else some ⟨b, o + 1, none⟩) xs.length (cap - 1)) xs := by
  rcases h with ⟨h, -⟩ | ⟨b', o', cap', cs, ty, fz, e, h2, h0, h3, h4, h5⟩
  · cases h
  · simp only [List.length_cons] at h2 h4 e
    injection e with e1 e2 e3
    injection e1 with e1
    injection e1 with e4 e5
    subst e3; subst e4; subst e5
    by_cases hc : xs = []
    · subst hc
      exact .inl ⟨rfl, _, _, rfl⟩
    · have hpos : 0 < xs.length := List.length_pos_iff.2 hc
      refine .inr ⟨b, o + 1, cap - 1, cs, ty, fz, ?_, by omega, hpos, h3, ?_, fun u hu => h5 u (.tail _ hu)⟩
      · rw [if_neg (by omega)]
      · exact takeAt_take h4 1 xs.length (by omega) xs (by simp)
theorem r_tail (h : SlS l v (x :: xs)) (hk : ∀ v', (∀ l', SlS l' v (x :: xs) → SlS l' v' xs) → k v' l) : sslice (some 1) v (some (.int .i64 1)) none none k l := by
  rcases h with ⟨h, -⟩ | ⟨b, o, cap, cs, ty, fz, rfl, h2, h0, h3, h4, h5⟩
  · cases h
  · unfold sslice
    simp only [List.length_cons] at h2 h4 ⊢
    refine ⟨1, xs.length + 1, cap, rfl, rfl, rfl, by omega, by omega, by omega, (fun h => by cases h), hk _ fun l' hl' => ?_⟩
    have := sls_tail hl'
    have e : (if cap = 1 then (some ⟨b, o, none⟩ : Option Addr) else (some ⟨b, o, none⟩ : Option Addr).map (·.add (1 * 1))) = if cap = 1 then some ⟨b, o, none⟩ else some ⟨b, o + 1, none⟩ := by
      split
      · rfl
      · simp only [Option.map_some, Nat.one_mul, add_off]
    rw [e, Nat.add_sub_cancel]; exact this
theorem SlS.src {P : Program} {tx e' : TypeId} (ht : P.underlying tx = some (.slice e')) (h : SlS l v xs) : SrcAt P l 1 tx v xs.length xs := by
  rcases h with ⟨rfl, p, cap, rfl⟩ | ⟨b, o, cap, cs, ty, fz, rfl, h2, h0, h3, h4, h5⟩
  · intro F w _
    cases p with
    | none => exact Src.ofNil w ht cap
    | some a => exact Src.ofSlice w ht a 0 cap [] rfl (fun j u hj => by cases hj) (fun u hu => by cases hu)
  · exact srcAt_row ht h3 (by simp) (by simpa using h4) h5
theorem r_cap {P : Program} {t e ty : TypeId} {cs : Array Bool} {p : Option Addr} {n c : Nat} (hu : P.underlying t = some (.slice e)) (h : k (vi c) l) : sbuiltin P .cap #[t] ty cs #[.slice p n c] k l := by
  unfold sbuiltin
  show SUpon P (nv (Builtin.cap_ #[t] ty #[.slice p n c])) k l
  refine SUpon.one (fun F w hs => ?_) h
  unfold Builtin.cap_
  simp [run_underlying hu, goInt]
theorem r_appendZ {P : Program} {t tn e ty : TypeId} {i : TypeInfo} {z : Value} {n : Nat} {cs : Array Bool} (ht : P.underlying t = some (.slice e)) (htn : P.underlying tn = some (.int .i64)) (hi : P.info? e = some i) (hz : i.zero = some z) (hsz : i.size = 1) (hzs : z.cells = #[z]) (hzo : z.oneCell' = true)
    (h0 : 0 < n) (hb : n * i.bytes ≤ 140737488355328) (hn : n ≤ 2 ^ 60)
    (h : ∀ (b cap : Nat) (zs : List Value), n ≤ cap → zs.length = cap → k (.slice (some ⟨b, 0, none⟩) n cap) ([(b, .cells zs.toArray e)] :: l)) : sbuiltin P .append #[t, tn] ty cs #[.slice none 0 0, vi n] k l := by
  unfold sbuiltin
  show SUpon P (nv (Builtin.append_ #[t, tn] ty #[.slice none 0 0, vi n])) k l
  refine SUpon.val fun F w hw => ?_
  have h2 := Lib.run_append_grow_zeros (P := P) w t tn ty e i z .i64 .i64 ht htn hi hz none 0 0 [] (run_firstCells_none w.drew i.size 0 0 0) n h0 (by omega) (by omega) (by omega) (by omega) (growslice_fits (by omega) (by simpa using hb))
  rw [h2]
  have hge := grownCap_ge w (0 + n) 0 e
  refine ⟨_, _, [(w.heap.size, .cells ((Builtin.zeroCells z.cells n ++ Builtin.zeroCells z.cells (grownCap w (0 + n) 0 e - (0 + n))).toList).toArray e)] :: l, rfl, ?_, ?_⟩
  · have hd : Sat (l ++ F) w.drew := sat_heap hw rfl
    have h3 := sat_alloc hd (.cells (#[] ++ Builtin.zeroCells z.cells n ++ Builtin.zeroCells z.cells (grownCap w (0 + n) 0 e - (0 + n))) e)
    rw [Array.toArray_toList]
    have e0 : (([] : List Value).toArray ++ Builtin.zeroCells z.cells n) = Builtin.zeroCells z.cells n := by simp
    rw [e0]
    have e1 : ((#[] : Array Value) ++ Builtin.zeroCells z.cells n) = Builtin.zeroCells z.cells n := by simp
    rw [e1] at h3
    exact h3
  · have := h w.heap.size (grownCap w (0 + n) 0 e) (Builtin.zeroCells z.cells n ++ Builtin.zeroCells z.cells (grownCap w (0 + n) 0 e - (0 + n))).toList (by omega) (by
      unfold Builtin.zeroCells
      rw [hzs]
      simp only [Array.toList_append, Array.toList_map, List.length_append, List.length_map, Array.length_toList, Array.size_range, List.size_toArray, List.length_cons, List.length_nil]
      omega)
    simpa using this
end
theorem scall_below {P : Program} {f : FuncId} {args : Array Value} {v : Value} {k : Value → SP} {l : St} (h : ∀ F w, Sat (l ++ F) w → Calls P f args w fun e w' => e = .returned v ∧ Go.RowKit.Below w.heap.size w w') (hk : k v l) : scall P f args k l := by
  unfold scall
  intro F w hs
  refine Calls.mono (h F w hs) fun e w' ⟨he, hb⟩ => ⟨v, he, l, ⟨⟨hs.1.1, fun b o hbo => ?_⟩, hb.os.trans hs.2.1, hb.output.trans hs.2.2⟩, hk⟩
  have h1 := hs.1.2 b o hbo
  rw [hb.block b (Array.getElem?_eq_some_iff.1 h1).1]; exact h1
theorem join_eq : ∀ ps : List Str, Lib.join ps [47] = joinS ps
  | [] => rfl
  | [p] => Lib.join_one p [47]
  | p :: q :: r => by
    have ih := join_eq (q :: r)
    rw [Lib.join_cons] at ih ⊢
    simp only [joinS, Lib.joinTail, List.map_cons, List.flatten_cons] at ih ⊢
    rw [← ih]; simp [Lib.joinTail]
section
variable {l : St} {v : Value} {ps : List Str} {R : Value → SP} {p : Path}
theorem join_ok (h : SlS l v (ps.map vstr')) (h1 : ps.length ≤ 2 ^ 40) (h2 : (joinS ps).length ≤ 2 ^ 40) (hR : R (vstr' (joinS ps)) l) : scall Tryz.prog 265 #[v, vstr' [47]] R l := by
  rcases h with ⟨hnil, pp, cap, rfl⟩ | ⟨b, o, cap, cs, ty, fz, rfl, hc, h0, h3, h4, h5⟩
  · have : ps = [] := by simpa using hnil
    subst this
    exact scall_pure (fun w => Tryz.strings_Join_none pp cap (bs [47]) w) hR
  · refine scall_below (fun F w hs => ?_) hR
    have hk := h3.frame F
    have hmap : (ps.map bs).map (fun x => x.data.toList) = ps := by
      rw [List.map_map]
      conv => rhs; rw [← List.map_id ps]
      exact List.map_congr_left fun s _ => bs_toList s
    have e1 : Lib.join ((ps.map bs).map (·.data.toList)) (bs [47]).data.toList = joinS ps := by
      rw [hmap, bs_toList, join_eq]
    have hl : (ps.map vstr').length = (ps.map bs).length := by simp
    have := Tryz.strings_Join b o cap (ps.map bs) (bs [47]) w (fun j x hx => by
        have hx' : (ps.map vstr')[j]? = some (Value.string x) := by
          rw [List.getElem?_map] at hx ⊢
          cases hp : ps[j]? with
          | none => rw [hp] at hx; cases hx
          | some q => rw [hp] at hx; cases hx; rfl
        have hj : j < (ps.map vstr').length := (List.getElem?_eq_some_iff.1 hx').1
        rw [cell_of_knows h3 hs, ← Array.getElem?_toList, ← cellAt_eq, cellAt_take h4 j hj, hx'])
      (Array.getElem?_eq_some_iff.1 (hk.heap hs)).1 (by simp; omega) (by rw [← hl]; exact hc) (by rw [e1]; omega)
    rw [e1, ← hl] at this
    exact this
theorem bs_append (a b : Str) : bs a ++ bs b = bs (a ++ b) := by
  apply ByteArray.ext
  rw [ByteArray.data_append]
  simp [bs]
theorem r_addstr {P : Program} {ek : EqK} {t : TypeId} {a b : Str} {k : Value → SP} {l : St} (hb : (a ++ b).length ≤ 2 ^ 50) (h : k (vstr' (a ++ b)) l) : sbin P ek t .add (vstr' a) (vstr' b) k l := by
  refine r_bin (v := vstr' (a ++ b)) ?_ h
  show (if (((bs a).size + (bs b).size : Nat) : Int) > IntKind.i64.max then none else some (Value.string (bs a ++ bs b))) = _
  rw [bs_size, bs_size, bs_append, if_neg]
  have : IntKind.i64.max = 9223372036854775807 := by decide
  rw [this]
  simp only [List.length_append] at hb
  omega
theorem write_ok (h : SlS l v (p.parts.map vstr')) (h1 : p.parts.length ≤ 2 ^ 40) (h2 : (joinS p.parts).length ≤ 2 ^ 40) (hR : R (vstr' (writeP p)) l) : scall Tryz.prog 224 #[.agg #[.bool p.root, .bool p.slash, v]] R l := by
  refine scall_post (S224_ok ?_)
  unfold S224
  refine r_new fun b1 => ?_
  have hc : Value.cells (.agg #[.bool p.root, .bool p.slash, v]) = #[.bool p.root, .bool p.slash, v] := rfl
  rw [hc]
  refine r_fa ?_
  refine r_load1 (x := v) (knows_pt _ _ _) (by rfl) ?_
  refine join_ok (h.there _) h1 h2 ?_
  refine r_join1 ?_
  refine r_fa ?_
  refine r_load1 (x := .bool p.root) (knows_pt _ _ _) (by rfl) ?_
  have tail : ∀ pre : Str, pre.length ≤ 2 ^ 41 → (pre ++ (if p.slash && p.parts.length != 0 then [47] else []) = writeP p) → sjoin1 (fun v3_1 => (fun v l' => ∃ l2, Ent l' l2 ∧ R v l2) v3_1) (fun J2 =>
    sjoin1 (fun v18 =>
      sguard v18 (
        sbin Tryz.prog .none 9 .add (vstr' pre) (.string ⟨#[47]⟩) fun v20 =>
    J2 [v20]) (
    J2 [vstr' pre])) fun J3 =>
    sfa 1 (ptr b1 0) fun v11 =>
    sload none v11 fun v12 =>
    sguard v12 (
    sfa 2 (ptr b1 0) fun v14 =>
    sload none v14 fun v15 =>
    slen .slice v15 fun v16 =>
    sbin Tryz.prog .none 3 .gtr v16 (.int .i64 0) fun v17 =>
    J3 [v17]) (
    J3 [.bool false])) (pt b1 (.cells #[.bool p.root, .bool p.slash, v] 221) :: l) := by
    intro pre hpre he
    refine r_join1 ?_
    refine r_join1 ?_
    refine r_fa ?_
    refine r_load1 (x := .bool p.slash) (knows_pt _ _ _) (by rfl) ?_
    cases hsl : p.slash with
    | false =>
      rw [hsl] at he
      refine r_guard_f ?_
      refine r_guard_f ?_
      refine ⟨l, Ent.drop _ _, ?_⟩
      rw [← he] at hR; simpa using hR
    | true =>
      rw [hsl] at he
      refine r_guard_t ?_
      refine r_fa ?_
      refine r_load1 (x := v) (knows_pt _ _ _) (by rfl) ?_
      refine r_sslen (h.there _) ?_
      refine r_bin (by rfl) ?_
      refine r_guard_d (fun hg => ?_) (fun hg => ?_)
      · have hg : 0 < p.parts.length := by simpa using hg
        refine r_addstr (b := [47]) (by simp; omega) ?_
        refine ⟨l, Ent.drop _ _, ?_⟩
        have : (p.parts.length != 0) = true := bne_iff_ne.2 (by omega)
        rw [this] at he
        rw [← he] at hR; simpa using hR
      · have hg : p.parts = [] := by
          have : ¬ 0 < p.parts.length := by simpa using hg
          exact List.length_eq_zero_iff.1 (by omega)
        refine ⟨l, Ent.drop _ _, ?_⟩
        rw [hg] at he
        rw [← he] at hR; simpa using hR
  cases hro : p.root with
  | false =>
    rw [hro] at tail
    refine r_guard_f ?_
    exact tail (joinS p.parts) (by omega) (by simp [writeP, hro])
  | true =>
    rw [hro] at tail
    refine r_guard_t ?_
    refine r_addstr (a := [47]) (by simp; omega) ?_
    exact tail (47 :: joinS p.parts) (by simp; omega) (by simp [writeP, hro])
end
end Go.Sl
namespace Go.Sl
variable [Ghost]
open Go Go.Mo Go.Proofs
attribute [local irreducible] snil sfa sext sfield sguard sun sbin slen sload sstore snew snewObj sbuildR sbuildSlR smakeMapR smakeSlR slookup smapset srangeMap snext sentry scall scallv sextern sbuiltin sidx sindex sslice sconv srangeX sarg sand sjoin0 sjoin1 sjoin2 sloop0 sloop1 sloop2
section
variable {l r : St} {v : Value} {R : Value → SP} {n : Nat}
theorem grow_ok (hn : n ≤ 2 ^ 40) (h : ∀ v c, SlC 1 v 0 [] c → R v (c :: l)) : scall Tryz.prog 266 #[.slice none 0 0, vi n] R l := by
  refine scall_post (S266_ok ?_)
  unfold S266
  refine r_bin (by rfl) ?_
  refine r_guard_d (fun hg => absurd hg (by omega)) (fun hg => ?_)
  refine r_join1 ?_
  refine r_cap (e := 9) (by kernel_rfl) ?_
  refine r_len_slice ?_
  refine r_bin (by rfl) ?_
  have hw0 : IntKind.i64.wrap (((0 : Nat) : Int) - ((0 : Nat) : Int)) = 0 := by decide
  refine (?_ : sbin _ _ _ _ _ (vi (IntKind.i64.wrap (((0 : Nat) : Int) - ((0 : Nat) : Int)))) _ _)
  rw [hw0]
  refine r_bin (by rfl) ?_
  have hw1 : IntKind.i64.wrap ((n : Int) - 0) = (n : Int) := by rw [wrap_id (by omega) (by omega)]; omega
  rw [hw1]
  refine r_bin (by rfl) ?_
  refine r_guard_d (fun hg2 => ?_) (fun hg2 => ?_)
  · refine r_cap (e := 9) (by kernel_rfl) ?_
    unfold sslice
    refine ⟨0, 0, 0, rfl, rfl, rfl, Nat.le_refl _, Nat.le_refl _, Nat.le_refl _, (fun h => by cases h), ?_⟩
    have hb : Tryz.t9.bytes = 16 := by kernel_rfl
    refine r_appendZ (e := 9) (i := Tryz.t9) (z := .string ⟨#[]⟩) (by kernel_rfl) (by kernel_rfl) (by kernel_rfl) (by kernel_rfl) (by kernel_rfl) rfl rfl (by omega) (by rw [hb]; omega) (by omega) (fun b cap zs hc hz => ?_)
    refine r_len_slice ?_
    refine ⟨0, 0, cap, rfl, rfl, rfl, Nat.le_refl _, Nat.zero_le _, Nat.le_refl _, (fun h => by cases h), ?_⟩
    have ha : (if cap = 0 then (some ⟨b, 0, none⟩ : Option Addr) else (some ⟨b, 0, none⟩ : Option Addr).map (·.add (0 * 1))) = some ⟨b, 0, none⟩ := by
      split
      · rfl
      · simp only [Option.map_some, add_off]
    rw [ha]
    refine ⟨_, .refl _, h _ _ ⟨rfl, by simp, .inr ⟨b, cap, zs, 9, rfl, Nat.zero_le _, rfl, by simpa using hz⟩⟩⟩
  · exact ⟨[] :: l, Ent.of_perm (by simp), h _ [] (slC_nil 1)⟩
def catL (L : List (Value × List Value)) : List Value := (L.map (·.2)).flatten
theorem catL_take {L : List (Value × List Value)} {i : Nat} {q : Value × List Value} (h : L[i]? = some q) : catL (L.take (i + 1)) = catL (L.take i) ++ q.2 := by
  unfold catL
  rw [List.take_add_one, h]; simp
theorem catL_le (L : List (Value × List Value)) (i : Nat) : (catL (L.take i)).length ≤ (catL L).length := by
  have : catL L = catL (L.take i) ++ catL (L.drop i) := by
    unfold catL
    rw [← List.flatten_append, ← List.map_append, List.take_append_drop]
  rw [this]; simp
theorem concat_ok {L : List (Value × List Value)} (hv : SlS l v (L.map (·.1))) (hL : ∀ q ∈ L, SlS l q.1 q.2) (hb : (catL L).length ≤ 2 ^ 30) (hn : L.length ≤ 2 ^ 30)
    (h : ∀ v c, SlC 1 v (catL L).length (catL L) c → R v (c :: l)) : scall Tryz.prog 225 #[v] R l := by
  refine scall_post (S225_ok ?_)
  unfold S225
  refine r_sslen hv ?_
  refine r_loop2 (fun k u w σ => ∃ i : Nat, σ = l ∧ w = vi i ∧ i ≤ L.length ∧ k = L.length - i ∧ u = vi ((catL (L.take i)).length : Nat)) L.length ⟨0, rfl, rfl, Nat.zero_le _, rfl, rfl⟩ ?_
  rintro k u w σ ⟨i, hσ, rfl, hi, rfl, rfl⟩
  have hσ' := hσ.symm
  subst hσ'
  refine r_bin (by rfl) ?_
  rw [List.length_map]
  refine r_guard_d (fun hg => ?_) (fun hg => ?_)
  · have hlt : i < L.length := by omega
    obtain ⟨q, hq⟩ : ∃ q, L[i]? = some q := ⟨_, List.getElem?_eq_getElem hlt⟩
    have hqm := hL q (List.mem_of_getElem? hq)
    have hct := catL_take hq
    have hle := catL_le L (i + 1)
    rw [hct, List.length_append] at hle
    refine r_ssget hv (x := q.1) (by simp [hq]) ?_
    refine r_sslen hqm ?_
    refine r_bin (by rfl) ?_
    have hw : IntKind.i64.wrap (((catL (L.take i)).length : Int) + (q.2.length : Int)) = (((catL (L.take (i + 1))).length : Nat) : Int) := by rw [wrap_id (by omega) (by omega), hct, List.length_append]; omega
    rw [hw]
    refine r_bin (by rfl) ?_
    refine r_guard_d (fun hg => absurd hg (by omega)) (fun _ => ?_)
    refine r_bin (by rfl) ?_
    have hw2 : IntKind.i64.wrap ((i : Int) + 1) = ((i + 1 : Nat) : Int) := by rw [wrap_id (by omega) (by omega)]; simp
    rw [hw2]
    exact ⟨L.length - (i + 1), by omega, i + 1, rfl, rfl, by omega, rfl, rfl⟩
  · have hiL : i = L.length := by omega
    subst hiL
    rw [List.take_length]
    refine grow_ok (by omega) (fun v6 c0 hc0 => ?_)
    refine r_sslen (hv.there _) ?_
    refine r_loop2 (fun k u w σ => ∃ (i : Nat) (c : Chunk), σ = c :: l ∧ w = vi i ∧ i ≤ L.length ∧ k = L.length - i ∧ SlC 1 u (catL (L.take i)).length (catL (L.take i)) c) L.length ⟨0, c0, rfl, rfl, Nat.zero_le _, rfl, hc0⟩ ?_
    rintro k u w σ ⟨i, c, rfl, rfl, hi, rfl, hc⟩
    refine r_bin (by rfl) ?_
    rw [List.length_map]
    refine r_guard_d (fun hg => ?_) (fun hg => ?_)
    · have hlt : i < L.length := by omega
      obtain ⟨q, hq⟩ : ∃ q, L[i]? = some q := ⟨_, List.getElem?_eq_getElem hlt⟩
      have hqm := hL q (List.mem_of_getElem? hq)
      have hct := catL_take hq
      have hle := catL_le L (i + 1)
      rw [hct, List.length_append] at hle
      refine r_ssget (hv.there _) (x := q.1) (by simp [hq]) ?_
      have hby : Tryz.t9.bytes = 16 := by kernel_rfl
      refine r_append (e := 9) (i := Tryz.t9) (z := .string ⟨#[]⟩) (m := q.2.length) (news := q.2) (by kernel_rfl) (by kernel_rfl) (by kernel_rfl) (by kernel_rfl) rfl hc (take_here _ _)
        ((hqm.there _).src (e' := 9) (by kernel_rfl)) (by rw [hby]; omega) (by omega) (fun v' c' hs' => ?_)
      refine r_bin (by rfl) ?_
      have hw2 : IntKind.i64.wrap ((i : Int) + 1) = ((i + 1 : Nat) : Int) := by rw [wrap_id (by omega) (by omega)]; simp
      rw [hw2]
      refine ⟨L.length - (i + 1), by omega, i + 1, c', rfl, rfl, by omega, rfl, ?_⟩
      rw [hct, List.length_append]; exact hs'
    · have hiL : i = L.length := by omega
      subst hiL
      rw [List.take_length] at hc
      exact ⟨_, .refl _, h _ _ hc⟩
end
end Go.Sl
namespace Go.Mo
structure NCall where
  op : Int := 0
  path : Str := []
  to : Str := []
  fd : Int := 0
  flags : Int := 0
  mode : Int := 0
  n : Int := 0
  m : Int := 0
  data : Str := []
  deriving DecidableEq, Inhabited
structure Who where
  cwd : Plc := {}
  cred : Cred := {}
  deriving DecidableEq, Inhabited
structure NWorld where
  T : Tree
  M : Tab
  root : Plc
structure NRes where
  why : Int := 0
  n : Int := 0
  data : Str := []
  names : List Str := []
  stat : Stt := {}
  deriving DecidableEq, Inhabited
def NWorld.walk (w : NWorld) (who : Who) (path : Str) (follow : Bool) : Fnd × Int := walkM w.T w.M w.root who.cwd who.cred path follow
def NWorld.isDir (w : NWorld) (p : Plc) : Bool := (w.T.st p.node).kind = 1
def NWorld.may (w : NWorld) (who : Who) (n want : Int) : Bool := Mo.may who.cred (w.T.st n) want
def NWorld.busy (w : NWorld) (f : Fnd) : Bool := f.pl.mount ≠ f.dir.mount || w.M.covered f.pl.node
def NWorld.sticky (w : NWorld) (who : Who) (f : Fnd) : Bool := Mo.sticky who.cred (w.T.st f.dir.node) (w.T.st f.pl.node)
def NWorld.made (who : Who) (kind mode : Int) : Stt := { kind := kind, mode := mode, uid := who.cred.uid, gid := who.cred.gid }
def fresh (f : Fnd) (slash : Bool) : Int := if f.has || f.last == [] then 35 else if !slash && f.slash then 32 else 0
def isOp (op : Int) : Bool := (1 ≤ op && op ≤ 2) || (8 ≤ op && op ≤ 20)
structure NOut where
  T : Tree
  M : Tab
  why : Int := 0
  r : NRes := {}
  pl : Plc := {}
def NWorld.no (w : NWorld) (e : Int) : NOut := { T := w.T, M := w.M, why := e }
def NWorld.tree (w : NWorld) (p : Tree × Int) : NOut := { T := p.1, M := w.M, why := p.2 }
def NWorld.mkdir (w : NWorld) (who : Who) (c : NCall) : NOut := match w.walk who c.path false with
  | (f, e) => if e ≠ 0 then w.no e
    else if fresh f true ≠ 0 then w.no (fresh f true)
    else if !w.may who f.dir.node 2 then w.no 34
    else let r := w.T.make f.dir.node f.last (NWorld.made who 1 (c.mode % 1024)) []; w.tree (r.1, r.2.2)
def NWorld.remove (w : NWorld) (who : Who) (c : NCall) (dir : Bool) : NOut := match w.walk who c.path false with
  | (f, e) => if e ≠ 0 then w.no e
    else if !f.has then w.no 32
    else if f.last = [] then w.no 39
    else if w.isDir f.pl ≠ dir then w.no (if dir then 37 else 38)
    else if w.busy f then w.no 48
    else if !w.may who f.dir.node 2 then w.no 34
    else if w.sticky who f then w.no 31
    else w.tree (w.T.part f.dir.node f.last)
def NWorld.link (w : NWorld) (who : Who) (c : NCall) : NOut := match w.walk who c.path false with
  | (f, e) => if e ≠ 0 then w.no e
    else if !f.has then w.no 32
    else if w.isDir f.pl then w.no 31
    else match w.walk who c.to false with
    | (g, e) => if e ≠ 0 then w.no e
      else if fresh g false ≠ 0 then w.no (fresh g false)
      else if g.dir.mount ≠ f.pl.mount then w.no 36
      else if !w.may who g.dir.node 2 then w.no 34
      else w.tree (w.T.join g.dir.node g.last f.pl.node)
def NWorld.symlink (w : NWorld) (who : Who) (c : NCall) : NOut :=
  if c.path = [] then w.no 32
  else if 4096 < c.path.length then w.no 45
  else if c.path.contains 0 then w.no 39
  else match w.walk who c.to false with
  | (g, e) => if e ≠ 0 then w.no e
    else if fresh g false ≠ 0 then w.no (fresh g false)
    else if !w.may who g.dir.node 2 then w.no 34
    else let r := w.T.make g.dir.node g.last (NWorld.made who 3 511) c.path; w.tree (r.1, r.2.2)
def NWorld.over (w : NWorld) (who : Who) (f g : Fnd) : Int :=
  if !f.has then 32
  else if f.last = [] ∨ g.last = [] then 48
  else if g.slash && !g.has && !w.isDir f.pl then 37
  else if f.dir.mount ≠ g.dir.mount then 36
  else if w.busy f then 48
  else if g.has && w.busy g then 48
  else if !w.may who f.dir.node 2 then 34
  else if !w.may who g.dir.node 2 then 34
  else if w.sticky who f then 31
  else if g.has && w.sticky who g then 31
  else if w.isDir f.pl && f.dir.node != g.dir.node && !w.may who f.pl.node 2 then 34
  else 0
def NWorld.rename (w : NWorld) (who : Who) (c : NCall) : NOut := match w.walk who c.path false with
  | (f, e) => if e ≠ 0 then w.no e
    else match w.walk who c.to false with
    | (g, e) => if e ≠ 0 then w.no e
      else if w.over who f g ≠ 0 then w.no (w.over who f g)
      else w.tree (w.T.move f.dir.node f.last g.dir.node g.last)
def NWorld.there (w : NWorld) (who : Who) (path : Str) (follow : Bool) : Fnd × Int := match w.walk who path follow with
  | (f, e) => (f, if e ≠ 0 then e else if !f.has then 32 else 0)
def noFollow (flags : Int) : Bool := (flags / 64) % 2 = 1
def NWorld.asks (w : NWorld) (who : Who) (c : NCall) : NOut := match w.there who c.path (c.op != 12 && !(c.op == 14 && noFollow c.flags)) with
  | (f, e) => if e ≠ 0 then w.no e else
    let s := w.T.st f.pl.node
    if c.op = 12 then (if s.kind ≠ 3 then w.no 49 else { w.no 0 with r := { data := w.T.text f.pl.node } })
    else if c.op = 14 then { w.no 0 with r := { stat := s } }
    else if c.op = 15 then (if !owns who.cred s then w.no 31 else w.tree (w.T.setMode f.pl.node (masked c.mode)))
    else if c.op = 16 then (if c.n < -1 ∨ c.m < -1 then w.no 39 else if who.cred.uid ≠ 0 then w.no 31 else w.tree (w.T.setOwner f.pl.node (if 0 ≤ c.n then c.n else s.uid) (if 0 ≤ c.m then c.m else s.gid)))
    else if c.op = 8 then (if s.kind = 1 then w.no 38 else if c.n < 0 then w.no 39 else if !w.may who f.pl.node 2 then w.no 34 else w.tree (w.T.cut f.pl.node c.n))
    else if s.kind ≠ 1 then w.no 37
    else if c.op = 18 then (if !w.may who f.pl.node 4 then w.no 34 else { w.no 0 with r := { names := w.T.names f.pl.node } })
    else if !w.may who f.pl.node 1 then w.no 34 else { w.no 0 with pl := f.pl }
def NWorld.bind (w : NWorld) (who : Who) (c : NCall) : NOut :=
  if who.cred.uid ≠ 0 then w.no 31
  else match w.there who c.path true with
  | (f, e) => if e ≠ 0 then w.no e
    else if !w.isDir f.pl then w.no 37
    else match w.there who c.to true with
    | (g, e) => if e ≠ 0 then w.no e
      else if !w.isDir g.pl then w.no 37
      else match w.M.bind g.pl f.pl.node with
      | (M, _, e) => if e ≠ 0 then w.no 43 else { T := ((w.T.hold g.pl.node).1.hold f.pl.node).1, M := M }
def NWorld.unbind (w : NWorld) (who : Who) (c : NCall) : NOut :=
  if who.cred.uid ≠ 0 then w.no 31
  else match w.there who c.path true with
  | (f, e) => if e ≠ 0 then w.no e
    else if f.pl.mount = 0 ∨ (w.M.root f.pl.mount).1 ≠ f.pl.node then w.no 39
    else if w.M.above f.pl.mount ≠ [] then w.no 48
    else { T := ((w.T.loose (w.M.up f.pl).1.node).1.loose (w.M.root f.pl.mount).1).1, M := (w.M.unbind f.pl.mount).1 }
def NWorld.call (w : NWorld) (who : Who) (c : NCall) : NOut :=
  if c.op = 1 then w.mkdir who c
  else if c.op = 2 then w.remove who c true
  else if c.op = 10 then w.remove who c false
  else if c.op = 9 then w.link who c
  else if c.op = 11 then w.symlink who c
  else if c.op = 13 then w.rename who c
  else if c.op = 19 then w.bind who c
  else if c.op = 20 then w.unbind who c
  else w.asks who c
end Go.Mo
namespace Go.Sl
variable [Ghost]
open Go Go.Mo Go.Proofs
attribute [local irreducible] snil sfa sext sfield sguard sun sbin slen sload sstore snew snewObj sbuildR sbuildSlR smakeMapR smakeSlR slookup smapset srangeMap snext sentry scall scallv sextern sbuiltin sidx sindex sslice sconv srangeX sarg sand sjoin0 sjoin1 sjoin2 sloop0 sloop1 sloop2
theorem TreeAt.mono {l l' : St} {t : Nat} {T : Tree} {β : Int → Nat} (h : TreeAt l t T β) (hl : ∀ b o, Knows l b o → Knows l' b o) : TreeAt l' t T β := let ⟨c, h1, h2⟩ := h; ⟨c, fun b o hb => hl b o (h1 b o hb), h2⟩
theorem TabAt.mono {l l' : St} {b : Nat} {t : Tab} (h : TabAt l b t) (hl : ∀ b o, Knows l b o → Knows l' b o) : TabAt l' b t := let ⟨c, h1, h2⟩ := h; ⟨c, fun b o hb => hl b o (h1 b o hb), h2⟩
structure Cx (l : St) (t m : Nat) (T : Tree) (M : Tab) (β : Int → Nat) : Prop where
  tree : TreeAt l t T β
  tab : TabAt l m M
  small : Small T
  msz : M.l.length ≤ 2 ^ 30
  ok : TabOk M
  texts : ∀ n x, T.at n = some x → x.text.length ≤ 2 ^ 30
theorem Cx.mono {l l' : St} {t m : Nat} {T : Tree} {M : Tab} {β : Int → Nat} (h : Cx l t m T M β) (hl : ∀ b o, Knows l b o → Knows l' b o) : Cx l' t m T M β :=
  ⟨h.tree.mono hl, h.tab.mono hl, h.small, h.msz, h.ok, h.texts⟩
theorem Cx.there {l : St} {t m : Nat} {T : Tree} {M : Tab} {β : Int → Nat} (h : Cx l t m T M β) (d : Chunk) : Cx (d :: l) t m T M β := h.mono fun _ _ => knows_there d
theorem Cx.right {l : St} {t m : Nat} {T : Tree} {M : Tab} {β : Int → Nat} (h : Cx l t m T M β) (g : St) : Cx (g ++ l) t m T M β := h.mono fun _ _ => knows_right g
theorem Cx.text {l : St} {t m : Nat} {T : Tree} {M : Tab} {β : Int → Nat} (h : Cx l t m T M β) (n : Int) : (T.text n).length ≤ 2 ^ 30 := by
  unfold Tree.text
  cases hx : T.at n with
  | none => simp
  | some x => exact h.texts n x hx
abbrev wC (t m : Nat) (E : WEnv) (w : Wk) (lv : Value) (n : Int) : Array Value :=
  #[ptr t 0, ptr m 0, vi E.c.uid, vi E.c.gid, vi E.root.mount, vi E.root.node, .bool E.follow, vi w.pl.mount, vi w.pl.node, lv, .bool w.slash, vi w.links, vi n,
    vi w.f.dir.mount, vi w.f.dir.node, vstr' w.f.last, vi w.f.pl.mount, vi w.f.pl.node, .bool w.f.has, .bool w.f.slash]
abbrev fV (f : Fnd) : Value := .agg #[vi f.dir.mount, vi f.dir.node, vstr' f.last, vi f.pl.mount, vi f.pl.node, .bool f.has, .bool f.slash]
def endUp (T : Tree) (M : Tab) : Plc × Bool → Plc
  | (q, true) => q
  | (q, false) => M.down { mount := q.mount, node := T.up q.node }
theorem wup_eq {T : Tree} {M : Tab} {r p : Plc} (h : ¬ p = r) : wup T M r p = endUp T M (upGo M r (M.l.length + 1) p) := by
  unfold wup; rw [if_neg h]
  cases upGo M r (M.l.length + 1) p with
  | mk q b => cases b <;> rfl
theorem TabOk.up {M : Tab} (ok : TabOk M) {p q : Plc} (h : M.up p = (q, true)) : 0 < p.mount ∧ 0 ≤ q.mount ∧ q.mount < p.mount ∧ p.mount < M.l.length := by
  unfold Tab.up at h
  cases hg : M.get p.mount with
  | none => rw [hg] at h; cases h
  | some x =>
    rw [hg] at h
    simp only at h
    split at h
    · cases h
    · rename_i hc
      cases h
      have := tab_get_bound hg
      have h0 : 0 < p.mount := by
        rcases Int.lt_or_eq_of_le this.1 with h | h
        · exact h
        · exact absurd (.inl h.symm) hc
      have := ok.below p.mount x hg h0
      omega
section
variable {l : St} {t m wb : Nat} {T : Tree} {M : Tab} {β : Int → Nat} {E : WEnv} {w : Wk} {lv : Value} {n : Int} {ty : TypeId} {p : Plc} {R : Value → SP}
theorem place_ok (hC : Cx l t m T M β) (h : R (.bool (isPlace T M p)) l) : scall Tryz.prog 129 #[ptr t 0, ptr m 0, plV p] R l := by
  refine scall_post (S129_ok ?_)
  unfold S129
  (repeat' (first | refine z0 ?_ | refine z1 ?_ | refine z2 ?_ | refine z3 ?_ | refine z4 ?_ | refine z5 ?_ | refine z6 ?_ | refine z7 (fun hg => ?_) (fun hg => ?_) | refine z8 (fun hg => ?_) (fun hg => ?_) | refine z9 ?_ | refine za ?_ | refine zb ?_ | refine zc ?_ | refine zd ?_ | refine ze ?_ | refine zf ?_ | refine zg ?_ | refine zh ?_ | refine zi (fun _ => ?_) | refine zj (fun _ => ?_) | refine zk ?_ | refine zl ?_ ?_ | refine zm ?_ | refine zn ?_ | refine zo ?_ | exact (rfl : _ = _)))
  refine tstat_ok (hC.tree.there _) hC.small ?_
  (repeat' (first | refine z0 ?_ | refine z1 ?_ | refine z2 ?_ | refine z3 ?_ | refine z4 ?_ | refine z5 ?_ | refine z6 ?_ | refine z7 (fun hg => ?_) (fun hg => ?_) | refine z8 (fun hg => ?_) (fun hg => ?_) | refine z9 ?_ | refine za ?_ | refine zb ?_ | refine zc ?_ | refine zd ?_ | refine ze ?_ | refine zf ?_ | refine zg ?_ | refine zh ?_ | refine zi (fun _ => ?_) | refine zj (fun _ => ?_) | refine zk ?_ | refine zl ?_ ?_ | refine zm ?_ | refine zn ?_ | refine zo ?_ | exact (rfl : _ = _)))
  refine mroot_ok ((hC.tab.there _).there _) ?_
  cases hs : (T.stat p.node).isSome with
  | true =>
    (repeat' (first | refine z0 ?_ | refine z1 ?_ | refine z2 ?_ | refine z3 ?_ | refine z4 ?_ | refine z5 ?_ | refine z6 ?_ | refine z7 (fun hg => ?_) (fun hg => ?_) | refine z8 (fun hg => ?_) (fun hg => ?_) | refine z9 ?_ | refine za ?_ | refine zb ?_ | refine zc ?_ | refine zd ?_ | refine ze ?_ | refine zf ?_ | refine zg ?_ | refine zh ?_ | refine zi (fun _ => ?_) | refine zj (fun _ => ?_) | refine zk ?_ | refine zl ?_ ?_ | refine zm ?_ | refine zn ?_ | refine zo ?_ | exact (rfl : _ = _)))
    refine ⟨l, by exact drp, ?_⟩
    have : isPlace T M p = (M.root p.mount).2 := by simp [isPlace, hs]
    rw [this] at h; exact h
  | false =>
    (repeat' (first | refine z0 ?_ | refine z1 ?_ | refine z2 ?_ | refine z3 ?_ | refine z4 ?_ | refine z5 ?_ | refine z6 ?_ | refine z7 (fun hg => ?_) (fun hg => ?_) | refine z8 (fun hg => ?_) (fun hg => ?_) | refine z9 ?_ | refine za ?_ | refine zb ?_ | refine zc ?_ | refine zd ?_ | refine ze ?_ | refine zf ?_ | refine zg ?_ | refine zh ?_ | refine zi (fun _ => ?_) | refine zj (fun _ => ?_) | refine zk ?_ | refine zl ?_ ?_ | refine zm ?_ | refine zn ?_ | refine zo ?_ | exact (rfl : _ = _)))
    refine ⟨l, by exact drp, ?_⟩
    have : isPlace T M p = false := by simp [isPlace, hs]
    rw [this] at h; exact h
theorem here_ok (h : ∀ v, R v (pt wb (.cells (wC t m E { w with f := hereF w.pl } lv n) ty) :: l)) : scall Tryz.prog 132 #[ptr wb 0] R (pt wb (.cells (wC t m E w lv n) ty) :: l) := by
  refine S132_ok ?_
  unfold S132
  (repeat' (first | refine z0 ?_ | refine z1 ?_ | refine z2 ?_ | refine z3 ?_ | refine z4 ?_ | refine z5 ?_ | refine z6 ?_ | refine z7 (fun hg => ?_) (fun hg => ?_) | refine z8 (fun hg => ?_) (fun hg => ?_) | refine z9 ?_ | refine za ?_ | refine zb ?_ | refine zc ?_ | refine zd ?_ | refine ze ?_ | refine zf ?_ | refine zg ?_ | refine zh ?_ | refine zi (fun _ => ?_) | refine zj (fun _ => ?_) | refine zk ?_ | refine zl ?_ ?_ | refine zm ?_ | refine zn ?_ | refine zo ?_ | exact (rfl : _ = _)))
  exact h _
theorem wup_ok (hC : Cx l t m T M β) (hE : E.M = M) (h : ∀ v, R v (pt wb (.cells (wC t m E { w with pl := wup T M E.root w.pl } lv n) ty) :: l)) : scall Tryz.prog 179 #[ptr wb 0] R (pt wb (.cells (wC t m E w lv n) ty) :: l) := by
  refine scall_post (S179_ok ?_)
  unfold S179
  (repeat' (first | refine z0 ?_ | refine z1 ?_ | refine z2 ?_ | refine z3 ?_ | refine z4 ?_ | refine z5 ?_ | refine z6 ?_ | refine z7 (fun hg => ?_) (fun hg => ?_) | refine z8 (fun hg => ?_) (fun hg => ?_) | refine z9 ?_ | refine za ?_ | refine zb ?_ | refine zc ?_ | refine zd ?_ | refine ze ?_ | refine zf ?_ | refine zg ?_ | refine zh ?_ | refine zi (fun _ => ?_) | refine zj (fun _ => ?_) | refine zk ?_ | refine zl ?_ ?_ | refine zm ?_ | refine zn ?_ | refine zo ?_ | exact (rfl : _ = _)))
  refine r_placeEq (p := w.pl) (q := E.root) ?_
  refine r_guard (fun hg => ?_) (fun hg => ?_)
  · have hg : w.pl = E.root := by simpa using hg
    have : wup T M E.root w.pl = w.pl := by unfold wup; rw [if_pos hg]
    rw [this] at h
    exact ⟨_, .refl _, h _⟩
  have hg : ¬ w.pl = E.root := by simpa using hg
  (repeat' (first | refine z0 ?_ | refine z1 ?_ | refine z2 ?_ | refine z3 ?_ | refine z4 ?_ | refine z5 ?_ | refine z6 ?_ | refine z7 (fun hg => ?_) (fun hg => ?_) | refine z8 (fun hg => ?_) (fun hg => ?_) | refine z9 ?_ | refine za ?_ | refine zb ?_ | refine zc ?_ | refine zd ?_ | refine ze ?_ | refine zf ?_ | refine zg ?_ | refine zh ?_ | refine zi (fun _ => ?_) | refine zj (fun _ => ?_) | refine zk ?_ | refine zl ?_ ?_ | refine zm ?_ | refine zn ?_ | refine zo ?_ | exact (rfl : _ = _)))
  refine mup_ok (hC.tab.there _) ?_
  (repeat' (first | refine z0 ?_ | refine z1 ?_ | refine z2 ?_ | refine z3 ?_ | refine z4 ?_ | refine z5 ?_ | refine z6 ?_ | refine z7 (fun hg => ?_) (fun hg => ?_) | refine z8 (fun hg => ?_) (fun hg => ?_) | refine z9 ?_ | refine za ?_ | refine zb ?_ | refine zc ?_ | refine zd ?_ | refine ze ?_ | refine zf ?_ | refine zg ?_ | refine zh ?_ | refine zi (fun _ => ?_) | refine zj (fun _ => ?_) | refine zk ?_ | refine zl ?_ ?_ | refine zm ?_ | refine zn ?_ | refine zo ?_ | exact (rfl : _ = _)))
  rename_i b2
  obtain ⟨W, hW⟩ : ∃ W, upGo M E.root (M.l.length + 1) w.pl = W := ⟨_, rfl⟩
  have hwup : wup T M E.root w.pl = endUp T M W := by rw [wup_eq hg, hW]
  refine r_loop2 (fun k u v σ => ∃ b2 g p q o, u = ptr b2 0 ∧ v = .bool o ∧ σ = pt b2 (.cells #[vi q.mount, vi q.node] 27) :: (g ++ (pt wb (.cells (wC t m E { w with pl := p } lv n) ty) :: l)) ∧ M.up p = (q, o) ∧ upGo M E.root k p = W ∧ 1 ≤ k ∧ (o = true → p.mount < (k : Int)))
    (M.l.length + 1) ⟨b2, [], w.pl, (M.up w.pl).1, (M.up w.pl).2, rfl, rfl, rfl, rfl, hW, by omega, fun ho => by have := hC.ok.up (p := w.pl) (q := (M.up w.pl).1) (by rw [← ho]); omega⟩ ?_
  rintro k u v σ ⟨b2, g, p, q, o, rfl, rfl, rfl, hup, hgo, hk1, hk2⟩
  obtain ⟨k, rfl⟩ : ∃ j, k = j + 1 := ⟨k - 1, by omega⟩
  simp only [upGo, hup] at hgo
  cases o with
  | true =>
    have hb := hC.ok.up hup
    have hk2 := hk2 rfl
    simp only at hgo
    refine r_guard_t ?_
    refine r_loadn (knows_pt _ _ _) (by rfl) ?_
    refine r_nil ?_
    refine r_fa ?_
    refine r_store (l' := pt b2 (.cells #[vi q.mount, vi q.node] 27) :: (g ++ (pt wb (.cells (wC t m E { w with pl := q } lv n) ty) :: l))) (knows_there _ (knows_right g (knows_pt _ _ _))) (by rfl) (by rfl) (by rfl) (by rfl) (change_there _ (change_right g (change_pt _ _ _ _))) ?_
    have hk3 : Knows (pt b2 (.cells #[vi q.mount, vi q.node] 27) :: (g ++ (pt wb (.cells (wC t m E { w with pl := q } lv n) ty) :: l))) wb (.cells (wC t m E { w with pl := q } lv n) ty) := knows_there _ (knows_right g (knows_pt _ _ _))
    have hC2 : Cx (pt b2 (.cells #[vi q.mount, vi q.node] 27) :: (g ++ (pt wb (.cells (wC t m E { w with pl := q } lv n) ty) :: l))) t m T M β := ((hC.there _).right g).there _
    (repeat' (first | refine z0 ?_ | refine z1 ?_ | refine z2 ?_ | refine z3 ?_ | refine z4 ?_ | refine z5 ?_ | refine z6 ?_ | refine z7 (fun hg => ?_) (fun hg => ?_) | refine z8 (fun hg => ?_) (fun hg => ?_) | refine z9 ?_ | refine za ?_ | refine zb ?_ | refine zc ?_ | refine zd ?_ | refine ze ?_ | refine zf ?_ | refine zg ?_ | refine zh ?_ | refine zi (fun _ => ?_) | refine zj (fun _ => ?_) | refine zk ?_ | refine zl ?_ ?_ | refine zm ?_ | refine zn ?_ | refine zo ?_ | exact (rfl : _ = _)))
    refine mdown_ok hC2.tab hC2.msz hC2.ok ?_
    (repeat' (first | refine z0 ?_ | refine z1 ?_ | refine z2 ?_ | refine z3 ?_ | refine z4 ?_ | refine z5 ?_ | refine z6 ?_ | refine z7 (fun hg => ?_) (fun hg => ?_) | refine z8 (fun hg => ?_) (fun hg => ?_) | refine z9 ?_ | refine za ?_ | refine zb ?_ | refine zc ?_ | refine zd ?_ | refine ze ?_ | refine zf ?_ | refine zg ?_ | refine zh ?_ | refine zi (fun _ => ?_) | refine zj (fun _ => ?_) | refine zk ?_ | refine zl ?_ ?_ | refine zm ?_ | refine zn ?_ | refine zo ?_ | exact (rfl : _ = _)))
    refine r_placeEq (p := M.down q) (q := E.root) ?_
    refine r_guard (fun hg2 => ?_) (fun hg2 => ?_)
    · have hg2 : M.down q = E.root := by simpa using hg2
      rw [if_pos hg2] at hgo
      subst hgo
      simp only [endUp] at hwup
      rw [hwup] at h
      refine r_nil ?_
      refine r_fa ?_
      refine r_loadn hk3 (by rfl) ?_
      refine r_nil ?_
      refine r_fa ?_
      refine r_store (l' := pt b2 (.cells #[vi q.mount, vi q.node] 27) :: (g ++ (pt wb (.cells (wC t m E { w with pl := E.root } lv n) ty) :: l))) hk3 (by rfl) (by rfl) (by rfl) (by rfl) (change_there _ (change_right g (change_pt _ _ _ _))) ?_
      exact ⟨_, (Ent.drop _ _).trans (ent_front g _), h _⟩
    · have hg2 : ¬ M.down q = E.root := by simpa using hg2
      rw [if_neg hg2] at hgo
      refine r_loadn (knows_pt _ _ _) (by rfl) ?_
      refine r_new fun b3 => ?_
      refine r_store (knows_pt _ _ _) (by rfl) (by rfl) (by rfl) (by rfl) (change_pt _ _ _ _) ?_
      refine r_nil ?_
      refine r_fa ?_
      refine r_load1 (knows_there _ hk3) (by rfl) ?_
      refine r_loadn (knows_pt _ _ _) (by rfl) ?_
      refine mup_ok (p := q) ((hC2.tab).there _) ?_
      refine r_ext (by rfl) ?_
      refine r_ext (by rfl) ?_
      refine r_store (knows_pt _ _ _) (by rfl) (by rfl) (by rfl) (by rfl) (change_pt _ _ _ _) ?_
      refine ⟨k, by omega, b3, pt b2 _ :: g, q, (M.up q).1, (M.up q).2, rfl, rfl, rfl, rfl, hgo, by omega, fun ho => ?_⟩
      omega
  | false =>
    simp only at hgo
    subst hgo
    simp only [endUp] at hwup
    rw [hwup] at h
    refine r_guard_f ?_
    have hk3 : Knows (pt b2 (.cells #[vi q.mount, vi q.node] 27) :: (g ++ (pt wb (.cells (wC t m E { w with pl := p } lv n) ty) :: l))) wb (.cells (wC t m E { w with pl := p } lv n) ty) := knows_there _ (knows_right g (knows_pt _ _ _))
    have hC2 : Cx (pt b2 (.cells #[vi q.mount, vi q.node] 27) :: (g ++ (pt wb (.cells (wC t m E { w with pl := p } lv n) ty) :: l))) t m T M β := ((hC.there _).right g).there _
    (repeat' (first | refine z0 ?_ | refine z1 ?_ | refine z2 ?_ | refine z3 ?_ | refine z4 ?_ | refine z5 ?_ | refine z6 ?_ | refine z7 (fun hg => ?_) (fun hg => ?_) | refine z8 (fun hg => ?_) (fun hg => ?_) | refine z9 ?_ | refine za ?_ | refine zb ?_ | refine zc ?_ | refine zd ?_ | refine ze ?_ | refine zf ?_ | refine zg ?_ | refine zh ?_ | refine zi (fun _ => ?_) | refine zj (fun _ => ?_) | refine zk ?_ | refine zl ?_ ?_ | refine zm ?_ | refine zn ?_ | refine zo ?_ | exact (rfl : _ = _)))
    refine tup_ok hC2.tree ?_
    (repeat' (first | refine z0 ?_ | refine z1 ?_ | refine z2 ?_ | refine z3 ?_ | refine z4 ?_ | refine z5 ?_ | refine z6 ?_ | refine z7 (fun hg => ?_) (fun hg => ?_) | refine z8 (fun hg => ?_) (fun hg => ?_) | refine z9 ?_ | refine za ?_ | refine zb ?_ | refine zc ?_ | refine zd ?_ | refine ze ?_ | refine zf ?_ | refine zg ?_ | refine zh ?_ | refine zi (fun _ => ?_) | refine zj (fun _ => ?_) | refine zk ?_ | refine zl ?_ ?_ | refine zm ?_ | refine zn ?_ | refine zo ?_ | exact (rfl : _ = _)))
    refine mdown_ok (p := { mount := p.mount, node := T.up p.node }) hC2.tab hC2.msz hC2.ok ?_
    (repeat' (first | refine z0 ?_ | refine z1 ?_ | refine z2 ?_ | refine z3 ?_ | refine z4 ?_ | refine z5 ?_ | refine z6 ?_ | refine z7 (fun hg => ?_) (fun hg => ?_) | refine z8 (fun hg => ?_) (fun hg => ?_) | refine z9 ?_ | refine za ?_ | refine zb ?_ | refine zc ?_ | refine zd ?_ | refine ze ?_ | refine zf ?_ | refine zg ?_ | refine zh ?_ | refine zi (fun _ => ?_) | refine zj (fun _ => ?_) | refine zk ?_ | refine zl ?_ ?_ | refine zm ?_ | refine zn ?_ | refine zo ?_ | exact (rfl : _ = _)))
    refine r_store (l' := pt b2 (.cells #[vi q.mount, vi q.node] 27) :: (g ++ (pt wb (.cells (wC t m E { w with pl := M.down { mount := p.mount, node := T.up p.node } } lv n) ty) :: l))) hk3 (by rfl) (by rfl) (by rfl) (by rfl) (change_there _ (change_right g (change_pt _ _ _ _))) ?_
    exact ⟨_, (Ent.drop _ _).trans (ent_front g _), h _⟩
end
end Go.Sl
namespace Go.Sl
variable [Ghost]
open Go Go.Mo Go.Proofs
attribute [local irreducible] snil sfa sext sfield sguard sun sbin slen sload sstore snew snewObj sbuildR sbuildSlR smakeMapR smakeSlR slookup smapset srangeMap snext sentry scall scallv sextern sbuiltin sidx sindex sslice sconv srangeX sarg sand sjoin0 sjoin1 sjoin2 sloop0 sloop1 sloop2
theorem SlS.form {l : St} {v : Value} {xs : List Value} (h : SlS l v xs) : ∃ p n c, v = .slice p n c := by
  rcases h with ⟨rfl, p, cap, rfl⟩ | ⟨b, o, cap, cs, ty, fz, rfl, h2⟩ <;> exact ⟨_, _, _, rfl⟩
theorem SlC.form {sz n : Nat} {v : Value} {xs : List Value} {c : Chunk} (h : SlC sz v n xs c) : ∃ p m c, v = .slice p m c := by
  obtain ⟨-, -, ⟨rfl, -⟩ | ⟨b', cap, zs, ty', rfl, -⟩⟩ := h <;> exact ⟨_, _, _, rfl⟩
theorem SlC.here {v : Value} {n : Nat} {xs : List Value} {c : Chunk} (h : SlC 1 v n xs c) (l : St) : SlS (c :: l) v xs := h.sls fun b o hbo => knows_in hbo l
section
variable {l : St} {t m wb : Nat} {T : Tree} {M : Tab} {β : Int → Nat} {E : WEnv} {w : Wk} {lv : Value} {n : Int} {ty : TypeId} {dir : Plc} {text : Str} {R : Value → SP}
theorem wsymlink_ok (hls : SlS l lv (w.left.map vstr')) (hlen : w.left.length ≤ 2 ^ 20) (hjoin : (joinS w.left).length ≤ 2 ^ 40) (htext : text.length ≤ 2 ^ 30) (hlk : 0 ≤ w.links ∧ w.links ≤ 2 ^ 30)
    (h1 : ∀ e, linkW E { w with pl := dir } w.left text = .error e → e ≠ 0 → ∀ w' lv', R (vi e) (pt wb (.cells (wC t m E w' lv' n) ty) :: l))
    (h2 : ∀ w', linkW E { w with pl := dir } w.left text = .ok w' → ∀ c lv', (∀ l', SlS (c :: l') lv' (w'.left.map vstr')) → R (vi 0) (pt wb (.cells (wC t m E w' lv' n) ty) :: c :: l)) :
    scall Tryz.prog 180 #[ptr wb 0, plV dir, vstr' text] R (pt wb (.cells (wC t m E w lv n) ty) :: l) := by
  obtain ⟨lsp, lsn, lsc, rfl⟩ := hls.form
  refine scall_post (S180_ok ?_)
  unfold S180
  refine r_new fun b4 => ?_
  refine r_nil ?_
  refine r_fa ?_
  refine r_load1 (knows_there _ (knows_pt _ _ _)) (by rfl) ?_
  refine r_bin (by rfl) ?_
  refine r_guard_d (fun hg => ?_) (fun hg => ?_)
  · have h40 : 40 ≤ w.links := hg
    exact ⟨_, Ent.drop _ _, h1 46 (by unfold linkW; rw [if_pos h40]) (by decide) w _⟩
  have h40 : ¬ 40 ≤ w.links := hg
  refine r_nil ?_
  refine r_fa ?_
  refine r_load1 (knows_there _ (knows_pt _ _ _)) (by rfl) ?_
  refine r_bin (by rfl) ?_
  have hw : IntKind.i64.wrap (w.links + 1) = w.links + 1 := wrap_id (by omega) (by omega)
  rw [hw]
  refine r_nil ?_
  refine r_fa ?_
  refine r_store (l' := pt b4 (.cells (plV dir).cells 27) :: pt wb (.cells (wC t m E { w with links := w.links + 1 } (.slice lsp lsn lsc) n) ty) :: l) (knows_there _ (knows_pt _ _ _)) (by rfl) (by rfl) (by rfl) (by rfl) (change_there _ (change_pt _ _ _ _)) ?_
  refine r_streq (b := []) ?_
  by_cases ht0 : text = []
  · have : decide (text = []) = true := by simpa using ht0
    rw [this]
    refine r_guard_t ?_
    exact ⟨_, Ent.drop _ _, h1 32 (by unfold linkW; rw [if_neg h40, if_pos ht0]) (by decide) _ _⟩
  have : decide (text = []) = false := by simpa using ht0
  rw [this]
  refine r_guard_f ?_
  refine r_strlen ?_
  refine r_nil ?_
  refine r_fa ?_
  refine r_load1 (knows_there _ (knows_pt _ _ _)) (by rfl) ?_
  refine r_nil ?_
  refine r_fa ?_
  refine r_load1 (knows_there _ (knows_pt _ _ _)) (by rfl) ?_
  refine r_build (by rfl) ?_
  refine write_ok (p := { parts := w.left, slash := w.slash }) ((hls.there _).there _) (by simp only; omega) hjoin ?_
  refine r_strlen ?_
  refine r_bin (by rfl) ?_
  have hwl : (writeP { parts := w.left, slash := w.slash }).length ≤ 2 ^ 41 := by
    unfold writeP
    simp only [Bool.false_eq_true, if_false, List.nil_append, List.length_append]
    split <;> simp <;> omega
  have hw2 : IntKind.i64.wrap ((text.length : Int) + ((writeP { parts := w.left, slash := w.slash }).length : Int)) = (text.length : Int) + ((writeP { parts := w.left, slash := w.slash }).length : Int) := wrap_id (by omega) (by omega)
  rw [hw2]
  refine r_bin (by rfl) ?_
  refine r_guard_d (fun hg => ?_) (fun hg => ?_)
  · have hg : (4096 : Int) < text.length + (writeP { parts := w.left, slash := w.slash }).length := hg
    exact ⟨_, Ent.drop _ _, h1 45 (by unfold linkW; rw [if_neg h40, if_neg ht0, if_pos hg]) (by decide) _ _⟩
  have h45 : ¬ (4096 : Int) < text.length + (writeP { parts := w.left, slash := w.slash }).length := hg
  have hlw : linkW E { w with pl := dir } w.left text = if (readP text).2 ≠ 0 then .error (readP text).2 else
      .ok { pl := if (readP text).1.root then E.root else dir, left := (readP text).1.parts ++ w.left, slash := if w.left.length = 0 then w.slash || (readP text).1.slash else w.slash, links := w.links + 1, f := hereF (if (readP text).1.root then E.root else dir) } := by
    unfold linkW; rw [if_neg h40, if_neg ht0, if_neg h45]
  refine read_ok (by omega) (fun he => ?_) (fun he v c hs hp => ?_)
  · rw [if_pos he] at hlw
    refine r_ext (by rfl) ?_
    refine r_ext (by rfl) ?_
    refine r_new fun b7 => ?_
    refine r_store (knows_pt _ _ _) (by rfl) (by rfl) (by rfl) (by rfl) (change_pt _ _ _ _) ?_
    refine r_bin (by rfl) ?_
    have hne : ((readP text).2 != 0) = true := bne_iff_ne.2 he
    rw [hne]
    refine r_guard_t ?_
    exact ⟨_, (Ent.drop _ _).trans (Ent.drop _ _), h1 _ hlw he _ _⟩
  rw [if_neg (fun h => h he)] at hlw
  rw [hp] at hlw
  simp only at hlw
  obtain ⟨vp, vn, vc, rfl⟩ := hs.form
  refine r_ext (by rfl) ?_
  refine r_ext (by rfl) ?_
  refine r_new fun b7 => ?_
  refine r_store (knows_pt _ _ _) (by rfl) (by rfl) (by rfl) (by rfl) (change_pt _ _ _ _) ?_
  refine r_bin (by rfl) ?_
  refine r_guard_f ?_
  refine r_loadn (knows_there _ (knows_there _ (knows_pt _ _ _))) (by rfl) ?_
  refine r_nil ?_
  refine r_fa ?_
  refine r_store (knows_there _ (knows_there _ (knows_there _ (knows_pt _ _ _)))) (by rfl) (by rfl) (by rfl) (by rfl) (change_there _ (change_there _ (change_there _ (change_pt _ _ _ _)))) ?_
  unfold sjoin0
  refine ⟨fun _ σ => σ = pt b7 (.cells #[.bool (isSl text.head?), .bool (isSl text.getLast?), .slice vp vn vc] 221) :: c :: pt b4 (.cells #[vi dir.mount, vi dir.node] 27) :: pt wb (.cells (wC t m E { w with links := w.links + 1, pl := if isSl text.head? then E.root else dir } (.slice lsp lsn lsc) n) ty) :: l, ?_, ?_⟩
  · rintro σ rfl
    refine ⟨fun _ σ => σ = pt b7 (.cells #[.bool (isSl text.head?), .bool (isSl text.getLast?), .slice vp vn vc] 221) :: c :: pt b4 (.cells #[vi dir.mount, vi dir.node] 27) :: pt wb (.cells (wC t m E { w with links := w.links + 1, pl := if isSl text.head? then E.root else dir, slash := if w.left.length = 0 then w.slash || isSl text.getLast? else w.slash } (.slice lsp lsn lsc) n) ty) :: l, ?_, ?_⟩
    · rintro σ rfl
      refine r_fa ?_
      refine r_load1 (knows_pt _ _ _) (by rfl) ?_
      refine r_nil ?_
      refine r_fa ?_
      refine r_load1 (knows_there _ (knows_there _ (knows_there _ (knows_pt _ _ _)))) (by rfl) ?_
      refine r_buildSl (ds := [.slice vp vn vc, .slice lsp lsn lsc]) rfl (by omega) rfl (fun e => ?_)
      have hplen := parts_len text
      refine concat_ok (L := [(.slice vp vn vc, (parts text).map vstr'), (.slice lsp lsn lsc, w.left.map vstr')])
        (.inr ⟨e, 0, _, #[.slice vp vn vc, .slice lsp lsn lsc], _, _, rfl, by simp, by simp, knows_pt _ _ _, rfl, by simp; exact ⟨rfl, rfl⟩⟩)
        (fun q hq => ?_) ?_ (by simp) (fun v' c' hs' => ?_)
      · simp only [List.mem_cons, List.not_mem_nil, or_false] at hq
        rcases hq with rfl | rfl
        · exact ((hs.here _).there _).there _
        · exact ((((hls.there _).there _).there _).there _).there _
      · simp only [catL, List.map_cons, List.map_nil, List.flatten_cons, List.flatten_nil, List.append_nil, List.length_append, List.length_map]
        omega
      · obtain ⟨v'p, v'n, v'c, rfl⟩ := hs'.form
        refine r_nil ?_
        refine r_fa ?_
        refine r_store (l' := c' :: pt e (.cells #[.slice vp vn vc, .slice lsp lsn lsc] 59) :: pt b7 (.cells #[.bool (isSl text.head?), .bool (isSl text.getLast?), .slice vp vn vc] 221) :: c :: pt b4 (.cells #[vi dir.mount, vi dir.node] 27) :: pt wb (.cells (wC t m E { w with links := w.links + 1, pl := if isSl text.head? then E.root else dir, slash := if w.left.length = 0 then w.slash || isSl text.getLast? else w.slash } (.slice v'p v'n v'c) n) ty) :: l) (knows_there _ (knows_there _ (knows_there _ (knows_there _ (knows_there _ (knows_pt _ _ _)))))) (by rfl) (by rfl) (by rfl) (by rfl) (change_there _ (change_there _ (change_there _ (change_there _ (change_there _ (change_pt _ _ _ _)))))) ?_
        refine scall_perm (l' := pt wb (.cells (wC t m E { w with links := w.links + 1, pl := if isSl text.head? then E.root else dir, slash := if w.left.length = 0 then w.slash || isSl text.getLast? else w.slash } (.slice v'p v'n v'c) n) ty) :: pt e (.cells #[.slice vp vn vc, .slice lsp lsn lsc] 59) :: pt b7 (.cells #[.bool (isSl text.head?), .bool (isSl text.getLast?), .slice vp vn vc] 221) :: c :: pt b4 (.cells #[vi dir.mount, vi dir.node] 27) :: c' :: l) (by (refine perm_of_ct fun a => ?_; simp only [List.flatten_cons, List.flatten_append, List.flatten_nil, ct_append, ct_cons, ct_nil, pt, vi, ptr, vstr', Value.cells, tCells, nCells, List.append_nil] at *; omega)) ?_
        refine here_ok (fun _ => ?_)
        refine ⟨pt wb _ :: c' :: l, ?_, h2 _ hlw c' (.slice v'p v'n v'c) ?_⟩
        · refine Ent.trans (l' := pt e (.cells #[.slice vp vn vc, .slice lsp lsn lsc] 59) :: pt b7 (.cells #[.bool (isSl text.head?), .bool (isSl text.getLast?), .slice vp vn vc] 221) :: c :: pt b4 (.cells #[vi dir.mount, vi dir.node] 27) :: pt wb (.cells (wC t m E { w with links := w.links + 1, pl := if isSl text.head? then E.root else dir, slash := if w.left.length = 0 then w.slash || isSl text.getLast? else w.slash, f := hereF (if isSl text.head? then E.root else dir) } (.slice v'p v'n v'c) n) ty) :: c' :: l) (Ent.of_perm (by (refine perm_of_ct fun a => ?_; simp only [List.flatten_cons, List.flatten_append, List.flatten_nil, ct_append, ct_cons, ct_nil, pt, vi, ptr, vstr', Value.cells, tCells, nCells, List.append_nil] at *; omega))) ?_
          exact (Ent.drop _ _).trans ((Ent.drop _ _).trans ((Ent.drop _ _).trans (Ent.drop _ _)))
        · intro l'
          have := hs'.here l'
          simpa [catL] using this
    · refine r_nil ?_
      refine r_fa ?_
      refine r_load1 (knows_there _ (knows_there _ (knows_there _ (knows_pt _ _ _)))) (by rfl) ?_
      refine r_sslen ((((hls.there _).there _).there _).there _) ?_
      refine r_bin (by rfl) ?_
      rw [List.length_map]
      refine r_guard_d (fun hg => ?_) (fun hg => ?_)
      · have hg : w.left.length = 0 := by omega
        refine r_nil ?_
        refine r_fa ?_
        refine r_load1 (knows_there _ (knows_there _ (knows_there _ (knows_pt _ _ _)))) (by rfl) ?_
        cases hsl : w.slash with
        | true =>
          refine r_guard_t ?_
          refine r_nil ?_
          refine r_fa ?_
          refine r_store (knows_there _ (knows_there _ (knows_there _ (knows_pt _ _ _)))) (by rfl) (by rfl) (by rfl) (by rfl) (change_there _ (change_there _ (change_there _ (change_pt _ _ _ _)))) ?_
          simp only [hg, if_true, Bool.true_or]
        | false =>
          refine r_guard_f ?_
          refine r_fa ?_
          refine r_load1 (knows_pt _ _ _) (by rfl) ?_
          refine r_nil ?_
          refine r_fa ?_
          refine r_store (knows_there _ (knows_there _ (knows_there _ (knows_pt _ _ _)))) (by rfl) (by rfl) (by rfl) (by rfl) (change_there _ (change_there _ (change_there _ (change_pt _ _ _ _)))) ?_
          simp only [hg, if_true, Bool.false_or]
      · have hg : ¬ w.left.length = 0 := by omega
        simp only [hg, if_false]
  · refine r_fa ?_
    refine r_load1 (knows_pt _ _ _) (by rfl) ?_
    cases hro : isSl text.head? with
    | true =>
      refine r_guard_t ?_
      refine r_nil ?_
      refine r_fa ?_
      refine r_loadn (knows_there _ (knows_there _ (knows_there _ (knows_pt _ _ _)))) (by rfl) ?_
      refine r_nil ?_
      refine r_fa ?_
      refine r_store (knows_there _ (knows_there _ (knows_there _ (knows_pt _ _ _)))) (by rfl) (by rfl) (by rfl) (by rfl) (change_there _ (change_there _ (change_there _ (change_pt _ _ _ _)))) ?_
      rfl
    | false =>
      refine r_guard_f ?_
      rfl
end
end Go.Sl
namespace Go.Sl
variable [Ghost]
open Go Go.Mo Go.Proofs
attribute [local irreducible] snil sfa sext sfield sguard sun sbin slen sload sstore snew snewObj sbuildR sbuildSlR smakeMapR smakeSlR slookup smapset srangeMap snext sentry scall scallv sextern sbuiltin sidx sindex sslice sconv srangeX sarg sand sjoin0 sjoin1 sjoin2 sloop0 sloop1 sloop2
def jlen : List Str → Nat
  | [] => 0
  | p :: r => p.length + 1 + jlen r
theorem joinS_jlen : ∀ ps : List Str, (joinS ps).length ≤ jlen ps ∧ jlen ps ≤ (joinS ps).length + 1
  | [] => by simp [joinS, jlen]
  | [p] => by simp [joinS, jlen]
  | p :: q :: r => by
    have := joinS_jlen (q :: r)
    simp only [joinS, jlen, List.length_append, List.length_cons] at *
    omega
theorem jlen_app : ∀ a b : List Str, jlen (a ++ b) = jlen a + jlen b
  | [], b => by simp [jlen]
  | p :: a, b => by simp only [List.cons_append, jlen, jlen_app a b]; omega
theorem jlen_len : ∀ a : List Str, a.length ≤ jlen a
  | [] => Nat.le_refl _
  | p :: a => by have := jlen_len a; simp only [List.length_cons, jlen]; omega
theorem jlen_split : ∀ s : Str, jlen (splitC s) = s.length + 1
  | [] => rfl
  | b :: s => by
    have ih := jlen_split s
    simp only [splitC]
    split
    · simp only [jlen, ih, List.length_cons, List.length_nil]; omega
    · cases hs : splitC s with
      | nil => rw [hs] at ih; simp [jlen] at ih
      | cons p ps => rw [hs] at ih; simp only [jlen, List.length_cons] at ih ⊢; omega
theorem jlen_filter (f : Str → Bool) : ∀ a : List Str, jlen (a.filter f) ≤ jlen a
  | [] => Nat.le_refl _
  | p :: a => by
    have := jlen_filter f a
    rw [List.filter_cons]
    split <;> simp only [jlen] <;> omega
theorem jlen_parts (s : Str) : jlen (parts s) ≤ s.length + 1 := by
  have := jlen_filter full (splitC s)
  rw [jlen_split] at this; exact this
theorem readP_parts {s : Str} (h : (readP s).2 = 0) : (readP s).1.parts = parts s ∧ s.length ≤ 4096 := by
  unfold readP at h ⊢
  split at h
  · cases h
  · rename_i h0
    rw [if_neg h0]
    split at h
    · cases h
    · rename_i h1
      rw [if_neg h1]
      split at h
      · cases h
      · rename_i h2
        rw [if_neg h2]
        split at h
        · cases h
        · rename_i h3
          rw [if_neg h3]
          exact ⟨rfl, by omega⟩
theorem linkW_ok {E : WEnv} {w w' : Wk} {left : List Str} {text : Str} (h : linkW E w left text = .ok w') : jlen w'.left ≤ 4098 ∧ w'.links = w.links + 1 ∧ w.links < 40 := by
  unfold linkW at h
  split at h
  · cases h
  · rename_i h1
    split at h
    · cases h
    · split at h
      · cases h
      · rename_i h2
        split at h
        rename_i p e hr
        split at h
        · cases h
        · rename_i he
          cases h
          have he' : (readP text).2 = 0 := by rw [hr]; simpa using he
          obtain ⟨hp, hl⟩ := readP_parts he'
          rw [hr] at hp
          simp only at hp
          refine ⟨?_, rfl, by omega⟩
          have h3 := jlen_parts text
          have h4 := (joinS_jlen left).2
          have h5 : (joinS left).length ≤ (writeP { parts := left, slash := w.slash }).length := by
            unfold writeP; simp
          show jlen (p.parts ++ left) ≤ 4098
          rw [jlen_app, hp]; omega
theorem partW_ok {E : WEnv} {w w' : Wk} {s : Str} {left : List Str} (h : partW E w s left = .ok w') (hl : jlen left ≤ 4098) (hk : 0 ≤ w.links ∧ w.links ≤ 40) :
    jlen w'.left ≤ 4098 ∧ (0 ≤ w'.links ∧ w'.links ≤ 40) ∧ (w'.left = left ∧ w'.links = w.links ∨ w'.links = w.links + 1) := by
  unfold partW at h
  split at h
  · cases h
  · split at h
    · cases h
    · split at h
      · cases h; exact ⟨hl, hk, .inl ⟨rfl, rfl⟩⟩
      · split at h
        · cases h; exact ⟨hl, hk, .inl ⟨rfl, rfl⟩⟩
        · split at h
          · split at h <;> cases h
          · simp only at h
            split at h
            · split at h
              · cases h
              · rename_i w2 h2
                cases h
                obtain ⟨a1, a2, a3⟩ := linkW_ok h2
                exact ⟨a1, by omega, .inr a2⟩
            · cases h; exact ⟨hl, hk, .inl ⟨rfl, rfl⟩⟩
theorem SlS.form2 {l : St} {v : Value} {xs : List Value} (h : SlS l v xs) : ∃ p c, v = .slice p xs.length c := by
  rcases h with ⟨rfl, p, cap, rfl⟩ | ⟨b, o, cap, cs, ty, fz, rfl, h2⟩ <;> exact ⟨_, _, rfl⟩
theorem scall_swap {P : Program} {f : FuncId} {args : Array Value} {k : Value → SP} {a b : Chunk} {r : St} (h : scall P f args k (b :: a :: r)) : scall P f args k (a :: b :: r) := scall_perm (l' := b :: a :: r) (by
  simp only [List.flatten_cons]
  exact List.perm_append_comm_assoc _ _ _) h
theorem scall_rot {P : Program} {f : FuncId} {args : Array Value} {k : Value → SP} {a b c : Chunk} {r : St} (h : scall P f args k (c :: a :: b :: r)) : scall P f args k (a :: b :: c :: r) := scall_perm (l' := c :: a :: b :: r) (by
  refine perm_of_ct fun x => ?_
  simp only [List.flatten_cons, ct_append]; omega) h
theorem tst_ok {l : St} {t : Nat} {T : Tree} {β : Int → Nat} {n : Int} {R : Value → SP} (hT : TreeAt l t T β) (hS : Small T) (h : R (.tuple #[sttV (T.st n), .bool (T.stat n).isSome]) l) : scall Tryz.prog 16 #[ptr t 0, vi n] R l := tstat_ok hT hS h
section
variable {l : St} {t m wb : Nat} {T : Tree} {M : Tab} {β : Int → Nat} {E : WEnv} {w : Wk} {lv : Value} {n : Int} {ty : TypeId} {s : Str} {rest : List Str} {R : Value → SP}
theorem wpart_ok (hC : Cx l t m T M β) (hET : E.T = T) (hEM : E.M = M) (hleft : w.left = s :: rest) (hls : SlS l lv (w.left.map vstr')) (hj : jlen w.left ≤ 4098) (hlk : 0 ≤ w.links ∧ w.links ≤ 40)
    (h1 : ∀ f e, partW E w s rest = .error (f, e) → ∀ w' lv' n', (e = 0 → w'.f = f) → R (.tuple #[.bool true, vi e]) (pt wb (.cells (wC t m E w' lv' n') ty) :: l))
    (h2 : ∀ w', partW E w s rest = .ok w' → ∀ c lv' n', (∀ l', SlS l' lv (w.left.map vstr') → SlS (c :: l') lv' (w'.left.map vstr')) → R (.tuple #[.bool false, vi 0]) (pt wb (.cells (wC t m E w' lv' n') ty) :: c :: l)) :
    scall Tryz.prog 133 #[ptr wb 0] R (pt wb (.cells (wC t m E w lv n) ty) :: l) := by
  subst hET; subst hEM
  have hls0 := hls
  rw [hleft] at hls hj
  obtain ⟨lsp, lsc, rfl⟩ := hls.form2
  have hjr : jlen rest ≤ 4098 := by simp only [jlen] at hj; omega
  have hrl := jlen_len rest
  have hjs := (joinS_jlen rest).1
  refine scall_post (S133_ok ?_)
  unfold S133
  (repeat' (first | refine z0 ?_ | refine z1 ?_ | refine z2 ?_ | refine z3 ?_ | refine z4 ?_ | refine z5 ?_ | refine z6 ?_ | refine z7 (fun hg => ?_) (fun hg => ?_) | refine z8 (fun hg => ?_) (fun hg => ?_) | refine z9 ?_ | refine za ?_ | refine zb ?_ | refine zc ?_ | refine zd ?_ | refine ze ?_ | refine zf ?_ | refine zg ?_ | refine zh ?_ | refine zi (fun _ => ?_) | refine zj (fun _ => ?_) | refine zk ?_ | refine zl ?_ ?_ | refine zm ?_ | refine zn ?_ | refine zo ?_ | exact (rfl : _ = _)))
  refine r_ssget (i := 0) (x := vstr' s) (hls.there _) (by simp) ?_
  (repeat' (first | refine z0 ?_ | refine z1 ?_ | refine z2 ?_ | refine z3 ?_ | refine z4 ?_ | refine z5 ?_ | refine z6 ?_ | refine z7 (fun hg => ?_) (fun hg => ?_) | refine z8 (fun hg => ?_) (fun hg => ?_) | refine z9 ?_ | refine za ?_ | refine zb ?_ | refine zc ?_ | refine zd ?_ | refine ze ?_ | refine zf ?_ | refine zg ?_ | refine zh ?_ | refine zi (fun _ => ?_) | refine zj (fun _ => ?_) | refine zk ?_ | refine zl ?_ ?_ | refine zm ?_ | refine zn ?_ | refine zo ?_ | exact (rfl : _ = _)))
  refine r_tail (x := vstr' s) (xs := rest.map vstr') (hls.there _) (fun lv2 hls2 => ?_)
  have hls3 : SlS l lv2 (rest.map vstr') := hls2 l hls
  obtain ⟨l2p, l2c, hl2⟩ := hls3.form2
  rw [List.length_map] at hl2
  subst hl2
  have hlst : ∀ l', SlS l' (.slice lsp (List.map vstr' (s :: rest)).length lsc) (w.left.map vstr') → SlS l' (.slice l2p rest.length l2c) (rest.map vstr') := fun l' h => hls2 l' (by rw [hleft] at h; exact h)
  have keep : ∀ (w' : Wk) (lv' : Value) (n' : Int) (σ : St), w'.left = rest → (∀ l', SlS l' (.slice lsp (List.map vstr' (s :: rest)).length lsc) (w.left.map vstr') → SlS l' lv' (rest.map vstr')) → partW E w s rest = .ok w' → Ent σ (pt wb (.cells (wC t m E w' lv' n') ty) :: l) → ∃ l2, Ent σ l2 ∧ R (.tuple #[.bool false, vi 0]) l2 := fun w' lv' n' σ hw' hs' hp he => by
    refine ⟨pt wb (.cells (wC t m E w' lv' n') ty) :: [] :: l, he.trans (Ent.of_perm (by simp)), h2 w' hp [] lv' n' (fun l' hl' => ?_)⟩
    rw [hw']; exact (hs' l' hl').there _
  (repeat' (first | refine z0 ?_ | refine z1 ?_ | refine z2 ?_ | refine z3 ?_ | refine z4 ?_ | refine z5 ?_ | refine z6 ?_ | refine z7 (fun hg => ?_) (fun hg => ?_) | refine z8 (fun hg => ?_) (fun hg => ?_) | refine z9 ?_ | refine za ?_ | refine zb ?_ | refine zc ?_ | refine zd ?_ | refine ze ?_ | refine zf ?_ | refine zg ?_ | refine zh ?_ | refine zi (fun _ => ?_) | refine zj (fun _ => ?_) | refine zk ?_ | refine zl ?_ ?_ | refine zm ?_ | refine zn ?_ | refine zo ?_ | exact (rfl : _ = _)))
  refine tst_ok (hC.tree.there _) hC.small ?_
  obtain ⟨st, hst⟩ : ∃ st, E.T.st w.pl.node = st := ⟨_, rfl⟩
  have hp1 : partW E w s rest = if st.kind ≠ 1 then .error ({}, 37) else if !may E.c st 1 then .error ({}, 34)
      else if s = [46] then .ok { w with left := rest, f := hereF w.pl }
      else if s = [46, 46] then .ok { w with pl := wup E.T E.M E.root w.pl, left := rest, f := hereF (wup E.T E.M E.root w.pl) }
      else match E.T.find w.pl.node s with
        | none => if rest.length ≠ 0 then .error ({}, 32) else .error ({ dir := w.pl, last := s, slash := w.slash }, 0)
        | some n =>
          if (E.T.st (E.M.down { mount := w.pl.mount, node := n }).node).kind = 3 ∧ (rest.length ≠ 0 ∨ E.follow = true ∨ w.slash = true) then
            match linkW E w rest (E.T.text (E.M.down { mount := w.pl.mount, node := n }).node) with
            | .error e => .error ({}, e)
            | .ok w' => .ok w'
          else .ok { w with pl := E.M.down { mount := w.pl.mount, node := n }, left := rest, f := { dir := w.pl, last := s, pl := E.M.down { mount := w.pl.mount, node := n }, has := true } } := by
    rw [← hst]; rfl
  rw [hst]
  clear hst
  refine r_ext (by rfl) ?_
  refine r_ext (by rfl) ?_
  refine r_new fun b5 => ?_
  refine r_store (l' := pt b5 (.cells (sttL st).toArray 42) :: pt wb (.cells (wC t m E { w with left := rest } (.slice l2p rest.length l2c) (IntKind.i64.wrap (n + 1))) ty) :: l) (knows_pt _ _ _) (by rfl) (by rfl) (by rfl) (by rfl) (change_pt _ _ _ _) ?_
  obtain ⟨N, hN⟩ : ∃ N, IntKind.i64.wrap (n + 1) = N := ⟨_, rfl⟩
  rw [hN]
  refine r_fa ?_
  refine r_load1 (knows_pt _ _ _) (by rfl) ?_
  refine r_bin (by rfl) ?_
  by_cases hk : st.kind ≠ 1
  · have : (st.kind != 1) = true := bne_iff_ne.2 hk
    rw [this]
    refine r_guard_t ?_
    rw [if_pos hk] at hp1
    exact ⟨_, Ent.drop _ _, h1 {} 37 hp1 { w with left := rest } _ _ (fun h => by cases h)⟩
  rw [if_neg hk] at hp1
  have : (st.kind != 1) = false := by simpa using hk
  rw [this]
  refine r_guard_f ?_
  refine r_nil ?_
  refine r_fa ?_
  refine r_loadn (knows_there _ (knows_pt _ _ _)) (by rfl) ?_
  refine r_loadn (knows_pt _ _ _) (by rfl) ?_
  refine may_ok (c := E.c) (s := st) (.inl rfl) ?_
  refine r_not ?_
  cases hm : may E.c st 1 with
  | false =>
    rw [hm] at hp1
    refine r_guard_t ?_
    exact ⟨_, Ent.drop _ _, h1 {} 34 hp1 { w with left := rest } _ _ (fun h => by cases h)⟩
  | true =>
  rw [hm, if_neg (by decide)] at hp1
  refine r_guard_f ?_
  refine r_streq (a := s) (b := [46]) ?_
  by_cases hdot : s = [46]
  · have : decide (s = [46]) = true := by simpa using hdot
    rw [this]
    rw [if_pos hdot] at hp1
    refine r_guard_t ?_
    refine scall_swap ?_
    refine here_ok (w := { w with left := rest }) (fun _ => ?_)
    exact keep _ _ _ _ rfl hlst hp1 (ent_mid [_] _ _)
  rw [if_neg hdot] at hp1
  have : decide (s = [46]) = false := by simpa using hdot
  rw [this]
  refine r_guard_f ?_
  refine r_streq (a := s) (b := [46, 46]) ?_
  by_cases hdd : s = [46, 46]
  · have : decide (s = [46, 46]) = true := by simpa using hdd
    rw [this]
    rw [if_pos hdd] at hp1
    refine r_guard_t ?_
    refine scall_swap ?_
    refine wup_ok (w := { w with left := rest }) (hC.there _) rfl (fun _ => ?_)
    refine here_ok (w := { w with left := rest, pl := wup E.T E.M E.root w.pl }) (fun _ => ?_)
    exact keep _ _ _ _ rfl hlst hp1 (ent_mid [_] _ _)
  rw [if_neg hdd] at hp1
  have : decide (s = [46, 46]) = false := by simpa using hdd
  rw [this]
  refine r_guard_f ?_
  refine r_nil ?_
  refine r_fa ?_
  refine r_loadn (knows_there _ (knows_pt _ _ _)) (by rfl) ?_
  refine r_new fun b7 => ?_
  refine r_store (l' := pt b7 (.cells #[vi w.pl.mount, vi w.pl.node] 27) :: pt b5 (.cells (sttL st).toArray 42) :: pt wb (.cells (wC t m E { w with left := rest } (.slice l2p rest.length l2c) N) ty) :: l) (knows_pt _ _ _) (by rfl) (by rfl) (by rfl) (by rfl) (change_pt _ _ _ _) ?_
  refine r_nil ?_
  refine r_fa ?_
  refine r_load1 (knows_there _ (knows_there _ (knows_pt _ _ _))) (by rfl) ?_
  refine r_fa ?_
  refine r_load1 (knows_pt _ _ _) (by rfl) ?_
  refine tfind_ok (((hC.tree.there _).there _).there _) ?_
  refine r_ext (by rfl) ?_
  refine r_ext (by rfl) ?_
  refine r_not ?_
  cases hf : E.T.find w.pl.node s with
  | none =>
    rw [hf] at hp1
    simp only at hp1
    refine r_guard_t ?_
    refine r_nil ?_
    refine r_fa ?_
    refine r_load1 (knows_there _ (knows_there _ (knows_pt _ _ _))) (by rfl) ?_
    refine r_len_slice ?_
    refine r_bin (by rfl) ?_
    by_cases hr0 : rest.length ≠ 0
    · rw [if_pos hr0] at hp1
      have : decide ((rest.length : Int) > 0) = true := decide_eq_true (by omega)
      rw [this]
      refine r_guard_t ?_
      exact ⟨_, (Ent.drop _ _).trans (Ent.drop _ _), h1 _ _ hp1 { w with left := rest } _ _ (fun h => by cases h)⟩
    · rw [if_neg hr0] at hp1
      have : decide ((rest.length : Int) > 0) = false := decide_eq_false (by omega)
      rw [this]
      refine r_guard_f ?_
      refine r_loadn (knows_pt _ _ _) (by rfl) ?_
      refine r_nil ?_
      refine r_fa ?_
      refine r_load1 (knows_there _ (knows_there _ (knows_pt _ _ _))) (by rfl) ?_
      refine r_build (by rfl) ?_
      refine r_nil ?_
      refine r_fa ?_
      refine r_store (knows_there _ (knows_there _ (knows_pt _ _ _))) (by rfl) (by rfl) (by rfl) (by rfl) (change_there _ (change_there _ (change_pt _ _ _ _))) ?_
      exact ⟨_, (Ent.drop _ _).trans (Ent.drop _ _), h1 _ _ hp1 { w with left := rest, f := { dir := w.pl, last := s, slash := w.slash } } _ _ (fun _ => rfl)⟩
  | some q =>
    rw [hf] at hp1
    simp only at hp1
    refine r_guard_f ?_
    refine r_nil ?_
    refine r_fa ?_
    refine r_load1 (knows_there _ (knows_there _ (knows_pt _ _ _))) (by rfl) ?_
    refine r_fa ?_
    refine r_load1 (knows_pt _ _ _) (by rfl) ?_
    refine r_build (by rfl) ?_
    refine mdown_ok (p := { mount := w.pl.mount, node := q }) (((hC.tab.there _).there _).there _) hC.msz hC.ok ?_
    obtain ⟨p, hp⟩ : ∃ p, E.M.down { mount := w.pl.mount, node := q } = p := ⟨_, rfl⟩
    rw [hp] at hp1 ⊢
    clear hp
    refine r_nil ?_
    refine r_fa ?_
    refine r_store (l' := pt b7 (.cells #[vi w.pl.mount, vi w.pl.node] 27) :: pt b5 (.cells (sttL st).toArray 42) :: pt wb (.cells (wC t m E { w with left := rest, pl := p } (.slice l2p rest.length l2c) N) ty) :: l) (knows_there _ (knows_there _ (knows_pt _ _ _))) (by rfl) (by rfl) (by rfl) (by rfl) (change_there _ (change_there _ (change_pt _ _ _ _))) ?_
    refine r_nil ?_
    refine r_fa ?_
    refine r_load1 (knows_there _ (knows_there _ (knows_pt _ _ _))) (by rfl) ?_
    refine r_nil ?_
    refine r_fa ?_
    refine r_fa ?_
    refine r_load1 (knows_there _ (knows_there _ (knows_pt _ _ _))) (by rfl) ?_
    refine tst_ok (((hC.tree.there _).there _).there _) hC.small ?_
    obtain ⟨st2, hst2⟩ : ∃ st2, E.T.st p.node = st2 := ⟨_, rfl⟩
    rw [hst2] at hp1 ⊢
    clear hst2
    refine r_ext (by rfl) ?_
    refine r_ext (by rfl) ?_
    refine r_store (l' := pt b7 (.cells #[vi w.pl.mount, vi w.pl.node] 27) :: pt b5 (.cells (sttL st2).toArray 42) :: pt wb (.cells (wC t m E { w with left := rest, pl := p } (.slice l2p rest.length l2c) N) ty) :: l) (knows_there _ (knows_pt _ _ _)) (by rfl) (by rfl) (by rfl) (by rfl) (change_there _ (change_pt _ _ _ _)) ?_
    unfold sjoin1
    refine ⟨fun vs σ => ∃ b : Bool, vs = [.bool b] ∧ (b = true ↔ (st2.kind = 3 ∧ (rest.length ≠ 0 ∨ E.follow = true ∨ w.slash = true))) ∧ σ = pt b7 (.cells #[vi w.pl.mount, vi w.pl.node] 27) :: pt b5 (.cells (sttL st2).toArray 42) :: pt wb (.cells (wC t m E { w with left := rest, pl := p } (.slice l2p rest.length l2c) N) ty) :: l, ?_, ?_⟩
    · rintro x σ ⟨b, hb, hiff, rfl⟩
      cases hb
      cases b with
      | true =>
        rw [if_pos (hiff.1 rfl)] at hp1
        refine r_guard_t ?_
        refine r_loadn (knows_pt _ _ _) (by rfl) ?_
        refine r_nil ?_
        refine r_fa ?_
        refine r_load1 (knows_there _ (knows_there _ (knows_pt _ _ _))) (by rfl) ?_
        refine r_nil ?_
        refine r_fa ?_
        refine r_fa ?_
        refine r_load1 (knows_there _ (knows_there _ (knows_pt _ _ _))) (by rfl) ?_
        refine ttext_ok (((hC.tree.there _).there _).there _) ?_
        refine r_and (r_loadn (knows_pt _ _ _) (by rfl) rfl) ?_
        refine scall_rot ?_
        refine wsymlink_ok (w := { w with left := rest, pl := p }) (dir := w.pl) ((hls3.there _).there _) (by simp only; omega) (by simp only; omega) (hC.text _) (by simp only; omega) (fun e he hne w' lv' => ?_) (fun w' hw' c lv' hs' => ?_)
        · have he2 : linkW E w rest (E.T.text p.node) = .error e := he
          rw [he2] at hp1
          refine r_bin (by rfl) ?_
          have : (e != 0) = true := bne_iff_ne.2 hne
          rw [this]
          refine ⟨pt wb (.cells (wC t m E w' lv' N) ty) :: l, (ent_mid [_] _ _).trans (ent_mid [_] _ _), h1 _ _ hp1 w' lv' _ (fun h => absurd h hne)⟩
        · have he2 : linkW E w rest (E.T.text p.node) = .ok w' := hw'
          rw [he2] at hp1
          refine r_bin (by rfl) ?_
          refine ⟨pt wb (.cells (wC t m E w' lv' N) ty) :: [c, pt b7 (.cells #[vi w.pl.mount, vi w.pl.node] 27), pt b5 (.cells (sttL st2).toArray 42)].flatten :: l, Ent.of_perm (by simp), h2 w' hp1 _ lv' _ (fun l' _ => (hs' (pt b7 (.cells #[vi w.pl.mount, vi w.pl.node] 27) :: pt b5 (.cells (sttL st2).toArray 42) :: l')).mono fun b o hk => ?_)⟩
          unfold Knows at hk ⊢
          simpa using hk
      | false =>
        rw [if_neg (fun h => by have := hiff.2 h; cases this)] at hp1
        refine r_guard_f ?_
        refine r_loadn (knows_pt _ _ _) (by rfl) ?_
        refine r_nil ?_
        refine r_fa ?_
        refine r_loadn (knows_there _ (knows_there _ (knows_pt _ _ _))) (by rfl) ?_
        refine r_build (by rfl) ?_
        refine r_nil ?_
        refine r_fa ?_
        refine r_store (knows_there _ (knows_there _ (knows_pt _ _ _))) (by rfl) (by rfl) (by rfl) (by rfl) (change_there _ (change_there _ (change_pt _ _ _ _))) ?_
        exact keep _ _ _ _ rfl hlst hp1 ((Ent.drop _ _).trans (Ent.drop _ _))
    · refine r_fa ?_
      refine r_load1 (knows_there _ (knows_pt _ _ _)) (by rfl) ?_
      refine r_bin (by rfl) ?_
      by_cases hk3 : st2.kind = 3
      · have : (st2.kind == 3) = true := by simpa using hk3
        rw [this]
        refine r_guard_t ?_
        refine r_nil ?_
        refine r_fa ?_
        refine r_load1 (knows_there _ (knows_there _ (knows_pt _ _ _))) (by rfl) ?_
        refine r_len_slice ?_
        refine r_bin (by rfl) ?_
        by_cases hr0 : rest.length ≠ 0
        · have : decide ((rest.length : Int) > 0) = true := decide_eq_true (by omega)
          rw [this]
          refine r_guard_t ?_
          exact ⟨true, rfl, ⟨fun _ => ⟨hk3, .inl hr0⟩, fun _ => rfl⟩, rfl⟩
        · have : decide ((rest.length : Int) > 0) = false := decide_eq_false (by omega)
          rw [this]
          refine r_guard_f ?_
          refine r_nil ?_
          refine r_fa ?_
          refine r_load1 (knows_there _ (knows_there _ (knows_pt _ _ _))) (by rfl) ?_
          cases hfo : E.follow with
          | true =>
            refine r_guard_t ?_
            exact ⟨true, rfl, ⟨fun _ => ⟨hk3, .inr (.inl rfl)⟩, fun _ => rfl⟩, rfl⟩
          | false =>
            refine r_guard_f ?_
            refine r_nil ?_
            refine r_fa ?_
            refine r_load1 (x := .bool w.slash) (knows_there _ (knows_there _ (knows_pt _ _ _))) (by rfl) ?_
            refine ⟨w.slash, rfl, ⟨fun h => ⟨hk3, .inr (.inr h)⟩, fun ⟨_, h⟩ => ?_⟩, rfl⟩
            rcases h with h | h | h
            · exact absurd h hr0
            · cases h
            · exact h
      · have : (st2.kind == 3) = false := by simpa using hk3
        rw [this]
        refine r_guard_f ?_
        exact ⟨false, rfl, ⟨(fun h => by cases h), fun ⟨h, _⟩ => absurd h hk3⟩, rfl⟩
end
end Go.Sl
namespace Go.Sl
variable [Ghost]
open Go Go.Mo Go.Proofs
attribute [local irreducible] snil sfa sext sfield sguard sun sbin slen sload sstore snew snewObj sbuildR sbuildSlR smakeMapR smakeSlR slookup smapset srangeMap snext sentry scall scallv sextern sbuiltin sidx sindex sslice sconv srangeX sarg sand sjoin0 sjoin1 sjoin2 sloop0 sloop1 sloop2
abbrev kC (wb : Nat) (over : Bool) (f : Fnd) (why : Int) : Array Value := #[ptr wb 0, .bool over, vi f.dir.mount, vi f.dir.node, vstr' f.last, vi f.pl.mount, vi f.pl.node, .bool f.has, .bool f.slash, vi why]
theorem partW_no {E : WEnv} {w : Wk} {s : Str} {left : List Str} {f : Fnd} {e : Int} (h : partW E w s left = .error (f, e)) (he : e ≠ 0) : f = {} := by
  unfold partW at h
  split at h
  · cases h; rfl
  · split at h
    · cases h; rfl
    · split at h
      · cases h
      · split at h
        · cases h
        · split at h
          · split at h
            · cases h; rfl
            · cases h; exact absurd rfl he
          · simp only at h
            split at h
            · split at h
              · cases h; rfl
              · cases h
            · cases h
section
variable {l : St} {t m wb kb : Nat} {T : Tree} {M : Tab} {β : Int → Nat} {E : WEnv} {w : Wk} {lv : Value} {n : Int} {ty tk : TypeId} {s path : Str} {rest : List Str} {R : Value → SP} {f f' : Fnd} {why : Int} {over follow : Bool} {root from' : Plc} {cr : Cred}
theorem wend_ok (h : R (.bool true) (pt kb (.cells (kC wb true (if why = 0 then f' else f) why) tk) :: l)) : scall Tryz.prog 134 #[ptr kb 0, fV f', vi why] R (pt kb (.cells (kC wb over f 0) tk) :: l) := by
  refine scall_post (S134_ok ?_)
  unfold S134
  refine r_new fun b4 => ?_
  refine r_nil ?_
  refine r_fa ?_
  refine r_store (knows_there _ (knows_pt _ _ _)) (by rfl) (by rfl) (by rfl) (by rfl) (change_there _ (change_pt _ _ _ _)) ?_
  refine r_nil ?_
  refine r_fa ?_
  refine r_store (knows_there _ (knows_pt _ _ _)) (by rfl) (by rfl) (by rfl) (by rfl) (change_there _ (change_pt _ _ _ _)) ?_
  refine r_join0 ?_
  refine r_bin (by rfl) ?_
  by_cases hw : why = 0
  · have : (why == 0) = true := by simpa using hw
    rw [this]
    rw [if_pos hw] at h
    refine r_guard_t ?_
    refine r_loadn (knows_pt _ _ _) (by rfl) ?_
    refine r_nil ?_
    refine r_fa ?_
    refine r_store (knows_there _ (knows_pt _ _ _)) (by rfl) (by rfl) (by rfl) (by rfl) (change_there _ (change_pt _ _ _ _)) ?_
    exact ⟨_, Ent.drop _ _, h⟩
  · have : (why == 0) = false := by simpa using hw
    rw [this]
    rw [if_neg hw] at h
    refine r_guard_f ?_
    exact ⟨_, Ent.drop _ _, h⟩
theorem wPart_over {cs : Array Value} (h : R (.bool true) (pt kb (.cells (kC wb true f why) tk) :: pt wb (.cells cs ty) :: l)) : scall Tryz.prog 101 #[ptr kb 0] R (pt kb (.cells (kC wb true f why) tk) :: pt wb (.cells cs ty) :: l) := by
  refine S101_ok ?_
  unfold S101
  (repeat' (first | refine z0 ?_ | refine z1 ?_ | refine z2 ?_ | refine z3 ?_ | refine z4 ?_ | refine z5 ?_ | refine z6 ?_ | refine z7 (fun hg => ?_) (fun hg => ?_) | refine z8 (fun hg => ?_) (fun hg => ?_) | refine z9 ?_ | refine za ?_ | refine zb ?_ | refine zc ?_ | refine zd ?_ | refine ze ?_ | refine zf ?_ | refine zg ?_ | refine zh ?_ | refine zi (fun _ => ?_) | refine zj (fun _ => ?_) | refine zk ?_ | refine zl ?_ ?_ | refine zm ?_ | refine zn ?_ | refine zo ?_ | exact (rfl : _ = _)))
  exact h
theorem wPart_ok (hC : Cx l t m T M β) (hET : E.T = T) (hEM : E.M = M) (hls : SlS l lv (w.left.map vstr')) (hj : jlen w.left ≤ 4098) (hlk : 0 ≤ w.links ∧ w.links ≤ 40)
    (h1 : ∀ f e, (match w.left with | [] => endW E w = (f, e) | s :: rest => partW E w s rest = .error (f, e)) → ∀ w' lv' n', R (.bool true) (pt kb (.cells (kC wb true f e) tk) :: pt wb (.cells (wC t m E w' lv' n') ty) :: l))
    (h2 : ∀ s rest w', w.left = s :: rest → partW E w s rest = .ok w' → ∀ c lv' n', (∀ l', SlS l' lv (w.left.map vstr') → SlS (c :: l') lv' (w'.left.map vstr')) → R (.bool false) (pt kb (.cells (kC wb false {} 0) tk) :: pt wb (.cells (wC t m E w' lv' n') ty) :: c :: l)) :
    scall Tryz.prog 101 #[ptr kb 0] R (pt kb (.cells (kC wb false {} 0) tk) :: pt wb (.cells (wC t m E w lv n) ty) :: l) := by
  refine scall_post (S101_ok ?_)
  unfold S101
  refine r_nil ?_
  refine r_fa ?_
  refine r_load1 (knows_pt _ _ _) (by rfl) ?_
  refine r_nil ?_
  refine r_fa ?_
  refine r_load1 (knows_pt _ _ _) (by rfl) ?_
  refine r_guard_f ?_
  refine r_nil ?_
  refine r_fa ?_
  refine r_load1 (knows_there _ (knows_pt _ _ _)) (by rfl) ?_
  refine r_sslen ((hls.there _).there _) ?_
  refine r_bin (by rfl) ?_
  rw [List.length_map]
  cases hleft : w.left with
  | cons s rest =>
    rw [hleft] at h1
    simp only at h1
    have : decide (((s :: rest).length : Int) > 0) = true := decide_eq_true (by simp)
    rw [this]
    refine r_guard_t ?_
    refine scall_swap ?_
    refine wpart_ok (hC.there _) hET hEM hleft (hls.there _) hj hlk (fun f e hp w' lv' n' hf => ?_) (fun w' hp c lv' n' hs' => ?_)
    · refine r_ext (by rfl) ?_
      refine r_ext (by rfl) ?_
      refine r_join1 ?_
      refine r_guard_t ?_
      refine r_guard_t ?_
      refine r_nil ?_
      refine r_fa ?_
      refine r_loadn (knows_pt _ _ _) (by rfl) ?_
      refine scall_swap ?_
      refine wend_ok (f := {}) (f' := w'.f) ?_
      refine ⟨_, .refl _, ?_⟩
      have : (if e = 0 then w'.f else {}) = f := by
        by_cases he : e = 0
        · rw [if_pos he]; exact hf he
        · rw [if_neg he]; exact (partW_no hp he).symm
      rw [this]
      exact h1 f e hp w' lv' n'
    · refine r_ext (by rfl) ?_
      refine r_ext (by rfl) ?_
      refine r_join1 ?_
      refine r_guard_f ?_
      refine r_bin (by rfl) ?_
      refine r_guard_f ?_
      refine ⟨pt kb (.cells (kC wb false {} 0) tk) :: pt wb (.cells (wC t m E w' lv' n') ty) :: c :: l, Ent.of_perm (by (refine perm_of_ct fun a => ?_; simp only [List.flatten_cons, List.flatten_append, List.flatten_nil, ct_append, ct_cons, ct_nil, pt, vi, ptr, vstr', Value.cells, tCells, nCells, List.append_nil] at *; omega)), h2 s rest w' hleft hp c lv' n' hs'⟩
  | nil =>
    rw [hleft] at h1
    simp only at h1
    have : decide (((([] : List Str).length : Nat) : Int) > 0) = false := rfl
    rw [this]
    refine r_guard_f ?_
    refine r_nil ?_
    refine r_fa ?_
    refine r_load1 (knows_there _ (knows_pt _ _ _)) (by rfl) ?_
    refine r_nil ?_
    refine r_fa ?_
    refine r_fa ?_
    refine r_store (l' := pt kb (.cells (kC wb false {} 0) tk) :: pt wb (.cells (wC t m E { w with f := { w.f with slash := w.slash } } lv n) ty) :: l) (knows_there _ (knows_pt _ _ _)) (by rfl) (by rfl) (by rfl) (by rfl) (change_there _ (change_pt _ _ _ _)) ?_
    refine r_nil ?_
    refine r_fa ?_
    refine r_load1 (knows_there _ (knows_pt _ _ _)) (by rfl) ?_
    refine r_nil ?_
    refine r_fa ?_
    refine r_fa ?_
    refine r_load1 (knows_there _ (knows_pt _ _ _)) (by rfl) ?_
    refine tst_ok ((hC.tree.there _).there _) hC.small ?_
    have hend : endW E w = if w.slash && (T.st w.pl.node).kind != 1 then ({}, 37) else ({ w.f with slash := w.slash }, 0) := by rw [← hET]; rfl
    obtain ⟨st, hst⟩ : ∃ st, T.st w.pl.node = st := ⟨_, rfl⟩
    rw [hst] at hend ⊢
    clear hst
    refine r_ext (by rfl) ?_
    refine r_ext (by rfl) ?_
    refine r_new fun b6 => ?_
    refine r_store (l' := pt b6 (.cells (sttL st).toArray 42) :: pt kb (.cells (kC wb false {} 0) tk) :: pt wb (.cells (wC t m E { w with f := { w.f with slash := w.slash } } lv n) ty) :: l) (knows_pt _ _ _) (by rfl) (by rfl) (by rfl) (by rfl) (change_pt _ _ _ _) ?_
    refine r_join1 ?_
    refine r_nil ?_
    refine r_fa ?_
    refine r_load1 (x := .bool w.slash) (knows_there _ (knows_there _ (knows_pt _ _ _))) (by rfl) ?_
    have good : endW E w = ({ w.f with slash := w.slash }, 0) → (fun vs => match vs with
        | [v70] => sguard v70 (sbuildR [(0, 2), (2, 1), (3, 2), (5, 1), (6, 1)] #[.int .i64 0, .int .i64 0, .string ⟨#[]⟩, .int .i64 0, .int .i64 0, .bool false, .bool false] #[] fun v72 =>
            scall Tryz.prog 134 #[ptr kb 0, v72, .int .i64 37] fun v73 => (fun v l' => ∃ l2, Ent l' l2 ∧ R v l2) v73)
          (snil (ptr wb 0) fun v76 => sfa 13 v76 fun v77 => sload (some 7) v77 fun v78 => scall Tryz.prog 134 #[ptr kb 0, v78, .int .i64 0] fun v79 => (fun v l' => ∃ l2, Ent l' l2 ∧ R v l2) v79)
        | _ => fun _ => False : List Value → SP) [.bool false] (pt b6 (.cells (sttL st).toArray 42) :: pt kb (.cells (kC wb false {} 0) tk) :: pt wb (.cells (wC t m E { w with f := { w.f with slash := w.slash } } lv n) ty) :: l) := fun he => by
      refine r_guard_f ?_
      refine r_nil ?_
      refine r_fa ?_
      refine r_loadn (knows_there _ (knows_there _ (knows_pt _ _ _))) (by rfl) ?_
      refine scall_swap ?_
      refine wend_ok (f := {}) (f' := { w.f with slash := w.slash }) ?_
      rw [if_pos rfl]
      exact ⟨_, ent_mid [_] _ _, h1 _ _ he _ _ _⟩
    cases hsl : w.slash with
    | false =>
      refine r_guard_f ?_
      have := good (by rw [hend, hsl]; rfl)
      rw [hsl] at this
      exact this
    | true =>
      refine r_guard_t ?_
      refine r_fa ?_
      refine r_load1 (knows_pt _ _ _) (by rfl) ?_
      refine r_bin (by rfl) ?_
      by_cases hk : st.kind = 1
      · have h5 : (st.kind != 1) = false := by simpa using hk
        rw [h5]
        have := good (by rw [hend, hsl, h5]; rfl)
        rw [hsl] at this
        exact this
      · have h5 : (st.kind != 1) = true := by simpa using hk
        rw [h5]
        refine r_guard_t ?_
        refine r_build (by rfl) ?_
        refine scall_swap ?_
        refine wend_ok (f := {}) (f' := {}) (why := 37) ?_
        rw [if_neg (by decide)]
        refine ⟨_, ent_mid [_] _ _, ?_⟩
        have := h1 {} 37 (by rw [hend, hsl, h5]; rfl) { w with f := { w.f with slash := w.slash } } lv n
        rw [hsl] at this
        simpa [hsl] using this
end
end Go.Sl
namespace Go.Sl
variable [Ghost]
open Go Go.Mo Go.Proofs
attribute [local irreducible] snil sfa sext sfield sguard sun sbin slen sload sstore snew snewObj sbuildR sbuildSlR smakeMapR smakeSlR slookup smapset srangeMap snext sentry scall scallv sextern sbuiltin sidx sindex sslice sconv srangeX sarg sand sjoin0 sjoin1 sjoin2 sloop0 sloop1 sloop2
section
variable {l : St} {t m wb kb : Nat} {T : Tree} {M : Tab} {β : Int → Nat} {E : WEnv} {w : Wk} {lv : Value} {n : Int} {path : Str} {R : Value → SP} {follow : Bool} {root from' : Plc} {cr : Cred}
theorem wbegin_ok (hC : Cx l t m T M β) (hp : path.length ≤ 2 ^ 40)
    (h1 : ∀ e, ((!isPlace T M root || !isPlace T M from') = true ∧ e = 1) ∨ ((!isPlace T M root || !isPlace T M from') = false ∧ (readP path).2 = e ∧ e ≠ 0) → ∀ kb wb cs, cellAt cs 12 = some (vi 0) → R (ptr kb 0) (pt kb (.cells (kC wb true {} e) 174) :: pt wb (.cells cs.toArray 176) :: l))
    (h2 : (!isPlace T M root || !isPlace T M from') = false → (readP path).2 = 0 → ∀ kb wb c lv, SlS (c :: l) lv ((readP path).1.parts.map vstr') → R (ptr kb 0) (pt kb (.cells (kC wb false {} 0) 174) :: pt wb (.cells (wC t m { T := T, M := M, c := cr, root := M.down root, follow := follow } (beginW { T := T, M := M, c := cr, root := M.down root, follow := follow } from' (readP path).1) lv 0) 176) :: c :: l)) :
    scall Tryz.prog 100 #[ptr t 0, ptr m 0, plV root, plV from', crV cr, vstr' path, .bool follow] R l := by
  refine scall_post (S100_ok ?_)
  unfold S100
  refine r_new fun b9 => ?_
  refine r_new fun b10 => ?_
  refine r_new fun b11 => ?_
  unfold sjoin1
  refine ⟨fun vs σ => vs = [.bool (!isPlace T M root || !isPlace T M from')] ∧ σ = pt b11 (.cells (crV cr).cells 54) :: pt b10 (.cells (plV from').cells 27) :: pt b9 (.cells (plV root).cells 27) :: l, ?_, ?_⟩
  · rintro x σ ⟨hx, rfl⟩
    cases hx
    cases hpl : (!isPlace T M root || !isPlace T M from') with
    | true =>
      refine r_guard_t ?_
      refine r_build (by rfl) ?_
      refine r_new fun wb => ?_
      refine r_build (by rfl) ?_
      refine r_new fun kb => ?_
      refine ⟨_, (ent_mid [_, _] _ _).trans ((ent_mid [_, _] _ _).trans (ent_mid [_, _] _ _)), h1 1 (.inl ⟨hpl, rfl⟩) kb wb _ rfl⟩
    | false =>
      refine r_guard_f ?_
      refine read_ok hp (fun he => ?_) (fun he v c hs hpe => ?_)
      · refine r_ext (by rfl) ?_
        refine r_ext (by rfl) ?_
        refine r_new fun b15 => ?_
        refine r_store (knows_pt _ _ _) (by rfl) (by rfl) (by rfl) (by rfl) (change_pt _ _ _ _) ?_
        refine r_bin (by rfl) ?_
        have : ((readP path).2 != 0) = true := bne_iff_ne.2 he
        rw [this]
        refine r_guard_t ?_
        refine r_build (by rfl) ?_
        refine r_new fun wb => ?_
        refine r_build (by rfl) ?_
        refine r_new fun kb => ?_
        refine ⟨_, (ent_mid [_, _] _ _).trans ((ent_mid [_, _] _ _).trans ((ent_mid [_, _] _ _).trans (ent_mid [_, _] _ _))), h1 _ (.inr ⟨hpl, rfl, he⟩) kb wb _ rfl⟩
      · obtain ⟨vp, vn, vc, rfl⟩ := hs.form
        refine r_ext (by rfl) ?_
        refine r_ext (by rfl) ?_
        refine r_new fun b15 => ?_
        refine r_store (l' := pt b15 (.cells #[.bool (isSl path.head?), .bool (isSl path.getLast?), .slice vp vn vc] 221) :: c :: pt b11 (.cells #[vi cr.uid, vi cr.gid] 54) :: pt b10 (.cells #[vi from'.mount, vi from'.node] 27) :: pt b9 (.cells #[vi root.mount, vi root.node] 27) :: l) (knows_pt _ _ _) (by rfl) (by rfl) (by rfl) (by rfl) (change_pt _ _ _ _) ?_
        refine r_bin (by rfl) ?_
        refine r_guard_f ?_
        have k15 : ∀ σ : St, Knows (pt b15 (.cells #[.bool (isSl path.head?), .bool (isSl path.getLast?), .slice vp vn vc] 221) :: σ) b15 (.cells #[.bool (isSl path.head?), .bool (isSl path.getLast?), .slice vp vn vc] 221) := fun σ => knows_pt _ _ _
        have hC2 : Cx (pt b15 (.cells #[.bool (isSl path.head?), .bool (isSl path.getLast?), .slice vp vn vc] 221) :: c :: pt b11 (.cells #[vi cr.uid, vi cr.gid] 54) :: pt b10 (.cells #[vi from'.mount, vi from'.node] 27) :: pt b9 (.cells #[vi root.mount, vi root.node] 27) :: l) t m T M β := ((((hC.there _).there _).there _).there _).there _
        (repeat' (first | refine z0 ?_ | refine z1 ?_ | refine z2 ?_ | refine z3 ?_ | refine z4 ?_ | refine z5 ?_ | refine z6 ?_ | refine z7 (fun hg => ?_) (fun hg => ?_) | refine z8 (fun hg => ?_) (fun hg => ?_) | refine z9 ?_ | refine za ?_ | refine zb ?_ | refine zc ?_ | refine zd ?_ | refine ze ?_ | refine zf ?_ | refine zg ?_ | refine zh ?_ | refine zi (fun _ => ?_) | refine zj (fun _ => ?_) | refine zk ?_ | refine zl ?_ ?_ | refine zm ?_ | refine zn ?_ | refine zo ?_ | exact (rfl : _ = _)))
        refine mdown_ok hC2.tab hC2.msz hC2.ok ?_
        refine r_and (r_load1 (k15 _) (by rfl) rfl) ?_
        refine r_and (r_load1 (k15 _) (by rfl) rfl) ?_
        refine r_and (r_loadn (by exact kn) (by rfl) rfl) ?_
        refine r_and (r_loadn (by exact kn) (by rfl) rfl) ?_
        refine mdown_ok hC2.tab hC2.msz hC2.ok ?_
        refine r_and (r_load1 (k15 _) (by rfl) rfl) ?_
        refine r_and (r_load1 (k15 _) (by rfl) rfl) ?_
        refine r_and (r_loadn (by exact kn) (by rfl) rfl) ?_
        refine r_build (by rfl) ?_
        refine r_new fun wb => ?_
        have hparts : (readP path).1.parts = parts path := by rw [hpe]
        have hls : SlS (c :: l) (.slice vp vn vc) ((readP path).1.parts.map vstr') := by rw [hparts]; exact hs.here l
        have hbw : beginW { T := T, M := M, c := cr, root := M.down root, follow := follow } from' (readP path).1 =
            { pl := if isSl path.head? then M.down root else M.down from', left := parts path, slash := isSl path.getLast?, links := 0, f := hereF (if isSl path.head? then M.down root else M.down from') } := by rw [hpe]; rfl
        have fin : ∀ q : Plc, q = (if isSl path.head? then M.down root else M.down from') → (sjoin0 (scall Tryz.prog 132 #[ptr wb 0] fun _ =>
            sbuildR [(0, 1), (1, 1), (2, 7), (9, 1)] #[.pointer none, .bool false, .int .i64 0, .int .i64 0, .string ⟨#[]⟩, .int .i64 0, .int .i64 0, .bool false, .bool false, .int .i64 0] #[(0, ptr wb 0)] fun v74 =>
            snew (Value.cells v74) 174 fun v75 => (fun v l' => ∃ l2, Ent l' l2 ∧ R v l2) v75) fun J2 => J2 []) (pt wb (.cells (wC t m { T := T, M := M, c := cr, root := M.down root, follow := follow } { pl := q, left := parts path, slash := isSl path.getLast?, links := 0, f := {} } (.slice vp vn vc) 0) 176) :: pt b15 (.cells #[.bool (isSl path.head?), .bool (isSl path.getLast?), .slice vp vn vc] 221) :: c :: pt b11 (.cells #[vi cr.uid, vi cr.gid] 54) :: pt b10 (.cells #[vi from'.mount, vi from'.node] 27) :: pt b9 (.cells #[vi root.mount, vi root.node] 27) :: l) := by
          intro q hq
          refine r_join0 ?_
          refine here_ok (fun _ => ?_)
          refine r_build (by rfl) ?_
          refine r_new fun kb => ?_
          refine ⟨_, (ent_mid [_, _] _ _).trans ((ent_mid [_, _, _] _ _).trans ((ent_mid [_, _, _] _ _).trans (ent_mid [_, _, _] _ _))), ?_⟩
          have := h2 hpl he kb wb c (.slice vp vn vc) hls
          rw [hbw, ← hq] at this
          exact this
        unfold sjoin0 at fin ⊢
        cases hro : isSl path.head? with
        | true =>
          rw [hro] at fin
          obtain ⟨J, hJ1, hJ2⟩ := fin (M.down root) rfl
          refine ⟨J, hJ1, ?_⟩
          refine r_fa ?_
          refine r_load1 (x := .bool true) (knows_there _ (knows_pt _ _ _)) (by rfl) ?_
          refine r_guard_t ?_
          refine r_nil ?_
          refine r_fa ?_
          refine r_loadn (knows_pt _ _ _) (by rfl) ?_
          refine r_nil ?_
          refine r_fa ?_
          refine r_store (knows_pt _ _ _) (by rfl) (by rfl) (by rfl) (by rfl) (change_pt _ _ _ _) ?_
          exact hJ2
        | false =>
          rw [hro] at fin
          obtain ⟨J, hJ1, hJ2⟩ := fin (M.down from') rfl
          refine ⟨J, hJ1, ?_⟩
          refine r_fa ?_
          refine r_load1 (x := .bool false) (knows_there _ (knows_pt _ _ _)) (by rfl) ?_
          refine r_guard_f ?_
          exact hJ2
  · refine r_loadn (by exact kn) (by rfl) ?_
    refine place_ok (p := root) (((hC.there _).there _).there _) ?_
    refine r_not ?_
    cases h0 : isPlace T M root with
    | false =>
      refine r_guard_t ?_
      exact ⟨by rw [Bool.not_false, Bool.true_or], rfl⟩
    | true =>
      refine r_guard_f ?_
      refine r_loadn (by exact kn) (by rfl) ?_
      refine place_ok (p := from') (((hC.there _).there _).there _) ?_
      refine r_not ?_
      exact ⟨by rw [Bool.not_true, Bool.false_or], rfl⟩
theorem walk_run (E : WEnv) (k : Nat) (w : Wk) (s : Str) (rest : List Str) (h : w.left = s :: rest) : walkGo E (k + 1) w = match partW E w s rest with | .error r => r | .ok w' => walkGo E k w' := by
  simp only [walkGo, h]
  try rfl
theorem walk_end (E : WEnv) (k : Nat) (w : Wk) (h : w.left = []) : walkGo E (k + 1) w = endW E w := by
  simp only [walkGo, h]
theorem size_less {E : WEnv} {w w' : Wk} {s : Str} {rest : List Str} (hl : w.left = s :: rest) (h : partW E w s rest = .ok w') (hj : jlen w.left ≤ 4098) (hk : 0 ≤ w.links ∧ w.links ≤ 40) : w'.size < w.size := by
  have hjr : jlen rest ≤ 4098 := by rw [hl] at hj; simp only [jlen] at hj; omega
  obtain ⟨h1, h2, h3⟩ := partW_ok h hjr hk
  have h4 := jlen_len w'.left
  unfold Wk.size
  rcases h3 with ⟨e1, e2⟩ | e
  · rw [e1, e2, hl]; simp
  · rw [e]
    rw [e] at h2
    omega
theorem walk_ok {cs0 : List Value} (hC : Cx l t m T M β) (hp : path.length ≤ 2 ^ 40) (h : ∀ n, R (.tuple #[fV (walkM T M root from' cr path follow).1, vi (walkM T M root from' cr path follow).2, vi n]) l) :
    scall Tryz.prog 50 #[ptr t 0, ptr m 0, plV root, plV from', crV cr, vstr' path, .bool follow] R l := by
  refine scall_post (S50_ok ?_)
  unfold S50
  refine r_new fun b9 => ?_
  refine r_new fun b10 => ?_
  refine r_new fun b11 => ?_
  refine r_new fun b14 => ?_
  refine r_loadn (by exact kn) (by rfl) ?_
  refine r_loadn (by exact kn) (by rfl) ?_
  refine r_loadn (by exact kn) (by rfl) ?_
  obtain ⟨W, hW⟩ : ∃ W, walkM T M root from' cr path follow = W := ⟨_, rfl⟩
  rw [hW] at h
  obtain ⟨l1, hl1⟩ : ∃ l1, l1 = pt b11 (.cells (crV cr).cells 54) :: pt b10 (.cells (plV from').cells 27) :: pt b9 (.cells (plV root).cells 27) :: l := ⟨_, rfl⟩
  rw [← hl1]
  have hC1 : Cx l1 t m T M β := by rw [hl1]; exact ((hC.there _).there _).there _
  have hE1 : Ent l1 l := by rw [hl1]; exact drp
  clear hl1
  have out : ∀ (kb wb : Nat) (cs : Array Value) (g : St) (n : Int), cellAt cs.toList 12 = some (vi n) →
      (snil (ptr kb 0) fun v30 =>
    sfa 2 v30 fun v31 =>
    sload (some 7) v31 fun v32 =>
    snil (ptr kb 0) fun v34 =>
    sfa 9 v34 fun v35 =>
    sload none v35 fun v36 =>
    snil (ptr kb 0) fun v38 =>
    sfa 0 v38 fun v39 =>
    sload none v39 fun v40 =>
    snil v40 fun v41 =>
    sfa 12 v41 fun v42 =>
    sload none v42 fun v43 =>
    sstore 7 (ptr b14 0) v32 <|
    sand (sload none v42 fun v' _ => v' = v43) <|
    sand (sload none v39 fun v' _ => v' = v40) <|
    sand (sload none v35 fun v' _ => v' = v36) <|
  sload (some 7) (ptr b14 0) fun vr =>
  (fun v l' => ∃ l2, Ent l' l2 ∧ R v l2) (.tuple #[vr, v36, v43])) (pt kb (.cells (kC wb true W.1 W.2) 174) :: pt wb (.cells cs 176) :: (g ++ (pt b14 (.cells #[vi 0, vi 0, .string ⟨#[]⟩, vi 0, vi 0, .bool false, .bool false] 48) :: l1))) := by
    intro kb wb cs g n hn
    have k1 : ∀ o14, Knows (pt kb (.cells (kC wb true W.1 W.2) 174) :: pt wb (.cells cs 176) :: (g ++ (pt b14 o14 :: l1))) kb (.cells (kC wb true W.1 W.2) 174) := fun _ => knows_pt _ _ _
    have k2 : ∀ o14, Knows (pt kb (.cells (kC wb true W.1 W.2) 174) :: pt wb (.cells cs 176) :: (g ++ (pt b14 o14 :: l1))) wb (.cells cs 176) := fun _ => knows_there _ (knows_pt _ _ _)
    refine r_nil ?_
    refine r_fa ?_
    refine r_loadn (k1 _) (by rfl) ?_
    refine r_nil ?_
    refine r_fa ?_
    refine r_load1 (x := vi W.2) (k1 _) (by rfl) ?_
    refine r_nil ?_
    refine r_fa ?_
    refine r_load1 (x := ptr wb 0) (k1 _) (by rfl) ?_
    refine r_nil ?_
    refine r_fa ?_
    refine r_load1 (x := vi n) (k2 _) hn ?_
    refine r_store (knows_there _ (knows_there _ (knows_right g (knows_pt _ _ _)))) (by rfl) (by rfl) (by rfl) (by rfl) (change_there _ (change_there _ (change_right g (change_pt _ _ _ _)))) ?_
    refine r_and (r_load1 (x := vi n) (k2 _) hn rfl) ?_
    refine r_and (r_load1 (x := ptr wb 0) (k1 _) (by rfl) rfl) ?_
    refine r_and (r_load1 (x := vi W.2) (k1 _) (by rfl) rfl) ?_
    refine r_loadn (knows_there _ (knows_there _ (knows_right g (knows_pt _ _ _)))) (by rfl) ?_
    exact ⟨l, (Ent.drop _ _).trans ((Ent.drop _ _).trans ((ent_front g _).trans ((Ent.drop _ _).trans hE1))), h n⟩
  refine wbegin_ok (root := root) (from' := from') (cr := cr) (follow := follow) (hC1.there _) hp (fun e he kb wb cs hcs => ?_) (fun hpl hre kb wb c lv hls => ?_)
  · have hWe : W = ({}, e) := by
      rw [← hW]
      unfold walkM
      rcases he with ⟨h1, rfl⟩ | ⟨h1, h2, h3⟩
      · rw [if_pos h1]
      · rw [if_neg (by rw [h1]; decide)]
        cases hr : readP path with
        | mk p e' =>
          rw [hr] at h2
          simp only at h2 ⊢
          subst h2
          rw [if_pos h3]
    subst hWe
    refine r_loop0 (fun _ σ => σ = pt kb (.cells (kC wb true {} e) 174) :: pt wb (.cells cs.toArray 176) :: (([] : St) ++ (pt b14 (.cells #[vi 0, vi 0, .string ⟨#[]⟩, vi 0, vi 0, .bool false, .bool false] 48) :: l1))) 1 rfl ?_
    rintro k σ rfl
    refine wPart_over ?_
    refine r_not ?_
    refine r_guard_f ?_
    exact out kb wb cs.toArray [] 0 (by simpa using hcs)
  · have hWw : W = walkGo { T := T, M := M, c := cr, root := M.down root, follow := follow } 300000 (beginW { T := T, M := M, c := cr, root := M.down root, follow := follow } from' (readP path).1) := by
      rw [← hW]
      unfold walkM
      rw [if_neg (by rw [hpl]; decide)]
      cases hr : readP path with
      | mk p e' =>
        rw [hr] at hre
        simp only at hre
        subst hre
        simp only
        rw [if_neg (by decide)]
    obtain ⟨hpp, hpl2⟩ := readP_parts hre
    have hj0 := jlen_parts path
    have hl0 := jlen_len (parts path)
    have hlsb : SlS (c :: pt b14 (.cells #[vi 0, vi 0, .string ⟨#[]⟩, vi 0, vi 0, .bool false, .bool false] 48) :: l1) lv ((beginW { T := T, M := M, c := cr, root := M.down root, follow := follow } from' (readP path).1).left.map vstr') := hls
    have hjb : jlen (beginW { T := T, M := M, c := cr, root := M.down root, follow := follow } from' (readP path).1).left ≤ 4098 := by
      show jlen (readP path).1.parts ≤ 4098
      rw [hpp]; omega
    have hsz : (beginW { T := T, M := M, c := cr, root := M.down root, follow := follow } from' (readP path).1).size < 300000 := by
      show ((40 : Int) - 0).toNat * 5000 + (readP path).1.parts.length < 300000
      rw [hpp]
      have : ((40 : Int) - 0).toNat = 40 := by decide
      rw [this]; omega
    have hlb : 0 ≤ (beginW { T := T, M := M, c := cr, root := M.down root, follow := follow } from' (readP path).1).links ∧ (beginW { T := T, M := M, c := cr, root := M.down root, follow := follow } from' (readP path).1).links ≤ 40 := ⟨Int.le_refl _, (show (0 : Int) ≤ 40 by decide)⟩
    generalize hBW : beginW { T := T, M := M, c := cr, root := M.down root, follow := follow } from' (readP path).1 = w0 at *
    generalize hEE : ({ T := T, M := M, c := cr, root := M.down root, follow := follow } : WEnv) = E at *
    have hET : E.T = T := by rw [← hEE]
    have hEM : E.M = M := by rw [← hEE]
    refine r_loop0 (fun k σ => ∃ (w : Wk) (lv : Value) (n : Int) (g : St), σ = pt kb (.cells (kC wb false {} 0) 174) :: pt wb (.cells (wC t m E w lv n) 176) :: (g ++ (pt b14 (.cells #[vi 0, vi 0, .string ⟨#[]⟩, vi 0, vi 0, .bool false, .bool false] 48) :: l1)) ∧ SlS (g ++ (pt b14 (.cells #[vi 0, vi 0, .string ⟨#[]⟩, vi 0, vi 0, .bool false, .bool false] 48) :: l1)) lv (w.left.map vstr') ∧ jlen w.left ≤ 4098 ∧ (0 ≤ w.links ∧ w.links ≤ 40) ∧ W = walkGo E k w ∧ w.size < k)
      300000 ⟨w0, lv, 0, [c], rfl, hlsb, hjb, hlb, hWw, hsz⟩ ?_
    rintro k σ ⟨w, lv, n, g, rfl, hls, hj, hlk, hWk, hk⟩
    obtain ⟨k, rfl⟩ : ∃ j, k = j + 1 := ⟨k - 1, by omega⟩
    refine wPart_ok (((hC1.there _).right g)) hET hEM hls hj hlk (fun f e hfe w' lv' n' => ?_) (fun s rest w' hleft hpw c lv' n' hs' => ?_)
    · have hWfe : W = (f, e) := by
        rw [hWk]
        cases hleft : w.left with
        | nil => rw [hleft] at hfe; rw [walk_end E k w hleft]; exact hfe
        | cons s rest =>
          rw [hleft] at hfe
          simp only at hfe
          rw [walk_run E k w s rest hleft, hfe]
      subst hWfe
      refine r_not ?_
      refine r_guard_f ?_
      exact out kb wb (wC t m E w' lv' n') g n' rfl
    · refine r_not ?_
      refine r_guard_t ?_
      have hjr : jlen rest ≤ 4098 := by rw [hleft] at hj; simp only [jlen] at hj; omega
      obtain ⟨a1, a2, -⟩ := partW_ok hpw hjr hlk
      have a3 := size_less hleft hpw hj hlk
      refine ⟨k, by omega, w', lv', n', c :: g, rfl, hs' _ hls, a1, a2, ?_, by omega⟩
      rw [hWk, walk_run E k w s rest hleft, hpw]
theorem Walk_ok (hC : Cx l t m T M β) (hp : path.length ≤ 2 ^ 40) (h : R (.tuple #[fV (walkM T M root from' cr path follow).1, vi (walkM T M root from' cr path follow).2]) l) :
    scall Tryz.prog 13 #[ptr t 0, ptr m 0, plV root, plV from', crV cr, vstr' path, .bool follow] R l := by
  refine scall_post (S13_ok ?_)
  unfold S13
  refine r_new fun b9 => ?_
  refine r_new fun b10 => ?_
  refine r_new fun b11 => ?_
  refine r_new fun b14 => ?_
  refine r_loadn (by exact kn) (by rfl) ?_
  refine r_loadn (by exact kn) (by rfl) ?_
  refine r_loadn (by exact kn) (by rfl) ?_
  refine walk_ok (root := root) (from' := from') (cr := cr) (follow := follow) (cs0 := []) ((((hC.there _).there _).there _).there _) hp (fun n => ?_)
  obtain ⟨W, hW⟩ : ∃ W, walkM T M root from' cr path follow = W := ⟨_, rfl⟩
  rw [hW] at h ⊢
  (repeat' (first | refine z0 ?_ | refine z1 ?_ | refine z2 ?_ | refine z3 ?_ | refine z4 ?_ | refine z5 ?_ | refine z6 ?_ | refine z7 (fun hg => ?_) (fun hg => ?_) | refine z8 (fun hg => ?_) (fun hg => ?_) | refine z9 ?_ | refine za ?_ | refine zb ?_ | refine zc ?_ | refine zd ?_ | refine ze ?_ | refine zf ?_ | refine zg ?_ | refine zh ?_ | refine zi (fun _ => ?_) | refine zj (fun _ => ?_) | refine zk ?_ | refine zl ?_ ?_ | refine zm ?_ | refine zn ?_ | refine zo ?_ | exact (rfl : _ = _)))
  exact ⟨l, by exact drp, h⟩
end
end Go.Sl
namespace Go.Sl
variable [Ghost]
open Go Go.Mo Go.Proofs
attribute [local irreducible] snil sfa sext sfield sguard sun sbin slen sload sstore snew snewObj sbuildR sbuildSlR smakeMapR smakeSlR slookup smapset srangeMap snext sentry scall scallv sextern sbuiltin sidx sindex sslice sconv srangeX sarg sand sjoin0 sjoin1 sjoin2 sloop0 sloop1 sloop2
theorem beta_inj {t : Nat} {T : Tree} {β : Int → Nat} {c : Chunk} {n k : Int} {x y : Nd} (hP : PTree t T β c) (hnd : (c.map Prod.fst).Nodup) (hx : T.at n = some x) (hy : T.at k = some y) (hne : n ≠ k) : β n ≠ β k := by
  obtain ⟨tt, tn, td, p, m, turns, es, clk, xs, cs, pc, nm, up, mc, nmd, upd, mcd, hpm, -⟩ := tree_open2 (r := []) (take_here c []) hP hx hy hne
  have h1 := (hpm.map Prod.fst).nodup_iff.1 (by simpa using hnd)
  intro e
  simp only [List.flatten_cons, List.map_append, pt, List.map_cons, List.map_nil, List.cons_append, List.nil_append, e] at h1
  have := (List.nodup_cons.1 h1).1
  exact this (List.mem_append.2 (.inr (.head _)))
theorem r_ptrEq {P : Program} {t : TypeId} {a b : Nat} {k : Value → SP} {l : St} (h : ∀ r : Bool, r = decide (a = b) → (a ≠ b → (∃ c t, Knows l a (.cells c t (0, 0)) ∧ 0 < c.size) ∧ (∃ c t, Knows l b (.cells c t (0, 0)) ∧ 0 < c.size)) ∧ k (.bool r) l) : sbin P .pointer t .eql (ptr a 0) (ptr b 0) k l := by
  obtain ⟨h1, h2⟩ := h _ rfl
  unfold sbin
  refine ⟨rfl, decide (a = b), ?_, h2⟩
  by_cases e : a = b
  · subst e
    exact .inl ⟨rfl, by simp⟩
  · exact .inr ⟨e, by simpa using e, (h1 e).1, (h1 e).2⟩
theorem r_ptrNe {P : Program} {t : TypeId} {a b : Nat} {k : Value → SP} {l : St} (h : ∀ r : Bool, r = decide (a = b) → (a ≠ b → (∃ c t, Knows l a (.cells c t (0, 0)) ∧ 0 < c.size) ∧ (∃ c t, Knows l b (.cells c t (0, 0)) ∧ 0 < c.size)) ∧ k (.bool (!r)) l) : sbin P .pointer t .neq (ptr a 0) (ptr b 0) k l := by
  obtain ⟨h1, h2⟩ := h _ rfl
  unfold sbin
  refine ⟨rfl, decide (a = b), ?_, h2⟩
  by_cases e : a = b
  · subst e
    exact .inl ⟨rfl, by simp⟩
  · exact .inr ⟨e, by simpa using e, (h1 e).1, (h1 e).2⟩
theorem NodeAt.known {l : St} {b : Nat} {n : Int} {x : Nd} (h : NodeAt l b n x) : ∃ c t, Knows l b (.cells c t (0, 0)) ∧ 0 < c.size := by
  obtain ⟨ty, up, nm, hk, -⟩ := h.cells
  exact ⟨_, _, hk, by simp⟩
theorem Small.reap {T : Tree} {n : Int} (h : Small T) : Small (T.reap n) := by
  have hat : ∀ m z, (T.reap n).at m = some z → T.at m = some z := fun m z => reap_some m
  refine ⟨?_, ?_, fun m z hz => h.names m z (hat m z hz), fun m z hz => h.links m z (hat m z hz), fun m z hz => h.holds m z (hat m z hz), ?_⟩
  · unfold Tree.reap
    split
    · exact h.all
    · split
      · exact h.all
      · show (T.put n none).all.length ≤ _
        rw [put_len]; exact h.all
  · unfold Tree.reap
    split
    · exact h.files
    · split
      · exact h.files
      · simp only
        split
        · show (seti T.pool.fs _ none).length ≤ _
          rw [seti_len]; exact h.files
        · exact h.files
  · unfold Tree.reap
    split
    · exact h.blocks
    · split
      · exact h.blocks
      · simp only
        split <;> exact h.blocks
theorem Small.less {T : Tree} {n dir : Int} {x d : Nd} {s : Str} (hS : Small T) (hx : T.at n = some x) (hd : T.at dir = some d) (hne : n ≠ dir) (hl1 : 1 ≤ x.links) : Small (T.less dir s n) := by
  have hx1 : ∀ d', (T.put dir (some d')).at n = some x := fun d' => by rw [put_at hd, if_neg hne]; exact hx
  have hl' : T.less dir s n = (T.put dir (some { d with names := delS s d.names })).put n (some { x with links := x.links - 1, up := if x.kind = 1 then n else x.up }) := by
    simp only [Tree.less, hd, hx1]
  have hhl := hS.links n x hx
  rw [hl']
  have hy : SmallN { x with links := x.links - 1, up := if x.kind = 1 then n else x.up } := ⟨hS.names n x hx, by show 0 ≤ x.links - 1 ∧ x.links - 1 ≤ 2 ^ 30; omega, hS.holds n x hx⟩
  have hy2 : SmallN { d with names := delS s d.names } := by
    have := hS.names dir d hd
    have h2 := delS_len s d.names
    exact ⟨by show (delS s d.names).length ≤ 2 ^ 30; omega, hS.links dir d hd, hS.holds dir d hd⟩
  exact Small.put (hS.put hd hy2) (hx1 _) hy
def whyOver (T : Tree) (x : Nd) (z : Option Nd) (dir to : Int) (e : Nd) : Int := match z with
  | some z => if x.kind = 1 ∧ z.kind ≠ 1 then 37 else if x.kind ≠ 1 ∧ z.kind = 1 then 38 else if z.names.length ≠ 0 then 47 else 0
  | none => if x.kind = 1 ∧ dir ≠ to ∧ 16 ≤ T.dirs to e then 44 else 0
section
variable {l : St} {t : Nat} {T : Tree} {β : Int → Nat} {n old dir to : Int} {x z d e : Nd} {R : Value → SP}
theorem tover_none (hT : TreeAt l t T β) (hS : Small T) (hx : NodeAt l (β n) n x) (hd : NodeAt l (β dir) dir d) (he : NodeAt l (β to) to e) (hat : T.at to = some e) (hek : e.kind = 1) (hne : dir ≠ to → β dir ≠ β to) (h : R (vi (whyOver T x none dir to e)) l) :
    scall Tryz.prog 91 #[ptr t 0, ptr (β n) 0, .pointer none, ptr (β dir) 0, ptr (β to) 0] R l := by
  refine S91_ok ?_
  obtain ⟨ty, up, nm, hk, -⟩ := hx.cells
  unfold S91
  have fin : ∀ k, whyOver T x none dir to e = k → R (vi k) l := fun k hk => hk ▸ h
  refine r_nil ?_
  refine r_fa ?_
  refine r_fa ?_
  refine r_load1 (x := vi x.kind) hk (by rfl) ?_
  refine r_bin (v := .bool (x.kind == 1)) (by rfl) ?_
  refine r_join1 ?_
  refine r_bin (v := .bool false) (by rfl) ?_
  refine r_guard_f ?_
  refine r_join1 ?_
  refine r_bin (v := .bool false) (by rfl) ?_
  refine r_guard_f ?_
  refine r_guard_f ?_
  refine r_join1 ?_
  refine r_guard_f ?_
  refine r_guard_f ?_
  refine r_join1 ?_
  refine r_guard_f ?_
  refine r_guard_f ?_
  refine r_join1 ?_
  by_cases hxk : x.kind = 1
  · have hb : (x.kind == 1) = true := by simpa using hxk
    rw [hb]
    refine r_guard_t ?_
    refine r_not ?_
    refine r_guard_t ?_
    refine r_ptrNe (fun r hr => ⟨fun _ => ⟨hd.known, he.known⟩, ?_⟩)
    by_cases hdt : dir = to
    · have : r = true := by rw [hr, hdt]; simp
      rw [this]
      refine r_guard_f ?_
      refine r_guard_f ?_
      exact fin 0 (by unfold whyOver; simp only; rw [if_neg (fun h => h.2.1 hdt)])
    · have : r = false := by rw [hr]; simpa using hne hdt
      rw [this]
      refine r_guard_t ?_
      refine tdirs_ok hT hS hat hek he ?_
      refine r_bin (by rfl) ?_
      refine r_guard_d (fun hg => ?_) (fun hg => ?_)
      · exact fin 44 (by unfold whyOver; simp only; rw [if_pos ⟨hxk, hdt, hg⟩])
      · exact fin 0 (by unfold whyOver; simp only; rw [if_neg (fun h => hg h.2.2)])
  · have hb : (x.kind == 1) = false := by simpa using hxk
    rw [hb]
    refine r_guard_f ?_
    refine r_guard_f ?_
    exact fin 0 (by unfold whyOver; simp only; rw [if_neg (fun h => hxk h.1)])
theorem tover_some {b1 b2 : Nat} (hx : NodeAt l (β n) n x) (hz : NodeAt l (β old) old z) (h : R (vi (whyOver T x (some z) dir to e)) l) :
    scall Tryz.prog 91 #[ptr t 0, ptr (β n) 0, ptr (β old) 0, ptr b1 0, ptr b2 0] R l := by
  refine S91_ok ?_
  obtain ⟨ty, up, nm, hk, -⟩ := hx.cells
  obtain ⟨ty2, up2, nm2, hk2, -, hnm⟩ := hz.cells
  unfold S91
  have fin : ∀ k, whyOver T x (some z) dir to e = k → R (vi k) l := fun k hk => hk ▸ h
  refine r_nil ?_
  refine r_fa ?_
  refine r_fa ?_
  refine r_load1 (x := vi x.kind) hk (by rfl) ?_
  refine r_bin (v := .bool (x.kind == 1)) (by rfl) ?_
  refine r_join1 ?_
  refine r_bin (v := .bool true) (by rfl) ?_
  refine r_guard_t ?_
  refine r_nil ?_
  refine r_fa ?_
  refine r_fa ?_
  refine r_load1 (x := vi z.kind) hk2 (by rfl) ?_
  refine r_bin (v := .bool (z.kind == 1)) (by rfl) ?_
  refine r_join1 ?_
  refine r_bin (v := .bool true) (by rfl) ?_
  refine r_guard_t ?_
  by_cases hxk : x.kind = 1
  · have hb : (x.kind == 1) = true := by simpa using hxk
    rw [hb]
    refine r_guard_t ?_
    by_cases hzk : z.kind = 1
    · have hb2 : (z.kind == 1) = true := by simpa using hzk
      rw [hb2]
      obtain ⟨-, m, es, clk, rfl, hkm, hm⟩ | ⟨h1, -⟩ := hnm
      rotate_left
      · exact absurd hzk h1
      have hsz : (es.size : Int) = z.names.length := by rw [hm.size]; simp [namesK]
      refine r_not ?_
      refine r_guard_f ?_
      refine r_join1 ?_
      refine r_guard_t ?_
      refine r_not ?_
      refine r_guard_f ?_
      refine r_join1 ?_
      refine r_guard_t ?_
      refine r_nil ?_
      refine r_fa ?_
      refine r_load1 (x := .map (some m)) hk2 (by rfl) ?_
      refine r_len_map hkm ?_
      refine r_bin (by rfl) ?_
      refine r_guard_d (fun hg => ?_) (fun hg => ?_)
      · exact fin 47 (by unfold whyOver; simp only; rw [if_neg (fun h => h.2 hzk), if_neg (fun h => h.1 hxk), if_pos (by omega)])
      · refine r_join1 ?_
        refine r_guard_t ?_
        refine r_not ?_
        refine r_guard_f ?_
        refine r_guard_f ?_
        exact fin 0 (by unfold whyOver; simp only; rw [if_neg (fun h => h.2 hzk), if_neg (fun h => h.1 hxk), if_neg (by omega)])
    · have hb2 : (z.kind == 1) = false := by simpa using hzk
      rw [hb2]
      refine r_not ?_
      refine r_guard_t ?_
      exact fin 37 (by unfold whyOver; simp only; rw [if_pos ⟨hxk, hzk⟩])
  · have hb : (x.kind == 1) = false := by simpa using hxk
    rw [hb]
    refine r_guard_f ?_
    refine r_guard_f ?_
    refine r_join1 ?_
    by_cases hzk : z.kind = 1
    · have hb2 : (z.kind == 1) = true := by simpa using hzk
      rw [hb2]
      refine r_guard_t ?_
      refine r_not ?_
      refine r_guard_t ?_
      exact fin 38 (by unfold whyOver; simp only; rw [if_neg (fun h => hxk h.1), if_pos ⟨hxk, hzk⟩])
    · have hb2 : (z.kind == 1) = false := by simpa using hzk
      obtain ⟨h1, -⟩ | ⟨-, -, hzn⟩ := hnm
      · exact absurd h1 hzk
      rw [hb2]
      refine r_guard_f ?_
      refine r_guard_f ?_
      refine r_join1 ?_
      refine r_guard_f ?_
      refine r_guard_f ?_
      refine r_join1 ?_
      refine r_guard_f ?_
      refine r_guard_f ?_
      exact fin 0 (by unfold whyOver; simp only; rw [if_neg (fun h => hxk h.1), if_neg (fun h => hzk h.2), if_neg (by rw [hzn]; simp)])
end
end Go.Sl
namespace Go.Sl
variable [Ghost]
open Go Go.Mo Go.Proofs
attribute [local irreducible] snil sfa sext sfield sguard sun sbin slen sload sstore snew snewObj sbuildR sbuildSlR smakeMapR smakeSlR slookup smapset srangeMap snext sentry scall scallv sextern sbuiltin sidx sindex sslice sconv srangeX sarg sand sjoin0 sjoin1 sjoin2 sloop0 sloop1 sloop2
section
variable {l r : St} {t : Nat} {T : Tree} {β : Int → Nat} {c : Chunk} {n old dir to : Int} {x z d e : Nd} {s s2 : Str} {R : Value → SP}
theorem move_tail (hP : PTree t T β c) (hS : Small T) (hd : T.at dir = some d) (hdk : d.kind = 1) (hs : getS s d.names = some n) (hx : T.at n = some x) (hne : n ≠ dir) (hl1 : 1 ≤ x.links) (hw1 : x.kind = 1 → n ≠ 1 ∧ x.links = 1)
    (he : (T.less dir s n).at to = some e) (hek : e.kind = 1) (hnt : n ≠ to) (hs2 : getS s2 e.names = none) (h : ∀ c', PTree t ((T.less dir s n).give to s2 n) β c' → R (vi 0) (c' :: r)) :
    (snil (ptr (β dir) 0) fun v102 =>
    sfa 7 v102 fun v103 =>
    sload none v103 fun v104 =>
    sbuiltin Tryz.prog .delete #[111, 9] 0 #[false, false] #[v104, vstr' s] fun _ =>
    snil (ptr (β n) 0) fun v107 =>
    sfa 9 v107 fun v108 =>
    sload none v108 fun v109 =>
    sbin Tryz.prog .none 3 .sub v109 (.int .i64 1) fun v110 =>
    snil (ptr (β n) 0) fun v111 =>
    sfa 9 v111 fun v112 =>
    sstore 1 v112 v110 <|
    scall Tryz.prog 77 #[ptr t 0, ptr (β to) 0, vstr' s2, ptr (β n) 0] fun _ => R (vi 0)) (c :: r) := by
  obtain ⟨tt, tn, td, p, m, turns, es, clk, xs, cs, pc, nm, up, mc, nmd, upd, mcd, hpm, hxs, hm, hns, hpp, hnm, hup, hnmd, hupd⟩ := tree_open2 (take_here c r) hP hx hd hne
  have hhl := hS.links n x hx
  have hw : IntKind.i64.wrap (x.links - 1) = x.links - 1 := wrap_id (by omega) (by omega)
  obtain ⟨-, md, esd, clkd, rfl, rfl, hmd⟩ | ⟨hne2, -⟩ := hnmd
  rotate_left
  · exact absurd hdk hne2
  have hk1 : Knows (c :: r) (β dir) (.cells (nCells dir d (.map (some md)) upd) td) := by
    unfold Knows; exact hpm.mem_iff.2 (by simp [pt])
  have hk2 : Knows (c :: r) md (.map esd clkd) := by
    unfold Knows; exact hpm.mem_iff.2 (by simp [pt])
  have hx1 : ∀ d', (T.put dir (some d')).at n = some x := fun d' => by rw [put_at hd, if_neg hne]; exact hx
  have hl' : T.less dir s n = (T.put dir (some { d with names := delS s d.names })).put n (some { x with links := x.links - 1, up := if x.kind = 1 then n else x.up }) := by
    simp only [Tree.less, hd, hx1]
  refine r_nil ?_
  refine r_fa ?_
  refine r_load1 (x := .map (some md)) hk1 (by rfl) ?_
  refine r_delete (K := kStr) (a := s) (kt := 9) (ety := 3) (by kernel_rfl) (by kernel_rfl) (.inr rfl) hk2 hmd (fun es' hm' => ⟨pt (β n) (.cells (nCells n x nm up) tn) :: mc :: pt (β dir) (.cells (nCells dir d (.map (some md)) upd) td) :: [(md, .map es' clkd)] :: pt t (.cells (tCells T p m turns) tt) :: pt m (.map es clk) :: pc :: cs :: r,
    change_perm (o := .map esd clkd) (d := (pt (β n) (.cells (nCells n x nm up) tn) :: mc :: pt (β dir) (.cells (nCells dir d (.map (some md)) upd) td) :: pt t (.cells (tCells T p m turns) tt) :: pt m (.map es clk) :: pc :: cs :: r).flatten) ?_ ?_, ?_⟩)
  · refine hpm.trans (perm_of_ct fun a => ?_)
    simp only [List.flatten_cons, List.flatten_append, List.flatten_nil, ct_append, ct_cons, ct_nil, pt, vi, ptr, vstr', Value.cells, tCells, nCells, List.append_nil]
    omega
  · refine perm_of_ct fun a => ?_
    simp only [List.flatten_cons, List.flatten_append, List.flatten_nil, ct_append, ct_cons, ct_nil, pt, vi, ptr, vstr', Value.cells, tCells, nCells, List.append_nil]
    omega
  rw [← delS_namesK] at hm'
  refine r_nil ?_
  refine r_fa ?_
  refine r_load1 (x := vi x.links) (knows_pt _ _ _) (by rfl) ?_
  refine r_bin (by rfl) ?_
  rw [hw]
  refine r_nil ?_
  refine r_fa ?_
  refine r_store (l' := pt (β n) (.cells (nCells n { x with links := x.links - 1, up := if x.kind = 1 then n else x.up } nm up) tn) :: mc :: pt (β dir) (.cells (nCells dir { d with names := delS s d.names } (.map (some md)) upd) td) :: [(md, .map es' clkd)] :: pt t (.cells (tCells T p m turns) tt) :: pt m (.map es clk) :: pc :: cs :: r) (knows_pt _ _ _) (by rfl) (by rfl) (by rfl) (by rfl) (change_pt _ _ _ _) ?_
  have hP1 := tree_shut2 (t := t) (x := x) (d := d) (m := m) (x' := { x with links := x.links - 1, up := if x.kind = 1 then n else x.up }) (d' := { d with names := delS s d.names }) (tn := tn) (tt := tt) (td := td) (turns := turns) (nm := nm) (nmd := .map (some md)) (mcd := [(md, .map es' clkd)]) (upd := upd) (mc := mc) (up := up) hx hd hne hxs hm hns hpp
    hnm (by
      intro hk1
      obtain ⟨h1, h2⟩ := hw1 hk1
      have : namedB n { x with links := x.links - 1, up := if x.kind = 1 then n else x.up } = false := by simp [namedB, h1, h2]
      rw [this, if_neg (by simp)]
      show n = if x.kind = 1 then n else x.up
      rw [if_pos hk1]) (.inl ⟨hdk, md, es', clkd, rfl, rfl, hm'⟩) hupd
  rw [← hl'] at hP1
  have hx2 : (T.less dir s n).at n = some { x with links := x.links - 1, up := if x.kind = 1 then n else x.up } := by rw [hl', put_at (hx1 _), if_pos rfl]
  refine scall_close [_, _, _, _, _, _, _, _] r ?_
  exact tgive_ok (take_here _ _) hP1 (hS.less hx hd hne hl1) hx2 he hek hnt hs2 (fun c' v hc' => h c' hc')
theorem move_none (hd : T.dir dir = none) : T.move dir s to s2 = (T, 1) := by
  unfold Tree.move; rw [hd]
theorem move_none2 (he : T.dir to = none) : T.move dir s to s2 = (T, 1) := by
  unfold Tree.move
  cases T.dir dir with
  | none => rfl
  | some d => rw [he]
theorem tmove_ok (hk : Take l c r) (hP : PTree t T β c) (g : Good 0 T) (hS : Small T) (h : ∀ c', PTree t (T.move dir s to s2).1 β c' → R (vi (T.move dir s to s2).2) (c' :: r)) :
    scall Tryz.prog 42 #[ptr t 0, vi dir, vstr' s, vi to, vstr' s2] R l := by
  refine scall_perm (l' := c :: r) (by rw [List.flatten_cons]; exact hk) (scall_post (scall_nodup fun hnd => S42_ok ?_))
  have hndc : (c.map Prod.fst).Nodup := by
    rw [List.flatten_cons, List.map_append] at hnd
    exact (List.nodup_append.1 hnd).1
  have hT := tree_at (take_here c r) hP
  obtain ⟨ty', p, m', turns, es', clk', xs, hk', hkm', hm', hatt, -, hxs⟩ := hT.open
  have fin : ∀ e : Int, T.move dir s to s2 = (T, e) → ∃ l2, Ent (c :: r) l2 ∧ R (vi e) l2 := fun e hm => by
    rw [hm] at h
    exact ⟨_, .refl _, h c hP⟩
  unfold S42
  refine tdir_ok hT (fun d hd hda hdk hdn => ?_) (fun hd => ?_)
  rotate_left
  · refine tdir_ok hT (fun _ _ _ _ _ => ?_) (fun _ => ?_)
    all_goals
      refine r_join1 ?_
      refine r_bin (v := .bool true) (by rfl) ?_
      refine r_guard_t ?_
      refine r_guard_t ?_
      exact fin 1 (move_none hd)
  refine tdir_ok hT (fun e he hea hek hen => ?_) (fun he => ?_)
  rotate_left
  · refine r_join1 ?_
    refine r_bin (v := .bool false) (by rfl) ?_
    refine r_guard_f ?_
    refine r_bin (v := .bool true) (by rfl) ?_
    refine r_guard_t ?_
    refine r_guard_t ?_
    exact fin 1 (move_none2 he)
  refine r_join1 ?_
  refine r_bin (v := .bool false) (by rfl) ?_
  refine r_guard_f ?_
  refine r_bin (v := .bool false) (by rfl) ?_
  refine r_guard_f ?_
  refine right_ok ?_
  refine r_not ?_
  have hmv : T.move dir s to s2 = (if !rightN s2 then (T, 1) else match getS s d.names with
    | none => (T, 32)
    | some n =>
      if !namedB to e then (T, 32)
      else match T.at n with
      | none => (T, 1)
      | some x =>
        if x.kind = 1 && (to = n || T.within to n) then (T, 39)
        else match getS s2 e.names with
        | some old => if old = n then (T, 0) else match T.at old with
          | none => (T, 1)
          | some y =>
            if x.kind = 1 && y.kind != 1 then (T, 37)
            else if x.kind != 1 && y.kind = 1 then (T, 38)
            else if y.names.length != 0 then (T, 47)
            else (((T.take to s2 old).less dir s n).give to s2 n, 0)
        | none =>
          if x.kind = 1 && dir != to && 16 ≤ T.dirs to e then (T, 44)
          else ((T.less dir s n).give to s2 n, 0) : Tree × Int) := by
    unfold Tree.move; rw [hd, he]
    rfl
  cases hr : rightN s2 with
  | false =>
    rw [hr] at hmv
    refine r_guard_t ?_
    exact fin 1 hmv
  | true =>
  rw [hr] at hmv
  simp only [Bool.not_true, Bool.false_eq_true, if_false] at hmv
  refine r_guard_f ?_
  obtain ⟨tyd, upd, md, esd, clkd, hkd, hud, hkmd, hmd⟩ := hdn.dirCells hdk
  obtain ⟨tye, upe, me, ese, clke, hke, hue, hkme, hme⟩ := hen.dirCells hek
  refine r_nil ?_
  refine r_fa ?_
  refine r_load1 (x := .map (some md)) hkd (by rfl) ?_
  refine r_name hkmd hmd (fun n hn => ?_) (fun hn => ?_)
  rotate_left
  · rw [hn] at hmv
    refine r_ext (by rfl) ?_
    refine r_ext (by rfl) ?_
    refine r_join1 ?_
    refine r_not ?_
    refine r_guard_t ?_
    refine r_guard_t ?_
    exact fin 32 hmv
  rw [hn] at hmv
  simp only at hmv
  refine r_ext (by rfl) ?_
  refine r_ext (by rfl) ?_
  refine r_join1 ?_
  refine r_not ?_
  refine r_guard_f ?_
  refine named_ok hen ?_
  refine r_not ?_
  cases hnb : namedB to e with
  | false =>
    rw [hnb] at hmv
    refine r_guard_t ?_
    exact fin 32 hmv
  | true =>
  rw [hnb] at hmv
  simp only [Bool.not_true, Bool.false_eq_true, if_false] at hmv
  refine r_guard_f ?_
  obtain ⟨x, hx, hl1, hne, hw1⟩ := g.names.live dir d s n hd hn
  have hxn := hatt n x hx
  rw [hx] at hmv
  simp only at hmv
  unfold sjoin1
  refine ⟨fun vs σ => vs = [.bool (x.kind = 1 && (to = n || T.within to n))] ∧ σ = c :: r, ?_, ?_⟩
  rotate_left
  · refine tdir_ok hT (fun x' hx' _ hxk _ => ?_) (fun hx' => ?_)
    · have hxx : x = x' := by
        have := (dir_at hx').1
        rw [hx] at this; exact Option.some.inj this
      subst hxx
      refine r_bin (v := .bool true) (by rfl) ?_
      refine r_guard_t ?_
      refine r_bin (v := .bool (n == to)) (by rfl) ?_
      by_cases hnt : n = to
      · have : (n == to) = true := by simpa using hnt
        rw [this]
        refine r_guard_t ?_
        refine ⟨?_, rfl⟩
        have : (decide (x.kind = 1) && (decide (to = n) || T.within to n)) = true := by simp [hxk, hnt]
        rw [this]
      · have : (n == to) = false := by simpa using hnt
        rw [this]
        refine r_guard_f ?_
        refine twithin_ok hT (g.ends to) ?_
        refine ⟨?_, rfl⟩
        have : (decide (x.kind = 1) && (decide (to = n) || T.within to n)) = T.within to n := by
          have h2 : ¬ to = n := fun e => hnt e.symm
          simp [hxk, h2]
        rw [this]
    · have hxk : ¬ x.kind = 1 := fun hk => by
        have : T.dir n = some x := by simp [Tree.dir, hx, hk]
        rw [this] at hx'; cases hx'
      refine r_bin (v := .bool false) (by rfl) ?_
      refine r_guard_f ?_
      refine ⟨?_, rfl⟩
      have : (decide (x.kind = 1) && (decide (to = n) || T.within to n)) = false := by simp [hxk]
      rw [this]
  rintro v σ ⟨hv, rfl⟩
  cases hv
  cases hin : (decide (x.kind = 1) && (decide (to = n) || T.within to n)) with
  | true =>
    rw [hin] at hmv
    refine r_guard_t ?_
    exact fin 39 hmv
  | false =>
  rw [hin] at hmv
  simp only [Bool.false_eq_true, if_false] at hmv
  have hnt : n ≠ to := fun e1 => by
    subst e1
    rw [hea] at hx; cases hx
    simp [hek] at hin
  refine r_guard_f ?_
  refine r_nil ?_
  refine r_fa ?_
  refine r_load1 (x := .map (some m')) hk' (by rfl) ?_
  refine r_all hkm' hm' hxs (fun x' hx' => ?_) (fun hx' => by rw [hx] at hx'; cases hx')
  refine r_nil ?_
  refine r_fa ?_
  refine r_load1 (x := .map (some m')) hk' (by rfl) ?_
  refine r_nil ?_
  refine r_fa ?_
  refine r_load1 (x := .map (some me)) hke (by rfl) ?_
  refine r_name1 hkme hme ?_
  have hat0 : T.at 0 = none := rfl
  cases hold : getS s2 e.names with
  | none =>
    rw [hold] at hmv
    simp only at hmv
    refine r_all hkm' hm' hxs (fun y hy => by rw [show (none : Option Int).getD 0 = 0 from rfl, hat0] at hy; cases hy) (fun _ => ?_)
    refine r_bin (v := .bool false) (by rfl) ?_
    refine r_guard_f ?_
    refine tover_none hT hS hxn hdn hen hea hek (fun hdt => beta_inj hP hndc hda hea hdt) ?_
    have hwhy : whyOver T x none dir to e = if (x.kind = 1 && dir != to && 16 ≤ T.dirs to e) = true then 44 else 0 := by
      unfold whyOver
      simp only [Bool.and_eq_true, decide_eq_true_eq, bne_iff_ne, ne_eq, and_assoc]
    rw [hwhy]
    refine r_bin (by rfl) ?_
    by_cases hc : (x.kind = 1 && dir != to && 16 ≤ T.dirs to e) = true
    · rw [if_pos hc] at hmv
      rw [if_pos hc]
      refine r_guard_t ?_
      exact fin 44 hmv
    · rw [if_neg hc] at hmv
      rw [if_neg hc]
      refine r_guard_f ?_
      refine r_join0 ?_
      refine r_bin (v := .bool false) (by rfl) ?_
      refine r_guard_f ?_
      rw [hmv] at h
      have hat := less_at (s := s) hda hx hne
      obtain ⟨e2, he2, he2k, he2n⟩ : ∃ e2, (T.less dir s n).at to = some e2 ∧ e2.kind = 1 ∧ getS s2 e2.names = none := by
        rw [hat, if_neg (fun e => hnt e.symm)]
        by_cases hdt : to = dir
        · subst hdt
          rw [hda] at hea; cases hea
          rw [if_pos rfl]
          exact ⟨_, rfl, hdk, getS_del_none hold⟩
        · rw [if_neg hdt]; exact ⟨e, hea, hek, hold⟩
      exact move_tail (R := fun v l' => ∃ l2, Ent l' l2 ∧ R v l2) hP hS hda hdk hn hx hne hl1 hw1 he2 he2k hnt he2n (fun c' hc' => ⟨_, .refl _, h c' hc'⟩)
  | some old =>
    rw [hold] at hmv
    simp only at hmv
    obtain ⟨z, hz, hzl1, hzne, hzw⟩ := g.names.live to e s2 old he hold
    have hzn := hatt old z hz
    refine r_all hkm' hm' hxs (fun y hy => ?_) (fun hy => by rw [show (some old).getD 0 = old from rfl, hz] at hy; cases hy)
    rw [show (some old).getD 0 = old from rfl]
    refine r_ptrEq (fun rb hrb => ⟨fun _ => ⟨hxn.known, hzn.known⟩, ?_⟩)
    by_cases hon : old = n
    · subst hon
      rw [if_pos rfl] at hmv
      have : rb = true := by rw [hrb]; simp
      rw [this]
      refine r_guard_t ?_
      exact fin 0 hmv
    rw [if_neg hon, hz] at hmv
    simp only at hmv
    have : rb = false := by rw [hrb]; simpa using beta_inj hP hndc hx hz (fun e => hon e.symm)
    rw [this]
    refine r_guard_f ?_
    refine tover_some (T := T) (dir := dir) (to := to) (e := e) hxn hzn ?_
    refine r_bin (v := .bool (whyOver T x (some z) dir to e != 0)) (by rfl) ?_
    have hwhy : whyOver T x (some z) dir to e = if x.kind = 1 ∧ z.kind ≠ 1 then 37 else if x.kind ≠ 1 ∧ z.kind = 1 then 38 else if z.names.length ≠ 0 then 47 else 0 := rfl
    by_cases hc1 : x.kind = 1 ∧ z.kind ≠ 1
    · rw [if_pos hc1] at hwhy
      rw [hwhy]
      rw [if_pos (by simpa using hc1)] at hmv
      refine r_guard_t ?_
      exact fin 37 hmv
    rw [if_neg hc1] at hwhy
    rw [if_neg (by simpa using hc1)] at hmv
    by_cases hc2 : x.kind ≠ 1 ∧ z.kind = 1
    · rw [if_pos hc2] at hwhy
      rw [hwhy]
      rw [if_pos (by simpa using hc2)] at hmv
      refine r_guard_t ?_
      exact fin 38 hmv
    rw [if_neg hc2] at hwhy
    rw [if_neg (by simpa using hc2)] at hmv
    by_cases hc3 : z.names.length ≠ 0
    · rw [if_pos hc3] at hwhy
      rw [hwhy]
      rw [if_pos (by simpa using hc3)] at hmv
      refine r_guard_t ?_
      exact fin 47 hmv
    rw [if_neg hc3] at hwhy
    rw [if_neg (by simpa using hc3)] at hmv
    rw [hwhy]
    refine r_guard_f ?_
    refine r_join0 ?_
    refine r_bin (v := .bool true) (by rfl) ?_
    refine r_guard_t ?_
    rw [hmv] at h
    have hzn0 : z.names = [] := by simpa using hc3
    refine ttake_ok (take_here c r) hP hS hz hea hek hzne hold hzl1 hzw (fun c1 v1 hP1 => ?_)
    have hod : dir ≠ old := fun e => by
      subst e; rw [hda] at hz; cases hz
      rw [hzn0] at hn; cases hn
    have hat1 := take_at (s := s2) hea hz hzne
    have hsa : s = s2 → dir ≠ to := fun e1 e2 => by
      subst e1; subst e2
      rw [hda] at hea; cases hea
      rw [hn] at hold; cases hold
      exact hon rfl
    have hx2 : (T.take to s2 old).at n = some x := by rw [hat1 n (fun e => hon e.symm), if_neg hnt]; exact hx
    have ht2 : (T.take to s2 old).at to = some { e with names := delS s2 e.names } := by rw [hat1 to (fun e => hzne e.symm), if_pos rfl]
    obtain ⟨d2, hd2, hd2k, hs2⟩ : ∃ d2, (T.take to s2 old).at dir = some d2 ∧ d2.kind = 1 ∧ getS s d2.names = some n := by
      rw [hat1 dir hod]
      by_cases e9 : dir = to
      · rw [if_pos e9]
        subst e9
        rw [hda] at hea; cases hea
        exact ⟨_, rfl, hdk, by rw [getS_del_ne fun e => hsa e rfl]; exact hn⟩
      · rw [if_neg e9]; exact ⟨d, hda, hdk, hn⟩
    have hat := less_at (s := s) hd2 hx2 hne
    obtain ⟨e2, he2, he2k, he2n⟩ : ∃ e2, ((T.take to s2 old).less dir s n).at to = some e2 ∧ e2.kind = 1 ∧ getS s2 e2.names = none := by
      rw [hat, if_neg (fun e => hnt e.symm)]
      by_cases hdt : to = dir
      · subst hdt
        rw [hd2] at ht2; cases ht2
        rw [if_pos rfl]
        exact ⟨_, rfl, hek, getS_del_none (getS_del_self (g.row to e hea))⟩
      · rw [if_neg hdt, ht2]; exact ⟨_, rfl, hek, getS_del_self (g.row to e hea)⟩
    have hS1 : Small (T.take to s2 old) := (hS.less hz hea hzne hzl1).reap
    exact move_tail (R := fun v l' => ∃ l2, Ent l' l2 ∧ R v l2) hP1 hS1 hd2 hd2k hs2 hx2 hne hl1 hw1 he2 he2k hnt he2n (fun c' hc' => ⟨_, .refl _, h c' hc'⟩)
end
end Go.Sl
namespace Go.Sl
variable [Ghost]
open Go Go.Mo Go.Proofs
attribute [local irreducible] snil sfa sext sfield sguard sun sbin slen sload sstore snew snewObj sbuildR sbuildSlR smakeMapR smakeSlR slookup smapset srangeMap snext sentry scall scallv sextern sbuiltin sidx sindex sslice sconv srangeX sarg sand sjoin0 sjoin1 sjoin2 sloop0 sloop1 sloop2
structure DR where
  t : Nat
  m : Nat
  root : Plc
  who : Who
  c : NCall
  dv : Value
  uf : Value
  f : Fnd := {}
  g : Fnd := {}
  rd : Value := .slice none 0 0
  rn : Value := .slice none 0 0
  rs : Stt := {}
  pl : Plc := {}
abbrev dC (d : DR) : Array Value := #[ptr d.t 0, ptr d.m 0, vi d.root.mount, vi d.root.node, vi d.who.cwd.mount, vi d.who.cwd.node, vi d.who.cred.uid, vi d.who.cred.gid,
  vi d.c.op, vstr' d.c.path, vstr' d.c.to, vi d.c.fd, vi d.c.flags, vi d.c.mode, vi d.c.n, vi d.c.m, d.dv, d.uf,
  vi d.f.dir.mount, vi d.f.dir.node, vstr' d.f.last, vi d.f.pl.mount, vi d.f.pl.node, .bool d.f.has, .bool d.f.slash,
  vi d.g.dir.mount, vi d.g.dir.node, vstr' d.g.last, vi d.g.pl.mount, vi d.g.pl.node, .bool d.g.has, .bool d.g.slash,
  vi 0, vi 0, d.rd, d.rn, vi d.rs.node, vi d.rs.kind, vi d.rs.mode, vi d.rs.uid, vi d.rs.gid, vi d.rs.links, vi d.rs.size, vi d.pl.mount, vi d.pl.node]
def firstE : List Int → Int
  | [] => 0
  | e :: r => if e ≠ 0 then e else firstE r
def Fits (P : Program) (l : St) : List Value → List Int → Prop
  | [], [] => True
  | κ :: K, e :: W => (∀ R : Value → SP, R (vi e) l → scallv P κ #[] R l) ∧ Fits P l K W
  | _, _ => False
theorem Fits.len {P : Program} {l : St} : ∀ {K : List Value} {W : List Int}, Fits P l K W → K.length = W.length
  | [], [], _ => rfl
  | κ :: K, e :: W, h => by simp only [List.length_cons]; rw [Fits.len h.2]
  | [], _ :: _, h => h.elim
  | _ :: _, [], h => h.elim
theorem Fits.get {P : Program} {l : St} : ∀ {K : List Value} {W : List Int} (i : Nat), Fits P l K W → i < K.length → ∃ κ e, K[i]? = some κ ∧ W[i]? = some e ∧ ∀ R : Value → SP, R (vi e) l → scallv P κ #[] R l
  | κ :: K, e :: W, 0, h, _ => ⟨κ, e, rfl, rfl, h.1⟩
  | κ :: K, e :: W, i + 1, h, hi => by
    obtain ⟨a, b, h1, h2, h3⟩ := Fits.get i h.2 (by simpa using hi)
    exact ⟨a, b, by simpa using h1, by simpa using h2, h3⟩
  | [], [], _, _, hi => absurd hi (by simp)
  | [], _ :: _, _, h, _ => h.elim
  | _ :: _, [], _, h, _ => h.elim
theorem firstE_at : ∀ {W : List Int} {i : Nat} {e : Int}, (∀ j < i, W[j]? = some 0) → W[i]? = some e → e ≠ 0 → firstE W = e
  | [], i, e, _, h, _ => by simp at h
  | a :: W, 0, e, _, h, he => by
    simp at h; subst h
    simp [firstE, he]
  | a :: W, i + 1, e, h0, h, he => by
    have ha : a = 0 := by have := h0 0 (by omega); simpa using this
    subst ha
    have := firstE_at (W := W) (i := i) (e := e) (fun j hj => by have := h0 (j + 1) (by omega); simpa using this) (by simpa using h) he
    simpa [firstE] using this
theorem firstE_none : ∀ {W : List Int}, (∀ j < W.length, W[j]? = some 0) → firstE W = 0
  | [], _ => rfl
  | a :: W, h0 => by
    have ha : a = 0 := by have := h0 0 (by simp); simpa using this
    subst ha
    have := firstE_none (W := W) (fun j hj => by have := h0 (j + 1) (by simp; omega); simpa using this)
    simpa [firstE] using this
section
variable {l : St} {db : Nat} {d : DR} {T : Tree} {M : Tab} {β : Int → Nat} {ty : TypeId} {n want : Int} {p : Plc} {f : Fnd} {path : Str} {follow : Bool} {R : Value → SP}
theorem checks_ok {v : Value} {K : List Value} {W : List Int} {J : List Value → SP} (hs : SlS l v K) (hf : Fits Tryz.prog l K W) (hn : K.length ≤ 2 ^ 20) (h : J [vi (firstE W)] l) :
    (slen .slice v fun v32 =>
  sloop2 (.int .i64 0) (.int .i64 0) fun I2 v2_1 v33 =>
    sbin Tryz.prog .none 3 .lss v33 v32 fun v34 =>
    sguard v34 (
    sidx none 1 v v33 fun v35 =>
    sload none v35 fun v36 =>
    scallv Tryz.prog v36 #[] fun v38 =>
    sbin Tryz.prog .none 49 .neq v38 (.int .i64 0) fun v40 =>
    sguard v40 (
  J [v38]) (
    sbin Tryz.prog .none 3 .add v33 (.int .i64 1) fun v41 =>
    I2 [v38, v41])) (
  J [v2_1])) l := by
  refine r_sslen hs ?_
  refine r_loop2 (fun k u w σ => ∃ i : Nat, σ = l ∧ u = vi 0 ∧ w = vi i ∧ i ≤ K.length ∧ k = K.length - i ∧ ∀ j < i, W[j]? = some 0) K.length ⟨0, rfl, rfl, rfl, Nat.zero_le _, rfl, fun j hj => absurd hj (by omega)⟩ ?_
  rintro k u w σ ⟨i, hσ, rfl, rfl, hi, rfl, h0⟩
  have hσ' := hσ.symm
  subst hσ'
  refine r_bin (by rfl) ?_
  refine r_guard_d (fun hg => ?_) (fun hg => ?_)
  · have hlt : i < K.length := by omega
    obtain ⟨κ, e, h1, h2, h3⟩ := hf.get i hlt
    refine r_ssget hs h1 ?_
    refine h3 _ ?_
    refine r_bin (v := .bool (e != 0)) (by rfl) ?_
    by_cases he : e = 0
    · have : (e != 0) = false := by simpa using he
      rw [this]
      refine r_guard_f ?_
      refine r_bin (by rfl) ?_
      have hw : IntKind.i64.wrap ((i : Int) + 1) = ((i + 1 : Nat) : Int) := by rw [wrap_id (by omega) (by omega)]; simp
      rw [hw]
      refine ⟨K.length - (i + 1), by omega, i + 1, rfl, by rw [he], rfl, by omega, rfl, fun j hj => ?_⟩
      by_cases hji : j = i
      · rw [hji, h2, he]
      · exact h0 j (by omega)
    · have : (e != 0) = true := bne_iff_ne.2 he
      rw [this]
      refine r_guard_t ?_
      rw [firstE_at h0 h2 he] at h
      exact h
  · have hiL : i = K.length := by omega
    rw [firstE_none (fun j hj => h0 j (by rw [hiL, hf.len]; exact hj))] at h
    exact h
theorem first_ok {v : Value} {W : List Int} (hs : SlS l v (W.map vi)) (hn : W.length ≤ 2 ^ 20) (h : R (vi (firstE W)) l) : scall Tryz.prog 185 #[v] R l := by
  refine S185_ok ?_
  unfold S185
  refine r_sslen hs ?_
  refine r_loop1 (fun k w σ => ∃ i : Nat, σ = l ∧ w = vi i ∧ i ≤ W.length ∧ k = W.length - i ∧ ∀ j < i, W[j]? = some 0) W.length ⟨0, rfl, rfl, Nat.zero_le _, rfl, fun j hj => absurd hj (by omega)⟩ ?_
  rintro k w σ ⟨i, hσ, rfl, hi, rfl, h0⟩
  have hσ' := hσ.symm
  subst hσ'
  refine r_bin (by rfl) ?_
  rw [List.length_map]
  refine r_guard_d (fun hg => ?_) (fun hg => ?_)
  · have hlt : i < W.length := by omega
    obtain ⟨e, he2⟩ : ∃ e, W[i]? = some e := ⟨_, List.getElem?_eq_getElem hlt⟩
    refine r_ssget hs (x := vi e) (by simp [he2]) ?_
    refine r_bin (v := .bool (e != 0)) (by rfl) ?_
    by_cases he : e = 0
    · have : (e != 0) = false := by simpa using he
      rw [this]
      refine r_guard_f ?_
      refine r_bin (by rfl) ?_
      have hw : IntKind.i64.wrap ((i : Int) + 1) = ((i + 1 : Nat) : Int) := by rw [wrap_id (by omega) (by omega)]; simp
      rw [hw]
      refine ⟨W.length - (i + 1), by omega, i + 1, rfl, rfl, by omega, rfl, fun j hj => ?_⟩
      by_cases hji : j = i
      · rw [hji, he2, he]
      · exact h0 j (by omega)
    · have : (e != 0) = true := bne_iff_ne.2 he
      rw [this]
      refine r_guard_t ?_
      rw [firstE_at h0 he2 he] at h
      exact h
  · have hiL : i = W.length := by omega
    rw [firstE_none (fun j hj => h0 j (by rw [hiL]; exact hj))] at h
    exact h
theorem when_ok {b : Bool} {e : Int} (h : R (vi (if b then e else 0)) l) : scall Tryz.prog 192 #[.bool b, vi e] R l := by
  refine S192_ok ?_
  unfold S192
  cases b with
  | true => exact r_guard_t h
  | false => exact r_guard_f h
theorem dwalk_ok (hd : Knows l db (.cells (dC d) ty)) (hC : Cx l d.t d.m T M β) (hp : path.length ≤ 2 ^ 40) (h : R (.tuple #[fV (walkM T M d.root d.who.cwd d.who.cred path follow).1, vi (walkM T M d.root d.who.cwd d.who.cred path follow).2]) l) :
    scall Tryz.prog 184 #[ptr db 0, vstr' path, .bool follow] R l := by
  refine scall_post (S184_ok ?_)
  unfold S184
  refine r_new fun b6 => ?_
  have hd' := knows_there (pt b6 (.cells #[vi 0, vi 0, .string ⟨#[]⟩, vi 0, vi 0, .bool false, .bool false] 48)) hd
  refine r_nil ?_
  refine r_fa ?_
  refine r_fa ?_
  refine r_load1 hd' (by rfl) ?_
  refine r_nil ?_
  refine r_fa ?_
  refine r_fa ?_
  refine r_load1 hd' (by rfl) ?_
  refine r_nil ?_
  refine r_fa ?_
  refine r_fa ?_
  refine r_loadn hd' (by rfl) ?_
  refine r_nil ?_
  refine r_fa ?_
  refine r_fa ?_
  refine r_loadn hd' (by rfl) ?_
  refine r_nil ?_
  refine r_fa ?_
  refine r_fa ?_
  refine r_loadn hd' (by rfl) ?_
  refine Walk_ok (root := d.root) (from' := d.who.cwd) (cr := d.who.cred) (hC.there _) hp ?_
  obtain ⟨W, hW⟩ : ∃ W, walkM T M d.root d.who.cwd d.who.cred path follow = W := ⟨_, rfl⟩
  rw [hW] at h ⊢
  (repeat' (first | refine z0 ?_ | refine z1 ?_ | refine z2 ?_ | refine z3 ?_ | refine z4 ?_ | refine z5 ?_ | refine z6 ?_ | refine z7 (fun hg => ?_) (fun hg => ?_) | refine z8 (fun hg => ?_) (fun hg => ?_) | refine z9 ?_ | refine za ?_ | refine zb ?_ | refine zc ?_ | refine zd ?_ | refine ze ?_ | refine zf ?_ | refine zg ?_ | refine zh ?_ | refine zi (fun _ => ?_) | refine zj (fun _ => ?_) | refine zk ?_ | refine zl ?_ ?_ | refine zm ?_ | refine zn ?_ | refine zo ?_ | exact (rfl : _ = _)))
  exact ⟨l, by exact drp, h⟩
theorem dstat_ok (hd : Knows l db (.cells (dC d) ty)) (hC : Cx l d.t d.m T M β) (h : R (sttV (T.st n)) l) : scall Tryz.prog 202 #[ptr db 0, vi n] R l := by
  refine scall_post (S202_ok ?_)
  unfold S202
  refine r_new fun b4 => ?_
  refine r_nil ?_
  refine r_fa ?_
  refine r_fa ?_
  refine r_load1 (x := ptr d.t 0) (knows_there _ hd) (by rfl) ?_
  refine tst_ok (hC.tree.there _) hC.small ?_
  obtain ⟨st, hst⟩ : ∃ st, T.st n = st := ⟨_, rfl⟩
  rw [hst] at h ⊢
  (repeat' (first | refine z0 ?_ | refine z1 ?_ | refine z2 ?_ | refine z3 ?_ | refine z4 ?_ | refine z5 ?_ | refine z6 ?_ | refine z7 (fun hg => ?_) (fun hg => ?_) | refine z8 (fun hg => ?_) (fun hg => ?_) | refine z9 ?_ | refine za ?_ | refine zb ?_ | refine zc ?_ | refine zd ?_ | refine ze ?_ | refine zf ?_ | refine zg ?_ | refine zh ?_ | refine zi (fun _ => ?_) | refine zj (fun _ => ?_) | refine zk ?_ | refine zl ?_ ?_ | refine zm ?_ | refine zn ?_ | refine zo ?_ | exact (rfl : _ = _)))
  exact ⟨l, by exact drp, h⟩
theorem disDir_ok (hd : Knows l db (.cells (dC d) ty)) (hC : Cx l d.t d.m T M β) (h : R (.bool (decide ((T.st p.node).kind = 1))) l) : scall Tryz.prog 194 #[ptr db 0, plV p] R l := by
  refine scall_post (S194_ok ?_)
  unfold S194
  refine r_new fun b3 => ?_
  refine r_fa ?_
  refine r_load1 (knows_pt _ _ _) (by rfl) ?_
  refine dstat_ok (knows_there _ hd) (hC.there _) ?_
  obtain ⟨st, hst⟩ : ∃ st, T.st p.node = st := ⟨_, rfl⟩
  rw [hst] at h ⊢
  refine r_field1 (by rfl) ?_
  refine r_bin (v := .bool (st.kind == 1)) (by rfl) ?_
  refine ⟨l, Ent.drop _ _, ?_⟩
  have : (st.kind == 1) = decide (st.kind = 1) := by by_cases hk : st.kind = 1 <;> simp [hk]
  rw [this]; exact h
theorem dmay_ok (hd : Knows l db (.cells (dC d) ty)) (hC : Cx l d.t d.m T M β) (hw : want = 1 ∨ want = 2 ∨ want = 4) (h : R (.bool (may d.who.cred (T.st n) want)) l) : scall Tryz.prog 205 #[ptr db 0, vi n, vi want] R l := by
  refine S205_ok ?_
  unfold S205
  refine r_nil ?_
  refine r_fa ?_
  refine r_fa ?_
  refine r_loadn hd (by rfl) ?_
  refine dstat_ok hd hC ?_
  refine r_and (r_loadn hd (by rfl) rfl) ?_
  exact may_ok (c := d.who.cred) (s := T.st n) hw h
theorem din_ok (hd : Knows l db (.cells (dC d) ty)) (hC : Cx l d.t d.m T M β) (h : R (vi (if may d.who.cred (T.st p.node) 2 then 0 else 34)) l) : scall Tryz.prog 187 #[ptr db 0, plV p] R l := by
  refine scall_post (S187_ok ?_)
  unfold S187
  refine r_new fun b3 => ?_
  refine r_fa ?_
  refine r_load1 (knows_pt _ _ _) (by rfl) ?_
  refine dmay_ok (knows_there _ hd) (hC.there _) (.inr (.inl rfl)) ?_
  refine r_not ?_
  refine when_ok ?_
  refine ⟨l, Ent.drop _ _, ?_⟩
  cases hm : may d.who.cred (T.st p.node) 2 with
  | true => rw [hm] at h; exact h
  | false => rw [hm] at h; exact h
theorem dbusy_ok (hd : Knows l db (.cells (dC d) ty)) (hC : Cx l d.t d.m T M β) (h : R (vi (if f.pl.mount ≠ f.dir.mount || M.covered f.pl.node then 48 else 0)) l) : scall Tryz.prog 196 #[ptr db 0, fV f] R l := by
  refine scall_post (S196_ok ?_)
  unfold S196
  refine r_new fun b3 => ?_
  refine r_fa ?_
  refine r_fa ?_
  refine r_load1 (knows_pt _ _ _) (by rfl) ?_
  refine r_fa ?_
  refine r_fa ?_
  refine r_load1 (knows_pt _ _ _) (by rfl) ?_
  refine r_bin (v := .bool (f.pl.mount != f.dir.mount)) (by rfl) ?_
  by_cases hm : f.pl.mount = f.dir.mount
  · have : (f.pl.mount != f.dir.mount) = false := by simpa using hm
    rw [this]
    refine r_guard_f ?_
    refine r_nil ?_
    refine r_fa ?_
    refine r_fa ?_
    refine r_load1 (x := ptr d.m 0) (knows_there _ hd) (by rfl) ?_
    refine r_fa ?_
    refine r_fa ?_
    refine r_load1 (knows_pt _ _ _) (by rfl) ?_
    refine mcovered_ok (hC.tab.there _) hC.msz ?_
    refine when_ok ?_
    refine ⟨l, Ent.drop _ _, ?_⟩
    have hd2 : decide (f.pl.mount ≠ f.dir.mount) = false := by simpa using hm
    rw [hd2, Bool.false_or] at h; exact h
  · have : (f.pl.mount != f.dir.mount) = true := bne_iff_ne.2 hm
    rw [this]
    refine r_guard_t ?_
    refine when_ok ?_
    refine ⟨l, Ent.drop _ _, ?_⟩
    have hd2 : decide (f.pl.mount ≠ f.dir.mount) = true := by simpa using hm
    rw [hd2, Bool.true_or] at h; exact h
theorem dsticky_ok (hd : Knows l db (.cells (dC d) ty)) (hC : Cx l d.t d.m T M β) (h : R (vi (if sticky d.who.cred (T.st f.dir.node) (T.st f.pl.node) then 31 else 0)) l) : scall Tryz.prog 199 #[ptr db 0, fV f] R l := by
  refine scall_post (S199_ok ?_)
  unfold S199
  refine r_new fun b3 => ?_
  refine r_nil ?_
  refine r_fa ?_
  refine r_fa ?_
  refine r_loadn (knows_there _ hd) (by rfl) ?_
  refine r_fa ?_
  refine r_fa ?_
  refine r_load1 (knows_pt _ _ _) (by rfl) ?_
  refine r_fa ?_
  refine r_fa ?_
  refine r_load1 (knows_pt _ _ _) (by rfl) ?_
  refine dstat_ok (knows_there _ hd) (hC.there _) ?_
  refine r_and (r_load1 (knows_pt _ _ _) (by rfl) rfl) ?_
  refine r_and (r_loadn (knows_there _ hd) (by rfl) rfl) ?_
  refine dstat_ok (knows_there _ hd) (hC.there _) ?_
  refine r_and (r_loadn (knows_there _ hd) (by rfl) rfl) ?_
  refine sticky_ok (c := d.who.cred) (d := T.st f.dir.node) (s := T.st f.pl.node) ?_
  refine when_ok ?_
  exact ⟨l, Ent.drop _ _, h⟩
end
end Go.Sl
