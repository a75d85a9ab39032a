/- Texts that are joined (T3 G7 G8 T8 T9 T10 T11 T12 Shelf T13 T14 T15 T16 G6 T4 G9 T5 T6 T7 N0 N1 N2 N3). Conditions: none beyond those that each theorem states. -/
import Derived.Test.YtoimajdjjbdhlaaGreatDoorZRB
import Derived.Shelf.Strings.Builder1
import Derived.Shelf.Strings.Builder2
import Derived.Shelf.Strings.OnBuilder
import Derived.Shelf.Small.Strs
import Derived.Shelf.Strings.Search1
import Derived.Shelf.Strings.Search2
import Derived.Shelf.Strings.Search3
import Derived.Shelf.LaysM
import Derived.Shelf.Strings.Shaped
import Derived.Shelf.Sort.Plain
import Derived.Shelf.Unicode.DecodeSlow
import Derived.Shelf.Slices.In.SortNone
set_option linter.unusedSectionVars false
set_option linter.unusedSimpArgs false
set_option linter.unusedVariables false
namespace Go.Sl
variable [Ghost]
open Go Go.Mo Go.Proofs
attribute [local irreducible] snil sfa sext sfield sguard sun sbin slen sload sstore snew snewObj sbuildR sbuildSlR smakeMapR smakeSlR slookup smapset srangeMap snext sentry scall scallv sextern sbuiltin sidx sindex sslice sconv srangeX sarg sand sjoin0 sjoin1 sjoin2 sloop0 sloop1 sloop2
theorem bits_mask (x : Int) (k : Nat) (hk : k ≤ 62) : IntKind.i64.wrap ((BitVec.ofInt IntKind.i64.bits x &&& BitVec.ofInt IntKind.i64.bits ((2 : Int) ^ k - 1)).toNat : Int) = x % (2 : Int) ^ k := by
  have hb : IntKind.i64.bits = 64 := rfl
  rw [hb]
  have hp : (2 : Nat) ^ k ≤ 2 ^ 62 := Nat.pow_le_pow_right (by omega) hk
  have hpos : 0 < (2 : Nat) ^ k := Nat.pow_pos (by omega)
  have e1 : ((2 : Int) ^ k - 1) = ((2 ^ k - 1 : Nat) : Int) := by
    rw [Int.natCast_sub (by omega)]; simp
  have e2 : (BitVec.ofInt 64 ((2 : Int) ^ k - 1)).toNat = 2 ^ k - 1 := by
    rw [e1, BitVec.ofInt_natCast, BitVec.toNat_ofNat, Nat.mod_eq_of_lt (by omega)]
  have e3 : (BitVec.ofInt 64 x &&& BitVec.ofInt 64 ((2 : Int) ^ k - 1)).toNat = (BitVec.ofInt 64 x).toNat % 2 ^ k := by
    rw [BitVec.toNat_and, e2, Nat.and_two_pow_sub_one_eq_mod]
  rw [e3]
  have e4 : (((BitVec.ofInt 64 x).toNat % 2 ^ k : Nat) : Int) = x % (2 : Int) ^ k := by
    rw [Int.natCast_emod, BitVec.toNat_ofInt]
    have h5 : ((2 ^ k : Nat) : Int) = (2 : Int) ^ k := by simp
    rw [h5, Int.toNat_of_nonneg (Int.emod_nonneg _ (by decide))]
    apply Int.emod_emod_of_dvd
    have h6 : (2 ^ 64 : Nat) = 2 ^ k * 2 ^ (64 - k) := by rw [← Nat.pow_add]; congr 1; omega
    rw [h6]
    exact ⟨((2 ^ (64 - k) : Nat) : Int), by simp⟩
  rw [e4]
  have h7 : (0 : Int) < (2 : Int) ^ k := Int.pow_pos (by decide)
  have h8 := Int.emod_nonneg x (Int.ne_of_gt h7)
  have h9 := Int.emod_lt_of_pos x h7
  have h10 : (2 : Int) ^ k ≤ 2 ^ 62 := by
    have h5 : ((2 ^ k : Nat) : Int) = (2 : Int) ^ k := by simp
    rw [← h5]; exact_mod_cast hp
  exact wrap_id (by omega) (by omega)
section
variable {l r : St} {t b : Nat} {T : Tree} {β : Int → Nat} {c : Chunk} {n : Int} {x : Nd} {R : Value → SP}
theorem masked_ok {m : Int} (h : R (vi (masked m)) l) : scall Tryz.prog 57 #[vi m] R l := by
  refine S57_ok ?_
  unfold S57
  (repeat' (first | refine z0 ?_ | refine z1 ?_ | refine z2 ?_ | refine z3 ?_ | refine z4 ?_ | refine z5 ?_ | refine z6 ?_ | refine z7 (fun hg => ?_) (fun hg => ?_) | refine z8 (fun hg => ?_) (fun hg => ?_) | refine z9 ?_ | refine za ?_ | refine zb ?_ | refine zc ?_ | refine zd ?_ | refine ze ?_ | refine zf ?_ | refine zg ?_ | refine zh ?_ | refine zi (fun _ => ?_) | refine zj (fun _ => ?_) | refine zk ?_ | refine zl ?_ ?_ | refine zm ?_ | refine zn ?_ | refine zo ?_ | exact (rfl : _ = _)))
  have := bits_mask m 12 (by omega)
  have e : masked m = IntKind.i64.wrap ((BitVec.ofInt IntKind.i64.bits m &&& BitVec.ofInt IntKind.i64.bits 4095).toNat : Int) := this.symm
  rw [e] at h; exact h
theorem tsetMode_ok {mode : Int} (hk : Take l c r) (hP : PTree t T β c) (h : ∀ c', PTree t (T.setMode n mode).1 β c' → R (vi (T.setMode n mode).2) (c' :: r)) : scall Tryz.prog 22 #[ptr t 0, vi n, vi mode] R l := by
  cases hx : T.at n with
  | none =>
    have hs : T.setMode n mode = (T, 1) := by simp [Tree.setMode, hx]
    rw [hs] at h
    refine scall_perm (l' := c :: r) (by rw [List.flatten_cons]; exact hk) (S22_ok ?_)
    obtain ⟨ty, p, m, turns, es, clk, xs, hk, hkm, hm, -, -, hxs⟩ := (tree_at (take_here c r) hP).open
    unfold S22
    (repeat' (first | refine z0 ?_ | refine z1 ?_ | refine z2 ?_ | refine z3 ?_ | refine z4 ?_ | refine z5 ?_ | refine z6 ?_ | refine z7 (fun hg => ?_) (fun hg => ?_) | refine z8 (fun hg => ?_) (fun hg => ?_) | refine z9 ?_ | refine za ?_ | refine zb ?_ | refine zc ?_ | refine zd ?_ | refine ze ?_ | refine zf ?_ | refine zg ?_ | refine zh ?_ | refine zi (fun _ => ?_) | refine zj (fun _ => ?_) | refine zk ?_ | refine zl ?_ ?_ | refine zm ?_ | refine zn ?_ | refine zo ?_ | exact (rfl : _ = _)))
    refine r_all hkm hm hxs (fun x hx' => ?_) (fun hx => ?_)
    · rw [hx] at hx'; cases hx'
    · (repeat' (first | refine z0 ?_ | refine z1 ?_ | refine z2 ?_ | refine z3 ?_ | refine z4 ?_ | refine z5 ?_ | refine z6 ?_ | refine z7 (fun hg => ?_) (fun hg => ?_) | refine z8 (fun hg => ?_) (fun hg => ?_) | refine z9 ?_ | refine za ?_ | refine zb ?_ | refine zc ?_ | refine zd ?_ | refine ze ?_ | refine zf ?_ | refine zg ?_ | refine zh ?_ | refine zi (fun _ => ?_) | refine zj (fun _ => ?_) | refine zk ?_ | refine zl ?_ ?_ | refine zm ?_ | refine zn ?_ | refine zo ?_ | exact (rfl : _ = _)))
      exact h c hP
  | some x =>
    have hs : T.setMode n mode = (T.put n (some { x with mode := masked mode }), 0) := by simp [Tree.setMode, hx]
    rw [hs] at h
    obtain ⟨tt, tn, p, m, turns, es, clk, xs, cs, pc, nm, up, mc, hpm, hxs, hm, hns, hpp, hnm, hup⟩ := tree_open1 hk hP hx
    refine scall_perm hpm (scall_post (S22_ok ?_))
    unfold S22
    (repeat' (first | refine z0 ?_ | refine z1 ?_ | refine z2 ?_ | refine z3 ?_ | refine z4 ?_ | refine z5 ?_ | refine z6 ?_ | refine z7 (fun hg => ?_) (fun hg => ?_) | refine z8 (fun hg => ?_) (fun hg => ?_) | refine z9 ?_ | refine za ?_ | refine zb ?_ | refine zc ?_ | refine zd ?_ | refine ze ?_ | refine zf ?_ | refine zg ?_ | refine zh ?_ | refine zi (fun _ => ?_) | refine zj (fun _ => ?_) | refine zk ?_ | refine zl ?_ ?_ | refine zm ?_ | refine zn ?_ | refine zo ?_ | exact (rfl : _ = _)))
    refine r_all1 (by exact kn) hm ?_
    (repeat' (first | refine z0 ?_ | refine z1 ?_ | refine z2 ?_ | refine z3 ?_ | refine z4 ?_ | refine z5 ?_ | refine z6 ?_ | refine z7 (fun hg => ?_) (fun hg => ?_) | refine z8 (fun hg => ?_) (fun hg => ?_) | refine z9 ?_ | refine za ?_ | refine zb ?_ | refine zc ?_ | refine zd ?_ | refine ze ?_ | refine zf ?_ | refine zg ?_ | refine zh ?_ | refine zi (fun _ => ?_) | refine zj (fun _ => ?_) | refine zk ?_ | refine zl ?_ ?_ | refine zm ?_ | refine zn ?_ | refine zo ?_ | exact (rfl : _ = _)))
    refine masked_ok ?_
    (repeat' (first | refine z0 ?_ | refine z1 ?_ | refine z2 ?_ | refine z3 ?_ | refine z4 ?_ | refine z5 ?_ | refine z6 ?_ | refine z7 (fun hg => ?_) (fun hg => ?_) | refine z8 (fun hg => ?_) (fun hg => ?_) | refine z9 ?_ | refine za ?_ | refine zb ?_ | refine zc ?_ | refine zd ?_ | refine ze ?_ | refine zf ?_ | refine zg ?_ | refine zh ?_ | refine zi (fun _ => ?_) | refine zj (fun _ => ?_) | refine zk ?_ | refine zl ?_ ?_ | refine zm ?_ | refine zn ?_ | refine zo ?_ | exact (rfl : _ = _)))
    exact ⟨_, ent_close [_, _, _, _, _, _] r, h _ (tree_shut1 (x' := { x with mode := masked mode }) (P' := T.pool) hx hxs hm hns hpp hnm hup)⟩
theorem tsetOwner_ok {uid gid : Int} (hk : Take l c r) (hP : PTree t T β c) (h : ∀ c', PTree t (T.setOwner n uid gid).1 β c' → R (vi (T.setOwner n uid gid).2) (c' :: r)) : scall Tryz.prog 47 #[ptr t 0, vi n, vi uid, vi gid] R l := by
  cases hx : T.at n with
  | none =>
    have hs : T.setOwner n uid gid = (T, 1) := by simp [Tree.setOwner, hx]
    rw [hs] at h
    refine scall_perm (l' := c :: r) (by rw [List.flatten_cons]; exact hk) (S47_ok ?_)
    obtain ⟨ty, p, m, turns, es, clk, xs, hk, hkm, hm, -, -, hxs⟩ := (tree_at (take_here c r) hP).open
    unfold S47
    (repeat' (first | refine z0 ?_ | refine z1 ?_ | refine z2 ?_ | refine z3 ?_ | refine z4 ?_ | refine z5 ?_ | refine z6 ?_ | refine z7 (fun hg => ?_) (fun hg => ?_) | refine z8 (fun hg => ?_) (fun hg => ?_) | refine z9 ?_ | refine za ?_ | refine zb ?_ | refine zc ?_ | refine zd ?_ | refine ze ?_ | refine zf ?_ | refine zg ?_ | refine zh ?_ | refine zi (fun _ => ?_) | refine zj (fun _ => ?_) | refine zk ?_ | refine zl ?_ ?_ | refine zm ?_ | refine zn ?_ | refine zo ?_ | exact (rfl : _ = _)))
    refine r_all hkm hm hxs (fun x hx' => ?_) (fun hx => ?_)
    · rw [hx] at hx'; cases hx'
    · (repeat' (first | refine z0 ?_ | refine z1 ?_ | refine z2 ?_ | refine z3 ?_ | refine z4 ?_ | refine z5 ?_ | refine z6 ?_ | refine z7 (fun hg => ?_) (fun hg => ?_) | refine z8 (fun hg => ?_) (fun hg => ?_) | refine z9 ?_ | refine za ?_ | refine zb ?_ | refine zc ?_ | refine zd ?_ | refine ze ?_ | refine zf ?_ | refine zg ?_ | refine zh ?_ | refine zi (fun _ => ?_) | refine zj (fun _ => ?_) | refine zk ?_ | refine zl ?_ ?_ | refine zm ?_ | refine zn ?_ | refine zo ?_ | exact (rfl : _ = _)))
      exact h c hP
  | some x =>
    have hs : T.setOwner n uid gid = (T.put n (some { x with uid := uid, gid := gid }), 0) := by simp [Tree.setOwner, hx]
    rw [hs] at h
    obtain ⟨tt, tn, p, m, turns, es, clk, xs, cs, pc, nm, up, mc, hpm, hxs, hm, hns, hpp, hnm, hup⟩ := tree_open1 hk hP hx
    refine scall_perm hpm (scall_post (S47_ok ?_))
    unfold S47
    (repeat' (first | refine z0 ?_ | refine z1 ?_ | refine z2 ?_ | refine z3 ?_ | refine z4 ?_ | refine z5 ?_ | refine z6 ?_ | refine z7 (fun hg => ?_) (fun hg => ?_) | refine z8 (fun hg => ?_) (fun hg => ?_) | refine z9 ?_ | refine za ?_ | refine zb ?_ | refine zc ?_ | refine zd ?_ | refine ze ?_ | refine zf ?_ | refine zg ?_ | refine zh ?_ | refine zi (fun _ => ?_) | refine zj (fun _ => ?_) | refine zk ?_ | refine zl ?_ ?_ | refine zm ?_ | refine zn ?_ | refine zo ?_ | exact (rfl : _ = _)))
    refine r_all1 (by exact kn) hm ?_
    (repeat' (first | refine z0 ?_ | refine z1 ?_ | refine z2 ?_ | refine z3 ?_ | refine z4 ?_ | refine z5 ?_ | refine z6 ?_ | refine z7 (fun hg => ?_) (fun hg => ?_) | refine z8 (fun hg => ?_) (fun hg => ?_) | refine z9 ?_ | refine za ?_ | refine zb ?_ | refine zc ?_ | refine zd ?_ | refine ze ?_ | refine zf ?_ | refine zg ?_ | refine zh ?_ | refine zi (fun _ => ?_) | refine zj (fun _ => ?_) | refine zk ?_ | refine zl ?_ ?_ | refine zm ?_ | refine zn ?_ | refine zo ?_ | exact (rfl : _ = _)))
    exact ⟨_, ent_close [_, _, _, _, _, _] r, h _ (tree_shut1 (x' := { x with uid := uid, gid := gid }) (P' := T.pool) hx hxs hm hns hpp hnm hup)⟩
theorem thold_ok (hS : Small T) (hk : Take l c r) (hP : PTree t T β c) (h : ∀ c', PTree t (T.hold n).1 β c' → R (vi (T.hold n).2) (c' :: r)) : scall Tryz.prog 95 #[ptr t 0, vi n] R l := by
  cases hx : T.at n with
  | none =>
    have hs : T.hold n = (T, 1) := by simp [Tree.hold, hx]
    rw [hs] at h
    refine scall_perm (l' := c :: r) (by rw [List.flatten_cons]; exact hk) (S95_ok ?_)
    obtain ⟨ty, p, m, turns, es, clk, xs, hk, hkm, hm, -, -, hxs⟩ := (tree_at (take_here c r) hP).open
    unfold S95
    (repeat' (first | refine z0 ?_ | refine z1 ?_ | refine z2 ?_ | refine z3 ?_ | refine z4 ?_ | refine z5 ?_ | refine z6 ?_ | refine z7 (fun hg => ?_) (fun hg => ?_) | refine z8 (fun hg => ?_) (fun hg => ?_) | refine z9 ?_ | refine za ?_ | refine zb ?_ | refine zc ?_ | refine zd ?_ | refine ze ?_ | refine zf ?_ | refine zg ?_ | refine zh ?_ | refine zi (fun _ => ?_) | refine zj (fun _ => ?_) | refine zk ?_ | refine zl ?_ ?_ | refine zm ?_ | refine zn ?_ | refine zo ?_ | exact (rfl : _ = _)))
    refine r_all hkm hm hxs (fun x hx' => ?_) (fun hx => ?_)
    · rw [hx] at hx'; cases hx'
    · (repeat' (first | refine z0 ?_ | refine z1 ?_ | refine z2 ?_ | refine z3 ?_ | refine z4 ?_ | refine z5 ?_ | refine z6 ?_ | refine z7 (fun hg => ?_) (fun hg => ?_) | refine z8 (fun hg => ?_) (fun hg => ?_) | refine z9 ?_ | refine za ?_ | refine zb ?_ | refine zc ?_ | refine zd ?_ | refine ze ?_ | refine zf ?_ | refine zg ?_ | refine zh ?_ | refine zi (fun _ => ?_) | refine zj (fun _ => ?_) | refine zk ?_ | refine zl ?_ ?_ | refine zm ?_ | refine zn ?_ | refine zo ?_ | exact (rfl : _ = _)))
      exact h c hP
  | some x =>
    have hs : T.hold n = (T.put n (some { x with holds := x.holds + 1 }), 0) := by simp [Tree.hold, hx]
    rw [hs] at h
    have hh := hS.holds n x hx
    have hw : IntKind.i64.wrap (x.holds + 1) = x.holds + 1 := wrap_id (by omega) (by omega)
    obtain ⟨tt, tn, p, m, turns, es, clk, xs, cs, pc, nm, up, mc, hpm, hxs, hm, hns, hpp, hnm, hup⟩ := tree_open1 hk hP hx
    refine scall_perm hpm (scall_post (S95_ok ?_))
    unfold S95
    (repeat' (first | refine z0 ?_ | refine z1 ?_ | refine z2 ?_ | refine z3 ?_ | refine z4 ?_ | refine z5 ?_ | refine z6 ?_ | refine z7 (fun hg => ?_) (fun hg => ?_) | refine z8 (fun hg => ?_) (fun hg => ?_) | refine z9 ?_ | refine za ?_ | refine zb ?_ | refine zc ?_ | refine zd ?_ | refine ze ?_ | refine zf ?_ | refine zg ?_ | refine zh ?_ | refine zi (fun _ => ?_) | refine zj (fun _ => ?_) | refine zk ?_ | refine zl ?_ ?_ | refine zm ?_ | refine zn ?_ | refine zo ?_ | exact (rfl : _ = _)))
    refine r_all1 (by exact kn) hm ?_
    (repeat' (first | refine z0 ?_ | refine z1 ?_ | refine z2 ?_ | refine z3 ?_ | refine z4 ?_ | refine z5 ?_ | refine z6 ?_ | refine z7 (fun hg => ?_) (fun hg => ?_) | refine z8 (fun hg => ?_) (fun hg => ?_) | refine z9 ?_ | refine za ?_ | refine zb ?_ | refine zc ?_ | refine zd ?_ | refine ze ?_ | refine zf ?_ | refine zg ?_ | refine zh ?_ | refine zi (fun _ => ?_) | refine zj (fun _ => ?_) | refine zk ?_ | refine zl ?_ ?_ | refine zm ?_ | refine zn ?_ | refine zo ?_ | exact (rfl : _ = _)))
    rw [hw]
    exact ⟨_, ent_close [_, _, _, _, _, _] r, h _ (tree_shut1 (x' := { x with holds := x.holds + 1 }) (P' := T.pool) hx hxs hm hns hpp hnm hup)⟩
end
end Go.Sl
namespace Go.Sl
variable [Ghost]
open Go Go.Proofs
def S174 (a b : Value) (R : Value → SP) : SP := snil a fun d => sfa 1 d fun e => sload none e fun f => slookup (.int .i64) (some (.pointer none)) f b false fun c => sbin Tryz.prog .pointer 177 .eql c (.pointer none) fun g => sguard g ( R (.int .i64 1)) ( snil a fun h => sfa 0 h fun i => sload none i fun j => snil c fun k => sfa 1 k fun l => sload none l fun m => slen .map m fun n => sbin Tryz.prog .none 3 .add j n fun o => snil a fun p => sfa 0 p fun q => sstore 1 q o <| snil a fun r => sfa 1 r fun t => sload none t fun u => sbuiltin Tryz.prog .delete #[178, 3] 0 #[false, false] #[u, b] fun _ => R (.int .i64 0))
theorem S174_ok {v0 v1 : Value} {R : Value → SP} {l : St} (h : S174 v0 v1 R l) : scall Tryz.prog 174 #[v0, v1] R l := sok [v0, v1] (.seq .leaf (.seq .leaf (.seq (.seq .leaf (.cond (.seq .leaf .leaf) .leaf)) (.seq (.draw [(0, []), (1, []), (2, []), (3, []), (4, []), (5, []), (6, []), (7, []), (8, []), (9, []), (10, []), (11, []), (12, [])]) (.seq .leaf (.seq .leaf .leaf)))))) Tryz.func174 (by kernel_rfl) (by kernel_rfl) h
def S175 (a b : Value) (R : Value → SP) : SP := scall Tryz.prog 172 #[a, b] fun c => sbin Tryz.prog .pointer 208 .eql c (.pointer none) fun d => sguard d ( R (.int .i64 1)) ( snil a fun e => sfa 1 e fun f => sload none f fun g => sbin Tryz.prog .none 3 .sub b (.int .i64 1) fun h => sidx none 1 g h fun i => sstore 1 i (.pointer none) <| R (.int .i64 0))
theorem S175_ok {v0 v1 : Value} {R : Value → SP} {l : St} (h : S175 v0 v1 R l) : scall Tryz.prog 175 #[v0, v1] R l := sok [v0, v1] (.seq .leaf (.seq (.seq .leaf (.cond (.seq .leaf .leaf) .leaf)) (.seq .leaf (.seq .leaf .leaf)))) Tryz.func175 (by kernel_rfl) (by kernel_rfl) h
def S176 (e b : Value) (R : Value → SP) : SP := sload none b fun f => snil f fun g => sfa 0 g fun h => sload none h fun i => scall Tryz.prog 113 #[i] fun j => scall Tryz.prog 111 #[j] fun c => slen .slice c fun k => sloop1 (.int .i64 0) fun l a => sbin Tryz.prog .none 3 .lss a k fun m => sguard m ( sidx none 1 c a fun n => sload none n fun d => sload none b fun o => snil o fun p => sfa 0 p fun q => sload none q fun r => slookup (.int .i64) (some (.agg #[.int .i64 0, .int .i64 0, .int .i64 0])) r d false fun t => scallv Tryz.prog e #[d, t] fun u => sun .not u fun w => sguard w ( R (.tuple #[])) ( sbin Tryz.prog .none 3 .add a (.int .i64 1) fun x => l [x])) ( R (.tuple #[]))
theorem S176_ok {v0 v1 : Value} {R : Value → SP} {l : St} (h : S176 v0 v1 R l) : scall Tryz.prog 176 #[v0, v1] R l := sok [v0, v1] (.seq .leaf (.one (.loop [4, 12, 13, 14, 15, 16, 17, 18, 19, 20, 21, 22, 23, 24, 25, 26] [12] (.seq .leaf (.seq (.cond .leaf .leaf) (.seq (.one (.seq .leaf (.seq .leaf (.cond .leaf .leaf)))) .leaf)))))) Tryz.func176 (by kernel_rfl) (by kernel_rfl) h
def S177 (a : Value) (R : Value → SP) : SP := snew (Value.cells a) 9 fun b => R (.func (.func 222) #[] #[b])
theorem S177_ok {v0 : Value} {R : Value → SP} {l : St} (h : S177 v0 R l) : scall Tryz.prog 177 #[v0] R l := sok [v0] (.seq .leaf (.seq .leaf .leaf)) Tryz.func177 (by kernel_rfl) (by kernel_rfl) h
def S178 (e f g : Value) (R : Value → SP) : SP := snew (Value.cells e) 54 fun a => snew (Value.cells f) 42 fun b => sfa 2 b fun h => sload none h fun c => sjoin1 (fun i => sbin Tryz.prog .none 3 .andNot g i fun j => sbin Tryz.prog .none 3 .and j (.int .i64 7) fun k => sbin Tryz.prog .none 3 .eql k (.int .i64 0) fun l => R l) fun d => sfa 0 a fun m => sload none m fun n => sbin Tryz.prog .none 3 .eql n (.int .i64 0) fun o => sguard o ( R (.bool true)) ( sfa 0 a fun p => sload none p fun q => sfa 3 b fun r => sload none r fun t => sbin Tryz.prog .none 3 .eql q t fun u => sguard u ( sbin Tryz.prog .none 3 .shr c (.int .u64 6) fun w => d [w]) ( sfa 1 a fun x => sload none x fun y => sfa 4 b fun z => sload none z fun A => sbin Tryz.prog .none 3 .eql y A fun B => sguard B ( sbin Tryz.prog .none 3 .shr c (.int .u64 3) fun C => d [C]) ( d [c])))
theorem S178_ok {v0 v1 v2 : Value} {R : Value → SP} {l : St} (h : S178 v0 v1 v2 R l) : scall Tryz.prog 178 #[v0, v1, v2] R l := sok [v0, v1, v2] (.seq .leaf (.seq .leaf (.join [6, 7, 10, 11, 12, 13, 14, 15, 16, 17, 18, 19, 20, 21, 22, 23, 24, 25, 26, 27, 28, 29] [7] (.one (.seq .leaf (.cond (.seq .leaf .leaf) (.seq .leaf (.cond .leaf (.seq .leaf (.cond .leaf .leaf))))))) (.seq .leaf .leaf)))) Tryz.func178 (by kernel_rfl) (by kernel_rfl) h
def S179 (a : Value) (R : Value → SP) : SP := snil a fun m => sfa 7 m fun n => sload (some 2) n fun o => snil a fun p => sfa 4 p fun q => sload (some 2) q fun r => sbin Tryz.prog .none 27 .eql o r fun t => sguard t ( R (.tuple #[])) ( snil a fun u => sfa 1 u fun w => sload none w fun x => snil a fun y => sfa 7 y fun z => sload (some 2) z fun A => scall Tryz.prog 208 #[x, A] fun d => sext d 0 fun B => sext d 1 fun C => snew #[.int .i64 0, .int .i64 0] 27 fun e => sstore 2 e B <| sloop2 e C fun D c E => sguard E ( sload (some 2) c fun F => snil a fun G => sfa 7 G fun H => sstore 2 H F <| snil a fun K => sfa 1 K fun L => sload none L fun M => sload (some 2) c fun N => snil a fun O => sfa 4 O fun f => sload (some 2) f fun g => scall Tryz.prog 131 #[M, N] fun Q => sand (sload (some 2) f fun v' _ => v' = g) <| sbin Tryz.prog .none 27 .eql Q g fun T => sguard T ( snil a fun U => sfa 4 U fun V => sload (some 2) V fun W => snil a fun X => sfa 7 X fun Y => sstore 2 Y W <| R (.tuple #[])) ( sload (some 2) c fun Z => snew #[.int .i64 0, .int .i64 0] 27 fun b => sstore 2 b Z <| snil a fun a0 => sfa 1 a0 fun a1 => sload none a1 fun a2 => sload (some 2) b fun a3 => scall Tryz.prog 208 #[a2, a3] fun h => sext h 0 fun a4 => sext h 1 fun a5 => sstore 2 b a4 <| D [b, a5])) ( snil a fun a6 => sfa 1 a6 fun i => sload none i fun j => snil a fun a7 => sfa 7 a7 fun a8 => sfa 0 a8 fun k => sload none k fun l => snil a fun a9 => sfa 0 a9 fun a10 => sload none a10 fun a11 => snil a fun a12 => sfa 7 a12 fun a13 => sfa 1 a13 fun a14 => sload none a14 fun a15 => scall Tryz.prog 125 #[a11, a15] fun a16 => sand (sload none k fun v' _ => v' = l) <| sand (sload none i fun v' _ => v' = j) <| sbuildR [(0, 1), (1, 1)] #[.int .i64 0, .int .i64 0] #[(0, l), (1, a16)] fun a17 => scall Tryz.prog 131 #[j, a17] fun a18 => snil a fun a19 => sfa 7 a19 fun a20 => sstore 2 a20 a18 <| R (.tuple #[])))
theorem S179_ok {v0 : Value} {R : Value → SP} {l : St} (h : S179 v0 R l) : scall Tryz.prog 179 #[v0] R l := sok [v0] (.seq (.seq (.draw [(0, []), (1, []), (2, []), (3, []), (4, []), (5, []), (6, []), (7, []), (8, [])]) (.cond .leaf .leaf)) (.seq (.seq (.draw [(0, []), (1, []), (2, []), (3, []), (4, []), (5, []), (6, []), (7, []), (8, []), (9, []), (10, []), (11, []), (12, []), (13, []), (14, [])]) (.one (.loop [2, 3, 25, 26, 27, 28, 29, 30, 31, 32, 33, 34, 35, 36, 37, 38, 39, 40, 41, 42, 43, 44, 45, 46, 47, 48, 49, 50, 51, 52, 53, 54, 55, 56, 57] [2, 3] (.seq (.seq .leaf (.cond .leaf .leaf)) (.seq (.one (.seq .leaf (.seq (.draw [(0, []), (1, []), (2, []), (3, []), (4, []), (6, []), (7, []), (8, []), (9, []), (5, [9]), (10, [])]) (.cond (.seq .leaf .leaf) .leaf)))) (.seq (.seq .leaf .leaf) (.draw [(0, []), (1, []), (2, []), (3, []), (4, []), (5, []), (6, []), (7, []), (8, []), (9, []), (10, [])]))))))) (.draw [(0, []), (1, []), (2, []), (3, []), (4, []), (5, []), (6, []), (7, []), (8, []), (9, []), (10, []), (11, []), (12, []), (13, []), (14, []), (15, []), (16, []), (17, []), (18, []), (19, [4, 9]), (20, []), (21, []), (22, []), (23, []), (24, [])]))) Tryz.func179 (by kernel_rfl) (by kernel_rfl) h
def S180 (a h c : Value) (R : Value → SP) : SP := snew (Value.cells h) 27 fun i => snil a fun j => sfa 11 j fun k => sload none k fun l => sbin Tryz.prog .none 3 .geq l (.int .i64 40) fun m => sguard m ( R (.int .i64 46)) ( snil a fun n => sfa 11 n fun o => sload none o fun p => sbin Tryz.prog .none 3 .add p (.int .i64 1) fun q => snil a fun r => sfa 11 r fun t => sstore 1 t q <| sbin Tryz.prog .none 9 .eql c (.string ⟨#[]⟩) fun u => sguard u ( R (.int .i64 32)) ( slen .str c fun w => snil a fun x => sfa 9 x fun y => sload none y fun z => snil a fun A => sfa 10 A fun B => sload none B fun C => sbuildR [(0, 1), (1, 1), (2, 1)] #[.bool false, .bool false, .slice none 0 0] #[(2, z), (1, C)] fun D => scall Tryz.prog 224 #[D] fun E => slen .str E fun F => sbin Tryz.prog .none 3 .add w F fun G => sbin Tryz.prog .none 3 .gtr G (.int .i64 4096) fun H => sguard H ( R (.int .i64 45)) ( scall Tryz.prog 130 #[c] fun e => sext e 0 fun K => sext e 1 fun f => snew #[.bool false, .bool false, .slice none 0 0] 221 fun b => sstore 3 b K <| sbin Tryz.prog .none 49 .neq f (.int .i64 0) fun L => sguard L ( R f) ( sload (some 2) i fun M => snil a fun N => sfa 7 N fun O => sstore 2 O M <| sjoin0 ( sjoin0 ( sfa 2 b fun Q => sload none Q fun T => snil a fun U => sfa 9 U fun V => sload none V fun W => sbuildSlR 59 1 (.slice none 0 0) 2 #[(0, T), (1, W)] fun X => scall Tryz.prog 225 #[X] fun Y => snil a fun Z => sfa 9 Z fun a0 => sstore 1 a0 Y <| scall Tryz.prog 132 #[a] fun _ => R (.int .i64 0)) fun d => snil a fun a1 => sfa 9 a1 fun a2 => sload none a2 fun a3 => slen .slice a3 fun a4 => sbin Tryz.prog .none 3 .eql a4 (.int .i64 0) fun a5 => sguard a5 ( snil a fun a6 => sfa 10 a6 fun a7 => sload none a7 fun a8 => sguard a8 ( snil a fun a9 => sfa 10 a9 fun a10 => sstore 1 a10 (.bool true) <| d []) ( sfa 1 b fun a11 => sload none a11 fun a12 => snil a fun a13 => sfa 10 a13 fun a14 => sstore 1 a14 a12 <| d [])) ( d [])) fun g => sfa 0 b fun a15 => sload none a15 fun a16 => sguard a16 ( snil a fun a17 => sfa 4 a17 fun a18 => sload (some 2) a18 fun a19 => snil a fun a20 => sfa 7 a20 fun a21 => sstore 2 a21 a19 <| g []) ( g [])))))
theorem S180_ok {v0 v1 v2 : Value} {R : Value → SP} {l : St} (h : S180 v0 v1 v2 R l) : scall Tryz.prog 180 #[v0, v1, v2] R l := sok [v0, v1, v2] (.seq .leaf (.seq (.seq .leaf (.cond (.seq .leaf .leaf) .leaf)) (.seq .leaf (.seq (.seq .leaf (.cond (.seq .leaf .leaf) .leaf)) (.seq (.seq (.draw [(0, []), (1, []), (2, []), (3, []), (4, []), (5, []), (6, []), (7, []), (8, []), (9, []), (10, []), (11, []), (12, []), (13, []), (14, [])]) (.cond (.seq .leaf .leaf) .leaf)) (.seq .leaf (.seq (.seq .leaf (.cond (.seq .leaf .leaf) .leaf)) (.seq .leaf (.join [50, 51, 52, 53, 54, 55, 56, 57, 58] [] (.seq .leaf (.cond .leaf .leaf)) (.join [59, 60, 61, 62, 63, 64, 65, 66, 67, 68, 69, 70, 71, 72, 73, 74, 75] [] (.seq .leaf (.cond .leaf .leaf)) (.seq (.draw [(0, []), (1, []), (2, []), (3, []), (4, []), (5, []), (6, []), (7, []), (8, []), (9, []), (10, []), (11, [])]) (.seq .leaf (.seq .leaf .leaf))))))))))))) Tryz.func180 (by kernel_rfl) (by kernel_rfl) h
def S181 (b c : Value) (R : Value → SP) : SP := snew (Value.cells b) 59 fun a => srangeX Tryz.prog c 1 (fun xs1 cont1 _ => sarg xs1 0 fun d => sload none a fun e => sbuildSlR 9 1 (.string ⟨#[]⟩) 1 #[(0, d)] fun f => sbuiltin Tryz.prog .append #[59, 59] 59 #[false, false] #[e, f] fun g => sstore 1 a g <| cont1) ( sload none a fun h => R h) ( R (.slice none 0 0)) []
theorem S181_ok {v0 v1 : Value} {R : Value → SP} {l : St} (h : S181 v0 v1 R l) : scall Tryz.prog 181 #[v0, v1] R l := sok [v0, v1] (.seq .leaf (.seq (.seq .leaf (.one (.range [] .leaf (.one .leaf)))) (.seq .leaf .leaf))) Tryz.func181 (by kernel_rfl) (by kernel_rfl) h
def S184 (a d e : Value) (R : Value → SP) : SP := snew #[.int .i64 0, .int .i64 0, .string ⟨#[]⟩, .int .i64 0, .int .i64 0, .bool false, .bool false] 48 fun b => snil a fun f => sfa 0 f fun g => sfa 0 g fun h => sload none h fun i => snil a fun j => sfa 0 j fun k => sfa 1 k fun l => sload none l fun m => snil a fun n => sfa 0 n fun o => sfa 2 o fun p => sload (some 2) p fun q => snil a fun r => sfa 4 r fun t => sfa 0 t fun u => sload (some 2) u fun w => snil a fun x => sfa 4 x fun y => sfa 2 y fun z => sload (some 2) z fun A => scall Tryz.prog 13 #[i, m, q, w, A, d, e] fun c => sext c 0 fun B => sext c 1 fun C => sstore 7 b B <| sload (some 7) b fun vr => R (.tuple #[vr, C])
theorem S184_ok {v0 v1 v2 : Value} {R : Value → SP} {l : St} (h : S184 v0 v1 v2 R l) : scall Tryz.prog 184 #[v0, v1, v2] R l := sok [v0, v1, v2] (.seq .leaf (.seq (.draw [(0, []), (1, []), (2, []), (3, []), (4, []), (5, []), (6, []), (7, []), (8, []), (9, []), (10, []), (11, []), (12, []), (13, []), (14, []), (15, []), (16, []), (17, []), (18, []), (19, []), (20, []), (21, []), (22, []), (23, []), (24, []), (25, []), (26, []), (27, []), (28, []), (29, []), (30, []), (31, [])]) .leaf)) Tryz.func184 (by kernel_rfl) (by kernel_rfl) h
def S185 (b : Value) (R : Value → SP) : SP := slen .slice b fun d => sloop1 (.int .i64 0) fun e a => sbin Tryz.prog .none 3 .lss a d fun f => sguard f ( sidx none 1 b a fun g => sload none g fun c => sbin Tryz.prog .none 49 .neq c (.int .i64 0) fun h => sguard h ( R c) ( sbin Tryz.prog .none 3 .add a (.int .i64 1) fun i => e [i])) ( R (.int .i64 0))
theorem S185_ok {v0 : Value} {R : Value → SP} {l : St} (h : S185 v0 R l) : scall Tryz.prog 185 #[v0] R l := sok [v0] (.seq .leaf (.seq (.seq .leaf (.one (.loop [2, 4, 7, 8, 9, 10, 11, 12, 13, 14] [7] (.seq .leaf (.seq (.cond .leaf .leaf) (.seq (.one (.seq .leaf (.seq .leaf (.cond (.seq .leaf .leaf) .leaf)))) .leaf)))))) (.seq .leaf .leaf))) Tryz.func185 (by kernel_rfl) (by kernel_rfl) h
def S186 (_v0 e b : Value) (R : Value → SP) : SP := snew (Value.cells e) 48 fun a => sfa 5 a fun f => sload none f fun g => sguard g ( scall Tryz.prog 192 #[.bool true, .int .i64 35] fun c => sun .not b fun h => sguard h ( sfa 6 a fun i => sload none i fun j => scall Tryz.prog 192 #[j, .int .i64 32] fun k => sbuildSlR 49 1 (.int .i64 0) 2 #[(0, c), (1, k)] fun l => scall Tryz.prog 185 #[l] fun m => R m) ( scall Tryz.prog 192 #[.bool false, .int .i64 32] fun n => sbuildSlR 49 1 (.int .i64 0) 2 #[(0, c), (1, n)] fun o => scall Tryz.prog 185 #[o] fun p => R p)) ( sfa 2 a fun q => sload none q fun r => sbin Tryz.prog .none 9 .eql r (.string ⟨#[]⟩) fun t => scall Tryz.prog 192 #[t, .int .i64 35] fun d => sun .not b fun u => sguard u ( sfa 6 a fun w => sload none w fun x => scall Tryz.prog 192 #[x, .int .i64 32] fun y => sbuildSlR 49 1 (.int .i64 0) 2 #[(0, d), (1, y)] fun z => scall Tryz.prog 185 #[z] fun A => R A) ( scall Tryz.prog 192 #[.bool false, .int .i64 32] fun B => sbuildSlR 49 1 (.int .i64 0) 2 #[(0, d), (1, B)] fun C => scall Tryz.prog 185 #[C] fun D => R D))
theorem S186_ok {v0 v1 v2 : Value} {R : Value → SP} {l : St} (h : S186 v0 v1 v2 R l) : scall Tryz.prog 186 #[v0, v1, v2] R l := sok [v0, v1, v2] (.seq .leaf (.seq .leaf .leaf)) Tryz.func186 (by kernel_rfl) (by kernel_rfl) h
def S187 (a b : Value) (R : Value → SP) : SP := snew (Value.cells b) 27 fun c => sfa 1 c fun d => sload none d fun e => scall Tryz.prog 205 #[a, e, .int .i64 2] fun f => sun .not f fun g => scall Tryz.prog 192 #[g, .int .i64 34] fun h => R h
theorem S187_ok {v0 v1 : Value} {R : Value → SP} {l : St} (h : S187 v0 v1 R l) : scall Tryz.prog 187 #[v0, v1] R l := sok [v0, v1] (.seq .leaf (.seq .leaf .leaf)) Tryz.func187 (by kernel_rfl) (by kernel_rfl) h
def S188 (a c d : Value) (R : Value → SP) : SP := snew #[.int .i64 0, .int .i64 0, .int .i64 0, .int .i64 0, .int .i64 0, .int .i64 0, .int .i64 0] 42 fun b => snil a fun e => sfa 4 e fun f => sfa 2 f fun g => sfa 0 g fun h => sload none h fun i => snil a fun j => sfa 4 j fun k => sfa 2 k fun l => sfa 1 l fun m => sload none m fun n => sbuildR [(0, 1), (1, 1), (2, 1), (3, 1), (4, 1), (5, 1), (6, 1)] #[.int .i64 0, .int .i64 0, .int .i64 0, .int .i64 0, .int .i64 0, .int .i64 0, .int .i64 0] #[(1, c), (2, d), (3, i), (4, n)] fun o => sstore 7 b o <| sload (some 7) b fun vr => R vr
theorem S188_ok {v0 v1 v2 : Value} {R : Value → SP} {l : St} (h : S188 v0 v1 v2 R l) : scall Tryz.prog 188 #[v0, v1, v2] R l := sok [v0, v1, v2] (.seq .leaf (.seq (.draw [(0, []), (1, []), (2, []), (3, []), (4, []), (5, []), (6, []), (7, []), (8, []), (9, []), (10, []), (11, []), (12, []), (13, []), (14, []), (15, [])]) .leaf)) Tryz.func188 (by kernel_rfl) (by kernel_rfl) h
def S192 (a b : Value) (R : Value → SP) : SP := sguard a ( R b) ( R (.int .i64 0))
theorem S192_ok {v0 v1 : Value} {R : Value → SP} {l : St} (h : S192 v0 v1 R l) : scall Tryz.prog 192 #[v0, v1] R l := sok [v0, v1] (.seq .leaf (.seq (.seq .leaf (.cond (.seq .leaf .leaf) .leaf)) (.seq .leaf .leaf))) Tryz.func192 (by kernel_rfl) (by kernel_rfl) h
def S194 (a b : Value) (R : Value → SP) : SP := snew (Value.cells b) 27 fun c => sfa 1 c fun d => sload none d fun e => scall Tryz.prog 202 #[a, e] fun f => sfield none 1 f fun g => sbin Tryz.prog .none 3 .eql g (.int .i64 1) fun h => R h
theorem S194_ok {v0 v1 : Value} {R : Value → SP} {l : St} (h : S194 v0 v1 R l) : scall Tryz.prog 194 #[v0, v1] R l := sok [v0, v1] (.seq .leaf (.seq .leaf .leaf)) Tryz.func194 (by kernel_rfl) (by kernel_rfl) h
def S196 (b c : Value) (R : Value → SP) : SP := snew (Value.cells c) 48 fun a => sfa 3 a fun d => sfa 0 d fun e => sload none e fun f => sfa 0 a fun g => sfa 0 g fun h => sload none h fun i => sbin Tryz.prog .none 3 .neq f i fun j => sguard j ( scall Tryz.prog 192 #[.bool true, .int .i64 48] fun k => R k) ( snil b fun l => sfa 0 l fun m => sfa 1 m fun n => sload none n fun o => sfa 3 a fun p => sfa 1 p fun q => sload none q fun r => scall Tryz.prog 237 #[o, r] fun t => scall Tryz.prog 192 #[t, .int .i64 48] fun u => R u)
theorem S196_ok {v0 v1 : Value} {R : Value → SP} {l : St} (h : S196 v0 v1 R l) : scall Tryz.prog 196 #[v0, v1] R l := sok [v0, v1] (.seq .leaf (.seq (.draw [(0, []), (1, []), (2, []), (3, []), (4, []), (5, []), (6, []), (7, []), (8, []), (9, []), (10, []), (11, []), (12, []), (13, []), (14, []), (15, []), (16, []), (17, []), (18, []), (19, [])]) .leaf)) Tryz.func196 (by kernel_rfl) (by kernel_rfl) h
def S199 (a g : Value) (R : Value → SP) : SP := snew (Value.cells g) 48 fun d => snil a fun h => sfa 4 h fun i => sfa 2 i fun b => sload (some 2) b fun c => sfa 0 d fun j => sfa 1 j fun k => sload none k fun l => sfa 3 d fun m => sfa 1 m fun e => sload none e fun f => scall Tryz.prog 202 #[a, l] fun n => sand (sload none e fun v' _ => v' = f) <| sand (sload (some 2) b fun v' _ => v' = c) <| scall Tryz.prog 202 #[a, f] fun o => sand (sload (some 2) b fun v' _ => v' = c) <| scall Tryz.prog 238 #[c, n, o] fun p => scall Tryz.prog 192 #[p, .int .i64 31] fun q => R q
theorem S199_ok {v0 v1 : Value} {R : Value → SP} {l : St} (h : S199 v0 v1 R l) : scall Tryz.prog 199 #[v0, v1] R l := sok [v0, v1] (.seq .leaf (.seq (.draw [(0, []), (1, []), (2, []), (3, []), (4, []), (5, []), (6, []), (7, []), (8, []), (10, []), (11, []), (12, []), (13, []), (9, [4, 13]), (14, [4]), (15, []), (16, []), (17, [])]) .leaf)) Tryz.func199 (by kernel_rfl) (by kernel_rfl) h
def S201 (a c : Value) (R : Value → SP) : SP := snil a fun d => sfa 8 d fun e => sfa 2 e fun f => sload none f fun g => scall Tryz.prog 184 #[a, g, c] fun b => sext b 0 fun h => sext b 1 fun i => snil a fun j => sfa 25 j fun k => sstore 7 k h <| R i
theorem S201_ok {v0 v1 : Value} {R : Value → SP} {l : St} (h : S201 v0 v1 R l) : scall Tryz.prog 201 #[v0, v1] R l := sok [v0, v1] (.seq .leaf (.seq .leaf (.seq .leaf .leaf))) Tryz.func201 (by kernel_rfl) (by kernel_rfl) h
def S202 (d e : Value) (R : Value → SP) : SP := snew #[.int .i64 0, .int .i64 0, .int .i64 0, .int .i64 0, .int .i64 0, .int .i64 0, .int .i64 0] 42 fun a => snil d fun f => sfa 0 f fun g => sfa 0 g fun h => sload none h fun i => scall Tryz.prog 16 #[i, e] fun b => sext b 0 fun j => sext b 1 fun _ => snew #[.int .i64 0, .int .i64 0, .int .i64 0, .int .i64 0, .int .i64 0, .int .i64 0, .int .i64 0] 42 fun c => sstore 7 c j <| sload (some 7) c fun k => sstore 7 a k <| sload (some 7) a fun vr => R vr
theorem S202_ok {v0 v1 : Value} {R : Value → SP} {l : St} (h : S202 v0 v1 R l) : scall Tryz.prog 202 #[v0, v1] R l := sok [v0, v1] (.seq .leaf (.seq .leaf (.seq .leaf .leaf))) Tryz.func202 (by kernel_rfl) (by kernel_rfl) h
def S203 (j : Value) (R : Value → SP) : SP := snew (Value.cells j) 186 fun a => sload none a fun k => snil k fun l => sfa 18 l fun m => sload none a fun g => snil g fun n => sfa 25 n fun o => snew #[.pointer none] 287 fun b => snew #[.pointer none] 287 fun c => sstore 1 b m <| sand (sload none a fun v' _ => v' = g) <| sstore 1 c o <| sload none a fun p => sload none b fun q => snil q fun r => sfa 3 r fun t => sload (some 2) t fun u => scall Tryz.prog 194 #[p, u] fun w => snew #[.bool false] 4 fun d => sstore 1 d w <| sjoin1 (fun x => R x) fun h => sbuildSlR 189 1 .nilFunc 11 #[(0, .func (.func 239) #[] #[b]), (1, .func (.func 240) #[] #[b, c]), (2, .func (.func 241) #[] #[c, d]), (3, .func (.func 242) #[] #[b, c]), (4, .func (.func 243) #[] #[a, b]), (5, .func (.func 244) #[] #[c, a]), (6, .func (.func 245) #[] #[a, b]), (7, .func (.func 246) #[] #[a, c]), (8, .func (.func 247) #[] #[a, b]), (9, .func (.func 248) #[] #[c, a]), (10, .func (.func 249) #[] #[d, b, c, a])] fun i => slen .slice i fun y => sloop2 (.int .i64 0) (.int .i64 0) fun z A e => sbin Tryz.prog .none 3 .lss e y fun B => sguard B ( sidx none 1 i e fun C => sload none C fun D => scallv Tryz.prog D #[] fun f => sbin Tryz.prog .none 49 .neq f (.int .i64 0) fun E => sguard E ( h [f]) ( sbin Tryz.prog .none 3 .add e (.int .i64 1) fun F => z [f, F])) ( h [A])
theorem S203_ok {v0 : Value} {R : Value → SP} {l : St} (h : S203 v0 R l) : scall Tryz.prog 203 #[v0] R l := sok [v0] (.seq .leaf (.one (.seq (.draw [(0, []), (1, []), (2, []), (3, []), (4, []), (5, []), (6, []), (7, []), (8, [3]), (9, [])]) (.seq (.draw [(0, []), (1, []), (2, []), (3, []), (4, []), (5, []), (6, []), (7, [])]) (.seq .leaf (.join [2, 7, 20, 21, 22, 23, 24, 25, 26, 27, 28, 29, 30, 31, 32, 33, 34, 35, 36, 37, 38, 39, 40, 41] [2] (.seq .leaf (.one (.loop [2, 7, 33, 34, 35, 36, 37, 38, 39, 40, 41] [2, 33] (.seq .leaf (.seq (.cond .leaf .leaf) (.seq (.one (.seq .leaf (.seq .leaf (.seq .leaf (.cond .leaf .leaf))))) .leaf)))))) (.seq .leaf .leaf))))))) Tryz.func203 (by kernel_rfl) (by kernel_rfl) h
def S204 (b c : Value) (R : Value → SP) : SP := snew (Value.cells b) 54 fun a => snew (Value.cells c) 42 fun d => sfa 0 a fun e => sload none e fun f => sbin Tryz.prog .none 3 .eql f (.int .i64 0) fun g => sguard g ( R (.bool true)) ( sfa 0 a fun h => sload none h fun i => sfa 3 d fun j => sload none j fun k => sbin Tryz.prog .none 3 .eql i k fun l => R l)
theorem S204_ok {v0 v1 : Value} {R : Value → SP} {l : St} (h : S204 v0 v1 R l) : scall Tryz.prog 204 #[v0, v1] R l := sok [v0, v1] (.seq .leaf (.seq .leaf .leaf)) Tryz.func204 (by kernel_rfl) (by kernel_rfl) h
def S205 (a d e : Value) (R : Value → SP) : SP := snil a fun f => sfa 4 f fun g => sfa 2 g fun b => sload (some 2) b fun c => scall Tryz.prog 202 #[a, d] fun h => sand (sload (some 2) b fun v' _ => v' = c) <| scall Tryz.prog 178 #[c, h, e] fun i => R i
theorem S205_ok {v0 v1 v2 : Value} {R : Value → SP} {l : St} (h : S205 v0 v1 v2 R l) : scall Tryz.prog 205 #[v0, v1, v2] R l := sok [v0, v1, v2] (.seq .leaf (.seq (.draw [(0, []), (1, []), (2, []), (3, []), (4, []), (5, []), (6, []), (8, []), (7, [4]), (9, []), (10, [])]) .leaf)) Tryz.func205 (by kernel_rfl) (by kernel_rfl) h
def S208 (f g : Value) (R : Value → SP) : SP := snew (Value.cells g) 27 fun a => snew #[.int .i64 0, .int .i64 0] 27 fun b => snil f fun h => sfa 0 h fun i => sload none i fun j => sfa 0 a fun k => sload none k fun l => slookup (.int .i64) (some (.agg #[.int .i64 0, .int .i64 0, .int .i64 0])) j l true fun e => sext e 0 fun m => sext e 1 fun n => snew #[.int .i64 0, .int .i64 0, .int .i64 0] 159 fun c => sstore 3 c m <| sjoin1 (fun o => sguard o ( sload (some 2) a fun p => sstore 2 b p <| sload (some 2) b fun vr => R (.tuple #[vr, .bool false])) ( sfa 1 c fun q => sload (some 2) q fun r => sstore 2 b r <| sload (some 2) b fun t => R (.tuple #[t, .bool true]))) fun d => sun .not n fun u => sguard u ( d [.bool true]) ( sfa 0 a fun w => sload none w fun x => sbin Tryz.prog .none 3 .eql x (.int .i64 0) fun y => sguard y ( d [.bool true]) ( sfa 0 c fun z => sload none z fun A => sfa 1 a fun B => sload none B fun C => sbin Tryz.prog .none 3 .neq A C fun D => d [D]))
theorem S208_ok {v0 v1 : Value} {R : Value → SP} {l : St} (h : S208 v0 v1 R l) : scall Tryz.prog 208 #[v0, v1] R l := sok [v0, v1] (.seq .leaf (.seq (.draw [(0, []), (1, []), (2, []), (3, []), (4, []), (5, []), (6, []), (7, []), (8, []), (9, []), (10, []), (11, []), (12, [])]) (.seq (.join [18, 19, 20, 21, 22, 23, 24, 25, 26, 27, 28, 29, 30, 31] [31] .leaf (.cond (.seq .leaf .leaf) .leaf)) (.seq .leaf .leaf)))) Tryz.func208 (by kernel_rfl) (by kernel_rfl) h
def S219 (b c : Value) (R : Value → SP) : SP := snew (Value.cells b) 23 fun a => srangeX Tryz.prog c 1 (fun xs1 cont1 _ => sarg xs1 0 fun d => sload none a fun e => sbuildSlR 3 1 (.int .i64 0) 1 #[(0, d)] fun f => sbuiltin Tryz.prog .append #[23, 23] 23 #[false, false] #[e, f] fun g => sstore 1 a g <| cont1) ( sload none a fun h => R h) ( R (.slice none 0 0)) []
theorem S219_ok {v0 v1 : Value} {R : Value → SP} {l : St} (h : S219 v0 v1 R l) : scall Tryz.prog 219 #[v0, v1] R l := sok [v0, v1] (.seq .leaf (.seq (.seq .leaf (.one (.range [] .leaf (.one .leaf)))) (.seq .leaf .leaf))) Tryz.func219 (by kernel_rfl) (by kernel_rfl) h
def S222 (c d : Value) (R : Value → SP) : SP := snew (Value.cells c) 141 fun e => sload none d fun f => scall Tryz.prog 223 #[f, .string ⟨#[47]⟩] fun g => srangeX Tryz.prog g 1 (fun xs1 cont1 h => sarg xs1 0 fun a => sjoin1 (fun i => sguard i ( h none) ( cont1)) fun b => sbin Tryz.prog .none 9 .neq a (.string ⟨#[]⟩) fun j => sguard j ( sload none e fun k => scallv Tryz.prog k #[a] fun l => sun .not l fun m => b [m]) ( b [.bool false])) ( R (.tuple #[])) ( R (.tuple #[])) []
theorem S222_ok {v0 v1 : Value} {R : Value → SP} {l : St} (h : S222 v0 v1 R l) : scall Tryz.prog 222 #[v0, v1] R l := sok [v0, v1] (.seq .leaf (.seq .leaf (.one (.range [] .leaf (.one (.join [7, 8, 9, 10, 11, 12, 13, 14] [14] .leaf (.cond .leaf .leaf))))))) Tryz.func222 (by kernel_rfl) (by kernel_rfl) h
def S223 (a b : Value) (R : Value → SP) : SP := scall Tryz.prog 264 #[a, b, .int .i64 0] fun c => R c
theorem S223_ok {v0 v1 : Value} {R : Value → SP} {l : St} (h : S223 v0 v1 R l) : scall Tryz.prog 223 #[v0, v1] R l := sok [v0, v1] (.seq .leaf (.seq .leaf .leaf)) Tryz.func223 (by kernel_rfl) (by kernel_rfl) h
def S224 (g : Value) (R : Value → SP) : SP := snew (Value.cells g) 221 fun a => sfa 2 a fun h => sload none h fun i => scall Tryz.prog 265 #[i, .string ⟨#[47]⟩] fun b => sjoin1 (fun c => sjoin1 (fun j => R j) fun d => sjoin1 (fun k => sguard k ( sbin Tryz.prog .none 9 .add c (.string ⟨#[47]⟩) fun l => d [l]) ( d [c])) fun e => sfa 1 a fun m => sload none m fun n => sguard n ( sfa 2 a fun o => sload none o fun p => slen .slice p fun q => sbin Tryz.prog .none 3 .gtr q (.int .i64 0) fun r => e [r]) ( e [.bool false])) fun f => sfa 0 a fun t => sload none t fun u => sguard u ( sbin Tryz.prog .none 9 .add (.string ⟨#[47]⟩) b fun w => f [w]) ( f [b])
theorem S224_ok {v0 : Value} {R : Value → SP} {l : St} (h : S224 v0 R l) : scall Tryz.prog 224 #[v0] R l := sok [v0] (.seq .leaf (.seq .leaf (.join [3, 7, 8, 9, 10] [3] (.seq .leaf (.cond .leaf .leaf)) (.join [3, 11, 12, 13, 14, 15, 16, 17, 18, 19, 20] [3] (.join [11, 12, 13, 14, 15, 16, 17, 18] [18] .leaf (.cond .leaf .leaf)) (.seq .leaf .leaf))))) Tryz.func224 (by kernel_rfl) (by kernel_rfl) h
end Go.Sl
namespace Go.Sl
variable [Ghost]
open Go Go.Proofs
def S225 (a : Value) (R : Value → SP) : SP := slen .slice a fun g => sloop2 (.int .i64 0) (.int .i64 0) fun h d b => sbin Tryz.prog .none 3 .lss b g fun i => sguard i ( sidx none 1 a b fun j => sload none j fun k => slen .slice k fun l => sbin Tryz.prog .none 3 .add d l fun e => sbin Tryz.prog .none 3 .lss e (.int .i64 0) fun m => sguard m ( (fun _ => False)) ( sbin Tryz.prog .none 3 .add b (.int .i64 1) fun n => h [e, n])) ( scall Tryz.prog 266 #[.slice none 0 0, d] fun o => slen .slice a fun p => sloop2 o (.int .i64 0) fun q f c => sbin Tryz.prog .none 3 .lss c p fun r => sguard r ( sidx none 1 a c fun t => sload none t fun u => sbuiltin Tryz.prog .append #[59, 59] 59 #[false, false] #[f, u] fun w => sbin Tryz.prog .none 3 .add c (.int .i64 1) fun x => q [w, x]) ( R f))
theorem S225_ok {v0 : Value} {R : Value → SP} {l : St} (h : S225 v0 R l) : scall Tryz.prog 225 #[v0] R l := sok [v0] (.seq .leaf (.seq .leaf (.seq (.seq .leaf (.one (.loop [3, 5, 11, 12, 13, 14, 15, 16, 17, 18, 19, 20, 21, 22] [3, 11] (.seq .leaf (.seq (.cond .leaf .leaf) (.seq (.one (.seq .leaf (.seq .leaf (.seq .leaf (.cond .leaf .leaf))))) .leaf)))))) (.seq .leaf (.seq (.seq .leaf (.one (.loop [6, 8, 27, 28, 29, 30, 31, 32, 33, 34] [6, 27] (.seq .leaf (.seq (.cond .leaf .leaf) (.seq (.one (.seq .leaf .leaf)) .leaf)))))) (.seq .leaf .leaf)))))) Tryz.func225 (by kernel_rfl) (by kernel_rfl) h
def S237 (d e : Value) (R : Value → SP) : SP := snew (Value.cells e) 3 fun f => snew #[.bool false] 4 fun a => scall Tryz.prog 128 #[d] fun g => srangeX Tryz.prog g 2 (fun xs1 cont1 h => sarg xs1 0 fun i => sarg xs1 1 fun j => snew #[.int .i64 0, .int .i64 0, .int .i64 0] 159 fun b => sstore 3 b j <| sjoin1 (fun k => sguard k ( sstore 1 a (.bool true) <| h none) ( cont1)) fun c => sbin Tryz.prog .none 3 .gtr i (.int .i64 0) fun l => sguard l ( sfa 1 b fun m => sfa 1 m fun n => sload none n fun o => sload none f fun p => sbin Tryz.prog .none 3 .eql o p fun q => c [q]) ( c [.bool false])) ( sstore 1 a (.bool false) <| sload none a fun vr => R vr) ( sload none a fun r => R r) []
theorem S237_ok {v0 v1 : Value} {R : Value → SP} {l : St} (h : S237 v0 v1 R l) : scall Tryz.prog 237 #[v0, v1] R l := sok [v0, v1] (.seq .leaf (.seq (.seq .leaf (.one (.range [] (.seq .leaf .leaf) (.one (.join [11, 12, 13, 14, 15, 16, 17, 18, 19] [19] .leaf (.cond (.seq .leaf .leaf) .leaf)))))) (.seq .leaf .leaf))) Tryz.func237 (by kernel_rfl) (by kernel_rfl) h
def S238 (c d e : Value) (R : Value → SP) : SP := snew (Value.cells c) 54 fun a => snew (Value.cells d) 42 fun b => snew (Value.cells e) 42 fun f => sfa 2 b fun g => sload none g fun h => sbin Tryz.prog .none 3 .and h (.int .i64 512) fun i => sbin Tryz.prog .none 3 .neq i (.int .i64 0) fun j => sguard j ( sload (some 2) a fun k => sload (some 7) b fun l => scall Tryz.prog 204 #[k, l] fun m => sun .not m fun n => sguard n ( sload (some 2) a fun o => sload (some 7) f fun p => scall Tryz.prog 204 #[o, p] fun q => sun .not q fun r => R r) ( R (.bool false))) ( R (.bool false))
theorem S238_ok {v0 v1 v2 : Value} {R : Value → SP} {l : St} (h : S238 v0 v1 v2 R l) : scall Tryz.prog 238 #[v0, v1, v2] R l := sok [v0, v1, v2] (.seq .leaf (.seq .leaf .leaf)) Tryz.func238 (by kernel_rfl) (by kernel_rfl) h
def S239 (a : Value) (R : Value → SP) : SP := sload none a fun b => snil b fun c => sfa 5 c fun d => sload none d fun e => sun .not e fun f => scall Tryz.prog 192 #[f, .int .i64 32] fun g => R g
theorem S239_ok {v0 : Value} {R : Value → SP} {l : St} (h : S239 v0 R l) : scall Tryz.prog 239 #[v0] R l := sok [v0] (.seq .leaf (.seq .leaf .leaf)) Tryz.func239 (by kernel_rfl) (by kernel_rfl) h
def S240 (a b : Value) (R : Value → SP) : SP := sload none a fun c => snil c fun d => sfa 2 d fun e => sload none e fun f => sbin Tryz.prog .none 9 .eql f (.string ⟨#[]⟩) fun g => sguard g ( scall Tryz.prog 192 #[.bool true, .int .i64 48] fun h => R h) ( sload none b fun i => snil i fun j => sfa 2 j fun k => sload none k fun l => sbin Tryz.prog .none 9 .eql l (.string ⟨#[]⟩) fun m => scall Tryz.prog 192 #[m, .int .i64 48] fun n => R n)
theorem S240_ok {v0 v1 : Value} {R : Value → SP} {l : St} (h : S240 v0 v1 R l) : scall Tryz.prog 240 #[v0, v1] R l := sok [v0, v1] (.seq .leaf (.seq .leaf .leaf)) Tryz.func240 (by kernel_rfl) (by kernel_rfl) h
def S241 (a b : Value) (R : Value → SP) : SP := sload none a fun c => snil c fun d => sfa 6 d fun e => sload none e fun f => sguard f ( sload none a fun g => snil g fun h => sfa 5 h fun i => sload none i fun j => sun .not j fun k => sguard k ( sload none b fun l => sun .not l fun m => scall Tryz.prog 192 #[m, .int .i64 37] fun n => R n) ( scall Tryz.prog 192 #[.bool false, .int .i64 37] fun o => R o)) ( scall Tryz.prog 192 #[.bool false, .int .i64 37] fun p => R p)
theorem S241_ok {v0 v1 : Value} {R : Value → SP} {l : St} (h : S241 v0 v1 R l) : scall Tryz.prog 241 #[v0, v1] R l := sok [v0, v1] (.seq .leaf (.seq .leaf .leaf)) Tryz.func241 (by kernel_rfl) (by kernel_rfl) h
def S242 (a b : Value) (R : Value → SP) : SP := sload none a fun c => snil c fun d => sfa 0 d fun e => sfa 0 e fun f => sload none f fun g => sload none b fun h => snil h fun i => sfa 0 i fun j => sfa 0 j fun k => sload none k fun l => sbin Tryz.prog .none 3 .neq g l fun m => scall Tryz.prog 192 #[m, .int .i64 36] fun n => R n
theorem S242_ok {v0 v1 : Value} {R : Value → SP} {l : St} (h : S242 v0 v1 R l) : scall Tryz.prog 242 #[v0, v1] R l := sok [v0, v1] (.seq .leaf (.seq (.draw [(0, []), (1, []), (2, []), (3, []), (4, []), (5, []), (6, []), (7, []), (8, []), (9, []), (10, []), (11, []), (12, [])]) .leaf)) Tryz.func242 (by kernel_rfl) (by kernel_rfl) h
def S243 (a b : Value) (R : Value → SP) : SP := sload none a fun c => sload none b fun d => snil d fun e => sload (some 7) e fun f => scall Tryz.prog 196 #[c, f] fun g => R g
theorem S243_ok {v0 v1 : Value} {R : Value → SP} {l : St} (h : S243 v0 v1 R l) : scall Tryz.prog 243 #[v0, v1] R l := sok [v0, v1] (.seq .leaf (.seq (.draw [(0, []), (1, []), (2, []), (3, []), (4, []), (5, [])]) .leaf)) Tryz.func243 (by kernel_rfl) (by kernel_rfl) h
def S244 (a b : Value) (R : Value → SP) : SP := sload none a fun c => snil c fun d => sfa 5 d fun e => sload none e fun f => sguard f ( sload none b fun g => sload none a fun h => snil h fun i => sload (some 7) i fun j => scall Tryz.prog 196 #[g, j] fun k => sbin Tryz.prog .none 49 .neq k (.int .i64 0) fun l => scall Tryz.prog 192 #[l, .int .i64 48] fun m => R m) ( scall Tryz.prog 192 #[.bool false, .int .i64 48] fun n => R n)
theorem S244_ok {v0 v1 : Value} {R : Value → SP} {l : St} (h : S244 v0 v1 R l) : scall Tryz.prog 244 #[v0, v1] R l := sok [v0, v1] (.seq .leaf (.seq (.draw [(0, []), (1, []), (2, []), (3, []), (4, []), (5, []), (6, []), (7, []), (8, []), (9, []), (10, []), (11, []), (12, []), (13, [])]) .leaf)) Tryz.func244 (by kernel_rfl) (by kernel_rfl) h
def S245 (a b : Value) (R : Value → SP) : SP := sload none a fun c => sload none b fun d => snil d fun e => sfa 0 e fun f => sload (some 2) f fun g => scall Tryz.prog 187 #[c, g] fun h => R h
theorem S245_ok {v0 v1 : Value} {R : Value → SP} {l : St} (h : S245 v0 v1 R l) : scall Tryz.prog 245 #[v0, v1] R l := sok [v0, v1] (.seq .leaf (.seq (.draw [(0, []), (1, []), (2, []), (3, []), (4, []), (5, []), (6, [])]) .leaf)) Tryz.func245 (by kernel_rfl) (by kernel_rfl) h
def S246 (a b : Value) (R : Value → SP) : SP := sload none a fun c => sload none b fun d => snil d fun e => sfa 0 e fun f => sload (some 2) f fun g => scall Tryz.prog 187 #[c, g] fun h => R h
theorem S246_ok {v0 v1 : Value} {R : Value → SP} {l : St} (h : S246 v0 v1 R l) : scall Tryz.prog 246 #[v0, v1] R l := sok [v0, v1] (.seq .leaf (.seq (.draw [(0, []), (1, []), (2, []), (3, []), (4, []), (5, []), (6, [])]) .leaf)) Tryz.func246 (by kernel_rfl) (by kernel_rfl) h
def S247 (a b : Value) (R : Value → SP) : SP := sload none a fun c => sload none b fun d => snil d fun e => sload (some 7) e fun f => scall Tryz.prog 199 #[c, f] fun g => R g
theorem S247_ok {v0 v1 : Value} {R : Value → SP} {l : St} (h : S247 v0 v1 R l) : scall Tryz.prog 247 #[v0, v1] R l := sok [v0, v1] (.seq .leaf (.seq (.draw [(0, []), (1, []), (2, []), (3, []), (4, []), (5, [])]) .leaf)) Tryz.func247 (by kernel_rfl) (by kernel_rfl) h
def S248 (a b : Value) (R : Value → SP) : SP := sload none a fun c => snil c fun d => sfa 5 d fun e => sload none e fun f => sguard f ( sload none b fun g => sload none a fun h => snil h fun i => sload (some 7) i fun j => scall Tryz.prog 199 #[g, j] fun k => sbin Tryz.prog .none 49 .neq k (.int .i64 0) fun l => scall Tryz.prog 192 #[l, .int .i64 31] fun m => R m) ( scall Tryz.prog 192 #[.bool false, .int .i64 31] fun n => R n)
theorem S248_ok {v0 v1 : Value} {R : Value → SP} {l : St} (h : S248 v0 v1 R l) : scall Tryz.prog 248 #[v0, v1] R l := sok [v0, v1] (.seq .leaf (.seq (.draw [(0, []), (1, []), (2, []), (3, []), (4, []), (5, []), (6, []), (7, []), (8, []), (9, []), (10, []), (11, []), (12, []), (13, [])]) .leaf)) Tryz.func248 (by kernel_rfl) (by kernel_rfl) h
def S249 (b a c d : Value) (R : Value → SP) : SP := sload none b fun e => sguard e ( sload none a fun f => snil f fun g => sfa 0 g fun h => sfa 1 h fun i => sload none i fun j => sload none c fun k => snil k fun l => sfa 0 l fun m => sfa 1 m fun n => sload none n fun o => sbin Tryz.prog .none 3 .neq j o fun p => sguard p ( sload none d fun q => sload none a fun r => snil r fun t => sfa 3 t fun u => sfa 1 u fun w => sload none w fun x => scall Tryz.prog 205 #[q, x, .int .i64 2] fun y => sun .not y fun z => scall Tryz.prog 192 #[z, .int .i64 34] fun A => R A) ( scall Tryz.prog 192 #[.bool false, .int .i64 34] fun B => R B)) ( scall Tryz.prog 192 #[.bool false, .int .i64 34] fun C => R C)
theorem S249_ok {v0 v1 v2 v3 : Value} {R : Value → SP} {l : St} (h : S249 v0 v1 v2 v3 R l) : scall Tryz.prog 249 #[v0, v1, v2, v3] R l := sok [v0, v1, v2, v3] (.seq .leaf (.seq (.draw [(0, []), (1, []), (2, []), (3, []), (4, []), (5, []), (6, []), (7, []), (8, []), (9, []), (10, []), (11, []), (12, []), (13, []), (14, []), (15, []), (16, []), (17, []), (18, []), (19, []), (20, []), (21, []), (22, []), (23, []), (24, []), (25, [])]) .leaf)) Tryz.func249 (by kernel_rfl) (by kernel_rfl) h
end Go.Sl
namespace Go.Sl
variable [Ghost]
open Go Go.Mo Go.Proofs
attribute [local irreducible] snil sfa sext sfield sguard sun sbin slen sload sstore snew snewObj sbuildR sbuildSlR smakeMapR smakeSlR slookup smapset srangeMap snext sentry scall scallv sextern sbuiltin sidx sindex sslice sconv srangeX sarg sand sjoin0 sjoin1 sjoin2 sloop0 sloop1 sloop2
section
variable {l r : St} {p : Nat} {P : Pool} {c : Chunk} {n : Int} {R : Value → SP}
theorem pfile_ok (hk : Take l c r) (hP : PPool p P c) (hS : P.fs.length ≤ 2 ^ 30) (h : ∀ c', PPool p P.file.1 c' → R (vi P.file.2) (c' :: r)) : scall Tryz.prog 121 #[ptr p 0] R l := by
  obtain ⟨ty, m, es, clk, kv, xs, cs, hc, hxs, hm, hf⟩ := hP
  refine scall_perm (l' := pt p (.cells #[vi P.blocks, .map (some m), vi P.fs.length] ty) :: pt m (.map es clk) :: cs :: r) ?_ (scall_post (S121_ok ?_))
  · refine hk.trans (perm_of_ct fun a => ?_)
    have h1 := ct_of_perm hc a
    simp only [List.flatten_cons, ct_append, ct_cons, ct_nil, pt] at h1 ⊢
    omega
  have hw : IntKind.i64.wrap ((P.fs.length : Int) + 1) = ((P.fs.length + 1 : Nat) : Int) := by rw [wrap_id (by omega) (by omega)]; simp
  unfold S121
  (repeat' (first | refine z0 ?_ | refine z1 ?_ | refine z2 ?_ | refine z3 ?_ | refine z4 ?_ | refine z5 ?_ | refine z6 ?_ | refine z7 (fun hg => ?_) (fun hg => ?_) | refine z8 (fun hg => ?_) (fun hg => ?_) | refine z9 ?_ | refine za ?_ | refine zb ?_ | refine zc ?_ | refine zd ?_ | refine ze ?_ | refine zf ?_ | refine zg ?_ | refine zh ?_ | refine zi (fun _ => ?_) | refine zj (fun _ => ?_) | refine zk ?_ | refine zl ?_ ?_ | refine zm ?_ | refine zn ?_ | refine zo ?_ | exact (rfl : _ = _)))
  rename_i mb fb
  rw [hw]
  refine r_mapset (K := kInt) (a := ((P.fs.length + 1 : Nat) : Int)) (by exact kn) hm (fun es' clk' hm' => ⟨_, by exact chg, ?_⟩)
  (repeat' (first | refine z0 ?_ | refine z1 ?_ | refine z2 ?_ | refine z3 ?_ | refine z4 ?_ | refine z5 ?_ | refine z6 ?_ | refine z7 (fun hg => ?_) (fun hg => ?_) | refine z8 (fun hg => ?_) (fun hg => ?_) | refine z9 ?_ | refine za ?_ | refine zb ?_ | refine zc ?_ | refine zd ?_ | refine ze ?_ | refine zf ?_ | refine zg ?_ | refine zh ?_ | refine zi (fun _ => ?_) | refine zj (fun _ => ?_) | refine zk ?_ | refine zl ?_ ?_ | refine zm ?_ | refine zn ?_ | refine zo ?_ | exact (rfl : _ = _)))
  have hnot : ((P.fs.length + 1 : Nat) : Int) ∉ kv.map Prod.fst := by
    rw [pfiles_keys hf]
    exact fun hm => not_live_len P.fs _ rfl ((hxs.map _).mem_iff.1 hm)
  refine ⟨_, Ent.of_perm ?_, h ((p, .cells #[vi P.blocks, .map (some m), vi ((P.fs.length + 1 : Nat) : Int)] ty) :: (m, .map es' clk') :: ([(fb, .cells #[vi 0, .map (some mb)] 183), (mb, .map #[] 0)] ++ cs))
    ⟨ty, m, es', clk', (((P.fs.length + 1 : Nat) : Int), ptr fb 0) :: kv, (((P.fs.length + 1 : Nat) : Int), 0) :: xs, [(fb, .cells #[vi 0, .map (some mb)] 183), (mb, .map #[] 0)] ++ cs, ?_, ?_, ?_, ?_⟩⟩
  rotate_left
  · simp [Pool.file]
  · show _
    unfold Pool.file
    rw [liveFrom_snoc]
    refine (hxs.cons _).trans ?_
    have e : ((1 + P.fs.length : Nat) : Int) = ((P.fs.length + 1 : Nat) : Int) := by omega
    rw [e]
    exact (List.perm_append_singleton _ _).symm
  · rw [putK_of_not hnot] at hm'
    exact hm'.perm (List.perm_append_singleton _ _)
  · exact .cons ⟨_, mb, rfl⟩ hf
  · refine perm_of_ct fun a => ?_
    simp only [List.flatten_cons, List.flatten_append, List.flatten_nil, ct_append, ct_cons, ct_nil, pt, vi, ptr, vstr', Value.cells, tCells, nCells, List.append_nil]
    omega
theorem ppool_open (hk : Take l c r) (hP : PPool p P c) : ∃ ty m es clk kv xs cs, l.flatten.Perm (pt p (.cells #[vi P.blocks, .map (some m), vi P.fs.length] ty) :: pt m (.map es clk) :: cs :: r).flatten ∧ xs.Perm (liveFrom 1 P.fs) ∧ MapOf kInt es clk kv ∧ PFiles xs kv cs := by
  obtain ⟨ty, m, es, clk, kv, xs, cs, hc, hxs, hm, hf⟩ := hP
  refine ⟨ty, m, es, clk, kv, xs, cs, hk.trans (perm_of_ct fun a => ?_), hxs, hm, hf⟩
  have h1 := ct_of_perm hc a
  simp only [List.flatten_cons, ct_append, ct_cons, ct_nil, pt] at h1 ⊢
  omega
theorem ppool_pick (hk : Take l c r) (hP : PPool p P c) {s : Int} (hs : geti P.fs n = some s) : ∃ ty tf m mf b es clk kv xs cs, l.flatten.Perm (pt b (.cells #[vi s, .map (some mf)] tf) :: pt mf (.map #[] 0) :: pt p (.cells #[vi P.blocks, .map (some m), vi P.fs.length] ty) :: pt m (.map es clk) :: cs :: r).flatten ∧
    ((n, s) :: xs).Perm (liveFrom 1 P.fs) ∧ MapOf kInt es clk ((n, ptr b 0) :: kv) ∧ PFiles xs kv cs := by
  obtain ⟨ty, m, es, clk, kv, xs, cs, hc, hxs, hm, hf⟩ := ppool_open hk hP
  obtain ⟨b, nc, xs', kv', cs', ⟨tf, mf, rfl⟩, h2, h3, h4, h5⟩ := pfiles_pick hf (hxs.mem_iff.2 ((geti_live P.fs n s).1 hs))
  refine ⟨ty, tf, m, mf, b, es, clk, kv', xs', cs', hc.trans (perm_of_ct fun a => ?_), h3.symm.trans hxs, hm.perm h4, h2⟩
  have h1 := ct_of_perm h5 a
  simp only [List.flatten_cons, ct_append, ct_cons, ct_nil, pt] at h1 ⊢
  omega
theorem pool_none {kv : List (Int × Value)} {xs : List (Int × Int)} {cs : Chunk} (hn : geti P.fs n = none) (hxs : xs.Perm (liveFrom 1 P.fs)) (hf : PFiles xs kv cs) : lk n kv = none := by
  refine lk_none ?_
  rw [pfiles_keys hf]
  intro hm
  obtain ⟨⟨m', x⟩, hm2, rfl⟩ := List.mem_map.1 ((hxs.map Prod.fst).mem_iff.1 hm)
  have := (geti_live P.fs m' x).2 hm2
  rw [this] at hn; cases hn
theorem pdrop_ok (hk : Take l c r) (hP : PPool p P c) (hb : 0 ≤ P.blocks ∧ P.blocks ≤ 2 ^ 30) (h : ∀ c' v, PPool p (P.drop n) c' → R v (c' :: r)) : scall Tryz.prog 174 #[ptr p 0, vi n] R l := by
  cases hs : geti P.fs n with
  | none =>
    have hd : P.drop n = P := by unfold Pool.drop; rw [seti_none_id hs]
    rw [hd] at h
    obtain ⟨ty, m, es, clk, kv, xs, cs, hc, hxs, hm, hf⟩ := ppool_open hk hP
    refine scall_perm hc (scall_post (S174_ok ?_))
    unfold S174
    (repeat' (first | refine z0 ?_ | refine z1 ?_ | refine z2 ?_ | refine z3 ?_ | refine z4 ?_ | refine z5 ?_ | refine z6 ?_ | refine z7 (fun hg => ?_) (fun hg => ?_) | refine z8 (fun hg => ?_) (fun hg => ?_) | refine z9 ?_ | refine za ?_ | refine zb ?_ | refine zc ?_ | refine zd ?_ | refine ze ?_ | refine zf ?_ | refine zg ?_ | refine zh ?_ | refine zi (fun _ => ?_) | refine zj (fun _ => ?_) | refine zk ?_ | refine zl ?_ ?_ | refine zm ?_ | refine zn ?_ | refine zo ?_ | exact (rfl : _ = _)))
    refine r_look1 (K := kInt) (a := n) (by exact kn) hm ?_
    rw [pool_none hs hxs hf]
    simp only [Option.getD_none]
    (repeat' (first | refine z0 ?_ | refine z1 ?_ | refine z2 ?_ | refine z3 ?_ | refine z4 ?_ | refine z5 ?_ | refine z6 ?_ | refine z7 (fun hg => ?_) (fun hg => ?_) | refine z8 (fun hg => ?_) (fun hg => ?_) | refine z9 ?_ | refine za ?_ | refine zb ?_ | refine zc ?_ | refine zd ?_ | refine ze ?_ | refine zf ?_ | refine zg ?_ | refine zh ?_ | refine zi (fun _ => ?_) | refine zj (fun _ => ?_) | refine zk ?_ | refine zl ?_ ?_ | refine zm ?_ | refine zn ?_ | refine zo ?_ | exact (rfl : _ = _)))
    exact ⟨_, ent_close [_, _, _] r, h _ _ ⟨ty, m, es, clk, kv, xs, cs, by simp [pt], hxs, hm, hf⟩⟩
  | some s =>
    obtain ⟨ty, tf, m, mf, b, es, clk, kv, xs, cs, hc, hxs, hm, hf⟩ := ppool_pick hk hP hs
    refine scall_perm hc (scall_post (S174_ok ?_))
    unfold S174
    (repeat' (first | refine z0 ?_ | refine z1 ?_ | refine z2 ?_ | refine z3 ?_ | refine z4 ?_ | refine z5 ?_ | refine z6 ?_ | refine z7 (fun hg => ?_) (fun hg => ?_) | refine z8 (fun hg => ?_) (fun hg => ?_) | refine z9 ?_ | refine za ?_ | refine zb ?_ | refine zc ?_ | refine zd ?_ | refine ze ?_ | refine zf ?_ | refine zg ?_ | refine zh ?_ | refine zi (fun _ => ?_) | refine zj (fun _ => ?_) | refine zk ?_ | refine zl ?_ ?_ | refine zm ?_ | refine zn ?_ | refine zo ?_ | exact (rfl : _ = _)))
    refine r_look1 (K := kInt) (a := n) (by exact kn) hm ?_
    simp only [lk, if_true, Option.getD_some]
    (repeat' (first | refine z0 ?_ | refine z1 ?_ | refine z2 ?_ | refine z3 ?_ | refine z4 ?_ | refine z5 ?_ | refine z6 ?_ | refine z7 (fun hg => ?_) (fun hg => ?_) | refine z8 (fun hg => ?_) (fun hg => ?_) | refine z9 ?_ | refine za ?_ | refine zb ?_ | refine zc ?_ | refine zd ?_ | refine ze ?_ | refine zf ?_ | refine zg ?_ | refine zh ?_ | refine zi (fun _ => ?_) | refine zj (fun _ => ?_) | refine zk ?_ | refine zl ?_ ?_ | refine zm ?_ | refine zn ?_ | refine zo ?_ | exact (rfl : _ = _)))
    have hw : IntKind.i64.wrap (P.blocks + ((#[] : Array MapEntry).size : Int)) = P.blocks := by rw [wrap_id (by simp; omega) (by simp; omega)]; simp
    rw [hw]
    refine r_delete (K := kInt) (a := n) (kt := 3) (ety := 177) (by kernel_rfl) (by kernel_rfl) (.inl ⟨_, rfl⟩) (by exact kn) hm (fun es' hm' => ⟨_, by exact chg, ?_⟩)
    (repeat' (first | refine z0 ?_ | refine z1 ?_ | refine z2 ?_ | refine z3 ?_ | refine z4 ?_ | refine z5 ?_ | refine z6 ?_ | refine z7 (fun hg => ?_) (fun hg => ?_) | refine z8 (fun hg => ?_) (fun hg => ?_) | refine z9 ?_ | refine za ?_ | refine zb ?_ | refine zc ?_ | refine zd ?_ | refine ze ?_ | refine zf ?_ | refine zg ?_ | refine zh ?_ | refine zi (fun _ => ?_) | refine zj (fun _ => ?_) | refine zk ?_ | refine zl ?_ ?_ | refine zm ?_ | refine zn ?_ | refine zo ?_ | exact (rfl : _ = _)))
    rw [delK_head] at hm'
    have hlen : (seti P.fs n none).length = P.fs.length := seti_len _ _ _
    refine ⟨_, ?_, h ([pt p (.cells #[vi P.blocks, .map (some m), vi P.fs.length] ty), pt m (.map es' clk), cs].flatten) _ ⟨ty, m, es', clk, kv, xs, cs, ?_, pdel_lives hs hxs, hm', hf⟩⟩
    · exact ((Ent.drop _ _).trans (.drop _ _)).trans (ent_close [_, _, _] r)
    · show List.Perm _ ((p, Obj.cells #[vi P.blocks, .map (some m), vi (seti P.fs n none).length] ty) :: _)
      rw [hlen]; simp [pt]
end
end Go.Sl
namespace Go.Sl
variable [Ghost]
open Go Go.Mo Go.Proofs
attribute [local irreducible] snil sfa sext sfield sguard sun sbin slen sload sstore snew snewObj sbuildR sbuildSlR smakeMapR smakeSlR slookup smapset srangeMap snext sentry scall scallv sextern sbuiltin sidx sindex sslice sconv srangeX sarg sand sjoin0 sjoin1 sjoin2 sloop0 sloop1 sloop2
section
variable {l r : St} {t : Nat} {T : Tree} {β : Int → Nat} {c : Chunk} {n : Int} {x : Nd} {R : Value → SP}
theorem nodeAt_open {b : Nat} {nm : Value} {up : Int} {tn : TypeId} {mc : Chunk} (hm : NMap x nm mc) (hu : UpOk n x up) (m : St) : NodeAt (pt b (.cells (nCells n x nm up) tn) :: mc :: m) b n x := by
  refine ⟨(b, .cells (nCells n x nm up) tn) :: mc, ?_, tn, up, nm, mc, rfl, hu, hm⟩
  intro b' o h
  rcases List.mem_cons.1 h with e | h
  · simp only [Prod.mk.injEq] at e
    obtain ⟨rfl, rfl⟩ := e
    exact knows_pt _ _ _
  · exact knows_there _ (knows_in h _)
theorem tdrop_ok (hk : Take l c r) (hP : PTree t T β c) (hS : Small T) (hx : T.at n = some x) (h : ∀ c' v, PTree t (T.reap n) β c' → R v (c' :: r)) : scall Tryz.prog 123 #[ptr t 0, ptr (β n) 0] R l := by
  obtain ⟨tt, tn, p, m, turns, es, clk, xs, cs, pc, nm, up, mc, hpm, hxs, hm, hns, hpp, hnm, hup⟩ := tree_open1 hk hP hx
  refine scall_perm hpm (scall_post (S123_ok ?_))
  have hsame : PTree t T β [pt (β n) (.cells (nCells n x nm up) tn), mc, pt t (.cells (tCells T p m turns) tt), pt m (.map es clk), pc, cs].flatten := by
    refine ⟨tt, p, m, turns, es, clk, (n, x) :: xs, ((β n, .cells (nCells n x nm up) tn) :: mc) ++ cs, pc, perm_of_ct fun a => ?_, hxs, hm, .cons ⟨tn, up, nm, mc, rfl, hup, hnm⟩ hns, hpp⟩
    simp only [List.flatten_cons, List.flatten_append, List.flatten_nil, ct_append, ct_cons, ct_nil, pt, vi, ptr, vstr', Value.cells, tCells, nCells, List.append_nil]
    omega
  unfold S123
  refine r_join1 ?_
  refine named_ok (nodeAt_open hnm hup _) ?_
  cases hnb : namedB n x with
  | true =>
    have hr : T.reap n = T := by simp [Tree.reap, hx, hnb]
    rw [hr] at h
    (repeat' (first | refine z0 ?_ | refine z1 ?_ | refine z2 ?_ | refine z3 ?_ | refine z4 ?_ | refine z5 ?_ | refine z6 ?_ | refine z7 (fun hg => ?_) (fun hg => ?_) | refine z8 (fun hg => ?_) (fun hg => ?_) | refine z9 ?_ | refine za ?_ | refine zb ?_ | refine zc ?_ | refine zd ?_ | refine ze ?_ | refine zf ?_ | refine zg ?_ | refine zh ?_ | refine zi (fun _ => ?_) | refine zj (fun _ => ?_) | refine zk ?_ | refine zl ?_ ?_ | refine zm ?_ | refine zn ?_ | refine zo ?_ | exact (rfl : _ = _)))
    exact ⟨_, ent_close [_, _, _, _, _, _] r, h _ _ hsame⟩
  | false =>
    (repeat' (first | refine z0 ?_ | refine z1 ?_ | refine z2 ?_ | refine z3 ?_ | refine z4 ?_ | refine z5 ?_ | refine z6 ?_ | refine z7 (fun hg => ?_) (fun hg => ?_) | refine z8 (fun hg => ?_) (fun hg => ?_) | refine z9 ?_ | refine za ?_ | refine zb ?_ | refine zc ?_ | refine zd ?_ | refine ze ?_ | refine zf ?_ | refine zg ?_ | refine zh ?_ | refine zi (fun _ => ?_) | refine zj (fun _ => ?_) | refine zk ?_ | refine zl ?_ ?_ | refine zm ?_ | refine zn ?_ | refine zo ?_ | exact (rfl : _ = _)))
    · have hr : T.reap n = T := by simp [Tree.reap, hx, hnb, hg]
      rw [hr] at h
      exact ⟨_, ent_close [_, _, _, _, _, _] r, h _ _ hsame⟩
    · have h0 : 0 < x.holds := by simpa using hg
      have hr : T.reap n = T := by simp [Tree.reap, hx, hnb, h0]
      rw [hr] at h
      exact ⟨_, ent_close [_, _, _, _, _, _] r, h _ _ hsame⟩
    · rename_i hg1
      have h0 : ¬ 0 < x.holds := by simpa using hg
      have hr : T.reap n = { (T.put n none) with pool := if x.kind = 2 then T.pool.drop x.file else T.pool } := by simp [Tree.reap, hx, hnb, hg1, h0]
      rw [hr] at h
      have hl : (T.put n none).all.length = T.all.length := seti_len _ _ _
      refine r_delete (K := kInt) (a := n) (kt := 3) (ety := 109) (by kernel_rfl) (by kernel_rfl) (.inl ⟨_, rfl⟩) (by exact kn) hm (fun es' hm' => ⟨_, by exact chg, ?_⟩)
      rw [delK_head] at hm'
      (repeat' (first | refine z0 ?_ | refine z1 ?_ | refine z2 ?_ | refine z3 ?_ | refine z4 ?_ | refine z5 ?_ | refine z6 ?_ | refine z7 (fun hg => ?_) (fun hg => ?_) | refine z8 (fun hg => ?_) (fun hg => ?_) | refine z9 ?_ | refine za ?_ | refine zb ?_ | refine zc ?_ | refine zd ?_ | refine ze ?_ | refine zf ?_ | refine zg ?_ | refine zh ?_ | refine zi (fun _ => ?_) | refine zj (fun _ => ?_) | refine zk ?_ | refine zl ?_ ?_ | refine zm ?_ | refine zn ?_ | refine zo ?_ | exact (rfl : _ = _)))
      · rw [if_pos hg] at h
        refine pdrop_ok (take_there _ (take_there _ (take_there _ (take_there _ (take_here _ _))))) hpp hS.blocks (fun pc' v hpp' => ?_)
        (repeat' (first | refine z0 ?_ | refine z1 ?_ | refine z2 ?_ | refine z3 ?_ | refine z4 ?_ | refine z5 ?_ | refine z6 ?_ | refine z7 (fun hg => ?_) (fun hg => ?_) | refine z8 (fun hg => ?_) (fun hg => ?_) | refine z9 ?_ | refine za ?_ | refine zb ?_ | refine zc ?_ | refine zd ?_ | refine ze ?_ | refine zf ?_ | refine zg ?_ | refine zh ?_ | refine zi (fun _ => ?_) | refine zj (fun _ => ?_) | refine zk ?_ | refine zl ?_ ?_ | refine zm ?_ | refine zn ?_ | refine zo ?_ | exact (rfl : _ = _)))
        refine ⟨_, ?_, h ((t, .cells (tCells (T.put n none) p m (IntKind.i64.wrap (turns + 1))) tt) :: (m, .map es' clk) :: (pc' ++ cs)) _ ⟨tt, p, m, IntKind.i64.wrap (turns + 1), es', clk, xs, cs, pc', ?_, putNone_lives hx hxs, hm', hns, hpp'⟩⟩
        · refine Ent.trans (l' := [pt (β n) (.cells (nCells n x nm up) tn), mc] ++ (((t, Obj.cells (tCells (T.put n none) p m (IntKind.i64.wrap (turns + 1))) tt) :: (m, .map es' clk) :: (pc' ++ cs)) :: r)) (Ent.of_perm (perm_of_ct fun a => ?_)) ((Ent.drop _ _).trans (.drop _ _))
          simp only [tCells, hl]
          simp only [List.flatten_cons, List.flatten_append, List.flatten_nil, ct_append, ct_cons, ct_nil, pt, vi, ptr, vstr', Value.cells, tCells, nCells, List.append_nil]
          have : (T.put n none).most = T.most := rfl
          rw [this]; omega
        · simp only [tCells, hl]; exact .refl _
      · rw [if_neg hg] at h
        refine ⟨_, ?_, h ((t, .cells (tCells (T.put n none) p m (IntKind.i64.wrap (turns + 1))) tt) :: (m, .map es' clk) :: (pc ++ cs)) _ ⟨tt, p, m, IntKind.i64.wrap (turns + 1), es', clk, xs, cs, pc, ?_, putNone_lives hx hxs, hm', hns, hpp⟩⟩
        · refine Ent.trans (l' := [pt (β n) (.cells (nCells n x nm up) tn), mc] ++ (((t, Obj.cells (tCells (T.put n none) p m (IntKind.i64.wrap (turns + 1))) tt) :: (m, .map es' clk) :: (pc ++ cs)) :: r)) (Ent.of_perm (perm_of_ct fun a => ?_)) ((Ent.drop _ _).trans (.drop _ _))
          simp only [tCells, hl]
          simp only [List.flatten_cons, List.flatten_append, List.flatten_nil, ct_append, ct_cons, ct_nil, pt, vi, ptr, vstr', Value.cells, tCells, nCells, List.append_nil]
          have : (T.put n none).most = T.most := rfl
          rw [this]; omega
        · simp only [tCells, hl]; exact .refl _
end
end Go.Sl
namespace Go.Sl
variable [Ghost]
open Go Go.Mo Go.Proofs
attribute [local irreducible] snil sfa sext sfield sguard sun sbin slen sload sstore snew snewObj sbuildR sbuildSlR smakeMapR smakeSlR slookup smapset srangeMap snext sentry scall scallv sextern sbuiltin sidx sindex sslice sconv srangeX sarg sand sjoin0 sjoin1 sjoin2 sloop0 sloop1 sloop2
theorem scall_close {P : Program} {f : FuncId} {args : Array Value} {k : Value → SP} (pre r : St) (h : scall P f args k (pre.flatten :: r)) : scall P f args k (pre ++ r) := scall_perm (by simp) h
section
variable {l r : St} {t : Nat} {T : Tree} {β : Int → Nat} {c : Chunk} {n dir : Int} {x d : Nd} {s : Str} {R : Value → SP}
theorem tree_open2 (hk : Take l c r) (hP : PTree t T β c) (hx : T.at n = some x) (hd : T.at dir = some d) (hne : n ≠ dir) :
    ∃ tt tn td p m turns es clk xs cs pc nm up mc nmd upd mcd, l.flatten.Perm (pt (β n) (.cells (nCells n x nm up) tn) :: mc :: pt (β dir) (.cells (nCells dir d nmd upd) td) :: mcd :: pt t (.cells (tCells T p m turns) tt) :: pt m (.map es clk) :: pc :: cs :: r).flatten ∧
      ((n, x) :: (dir, d) :: xs).Perm T.lives ∧ MapOf kInt es clk ((n, ptr (β n) 0) :: (dir, ptr (β dir) 0) :: kvOf β xs) ∧ PNodes β xs cs ∧ PPool p T.pool pc ∧ NMap x nm mc ∧ UpOk n x up ∧ NMap d nmd mcd ∧ UpOk dir d upd := by
  obtain ⟨tt, tn, p, m, turns, es, clk, xs, cs, pc, nm, up, mc, hpm, hxs, hm, hns, hpp, hnm, hup⟩ := tree_open1 hk hP hx
  have hmem : (dir, d) ∈ xs := by
    have h1 : (dir, d) ∈ T.lives := (geti_live T.all dir d).1 hd
    rcases List.mem_cons.1 (hxs.mem_iff.2 h1) with e | h
    · simp only [Prod.mk.injEq] at e; exact absurd e.1.symm hne
    · exact h
  obtain ⟨nc, xs', cs', ⟨td, upd, nmd, mcd, rfl, hupd, hnmd⟩, h2, h3, h4⟩ := pnodes_pick hns hmem
  refine ⟨tt, tn, td, p, m, turns, es, clk, xs', cs', pc, nm, up, mc, nmd, upd, mcd, hpm.trans (perm_of_ct fun a => ?_), (h3.symm.cons _).trans hxs, hm.perm ((kvOf_perm h3).cons _), h2, hpp, hnm, hup, hnmd, hupd⟩
  have h1 := ct_of_perm h4 a
  simp only [List.flatten_cons, List.flatten_append, List.flatten_nil, ct_append, ct_cons, ct_nil, pt, vi, ptr, vstr', Value.cells, tCells, nCells, List.append_nil] at h1 ⊢
  omega
theorem tree_shut2 {x' d' : Nd} {tt tn td : TypeId} {p m : Nat} {turns up upd : Int} {es : Array MapEntry} {clk : Nat} {xs : List (Int × Nd)} {cs pc mc mcd : Chunk} {nm nmd : Value} (hx : T.at n = some x) (hd : T.at dir = some d) (hne : n ≠ dir)
    (h1 : ((n, x) :: (dir, d) :: xs).Perm T.lives) (h2 : MapOf kInt es clk ((n, ptr (β n) 0) :: (dir, ptr (β dir) 0) :: kvOf β xs)) (h3 : PNodes β xs cs) (h4 : PPool p T.pool pc) (h5 : NMap x' nm mc) (h6 : UpOk n x' up) (h7 : NMap d' nmd mcd) (h8 : UpOk dir d' upd) :
    PTree t ((T.put dir (some d')).put n (some x')) β [pt (β n) (.cells (nCells n x' nm up) tn), mc, pt (β dir) (.cells (nCells dir d' nmd upd) td), mcd, pt t (.cells (tCells T p m turns) tt), pt m (.map es clk), pc, cs].flatten := by
  have hx1 : (T.put dir (some d')).at n = some x := by rw [put_at hd, if_neg hne]; exact hx
  have hl : ((T.put dir (some d')).put n (some x')).all.length = T.all.length := by rw [put_len, put_len]
  have hmost : ((T.put dir (some d')).put n (some x')).most = T.most := rfl
  refine ⟨tt, p, m, turns, es, clk, (n, x') :: (dir, d') :: xs, ((β n, .cells (nCells n x' nm up) tn) :: mc) ++ (((β dir, .cells (nCells dir d' nmd upd) td) :: mcd) ++ cs), pc, perm_of_ct fun a => ?_, ?_, h2, .cons ⟨tn, up, nm, mc, rfl, h6, h5⟩ (.cons ⟨td, upd, nmd, mcd, rfl, h8, h7⟩ h3), h4⟩
  · simp only [hl, hmost]
    simp only [List.flatten_cons, List.flatten_append, List.flatten_nil, ct_append, ct_cons, ct_nil, pt, vi, ptr, vstr', Value.cells, tCells, nCells, List.append_nil]
    omega
  · have e1 : ((dir, d) :: (n, x) :: xs).Perm T.lives := (List.Perm.swap _ _ _).trans h1
    have e2 := put_lives hd e1 d'
    have e3 : ((n, x) :: (dir, d') :: xs).Perm (T.put dir (some d')).lives := (List.Perm.swap _ _ _).trans e2
    exact put_lives hx1 e3 x'
end
end Go.Sl
namespace Go.Sl
variable [Ghost]
open Go Go.Mo Go.Proofs
attribute [local irreducible] snil sfa sext sfield sguard sun sbin slen sload sstore snew snewObj sbuildR sbuildSlR smakeMapR smakeSlR slookup smapset srangeMap snext sentry scall scallv sextern sbuiltin sidx sindex sslice sconv srangeX sarg sand sjoin0 sjoin1 sjoin2 sloop0 sloop1 sloop2
theorem insS_perm (s : Str) (n : Int) : ∀ l, (insS s n l).Perm ((s, n) :: l)
  | [] => .refl _
  | (t, m) :: r => by
    unfold insS
    split
    · exact ((insS_perm s n r).cons _).trans (.swap _ _ _)
    · exact .refl _
theorem getS_none {s : Str} : ∀ {l : List (Str × Int)}, getS s l = none → s ∉ (namesK l).map Prod.fst
  | [], _ => by simp [namesK]
  | (t, m) :: r, h => by
    unfold getS at h
    split at h
    · cases h
    · rename_i hne
      have := getS_none h
      unfold namesK at *
      simp only [List.map_cons, List.mem_cons, not_or]
      exact ⟨hne, this⟩
theorem delS_namesK (s : Str) : ∀ l, namesK (delS s l) = delK s (namesK l)
  | [] => rfl
  | (t, m) :: r => by
    unfold delS namesK
    simp only [List.map_cons, delK]
    split
    · rfl
    · simp only [List.map_cons]
      congr 1
      exact delS_namesK s r
theorem delS_len (s : Str) : ∀ l, (delS s l).length ≤ l.length
  | [] => by simp [delS]
  | (t, m) :: r => by
    unfold delS
    have := delS_len s r
    split <;> simp <;> omega
section
variable {l r : St} {t : Nat} {T : Tree} {β : Int → Nat} {c : Chunk} {n dir : Int} {x d : Nd} {s : Str} {R : Value → SP}
theorem tgive_ok (hk : Take l c r) (hP : PTree t T β c) (hS : Small T) (hx : T.at n = some x) (hd : T.at dir = some d) (hdk : d.kind = 1) (hne : n ≠ dir) (hs : getS s d.names = none)
    (h : ∀ c' v, PTree t (T.give dir s n) β c' → R v (c' :: r)) : scall Tryz.prog 77 #[ptr t 0, ptr (β dir) 0, vstr' s, ptr (β n) 0] R l := by
  obtain ⟨tt, tn, td, p, m, turns, es, clk, xs, cs, pc, nm, up, mc, nmd, upd, mcd, hpm, hxs, hm, hns, hpp, hnm, hup, hnmd, hupd⟩ := tree_open2 hk hP hx hd hne
  refine scall_perm hpm (scall_post (S77_ok ?_))
  have hhl := hS.links n x hx
  have hw : IntKind.i64.wrap (x.links + 1) = x.links + 1 := wrap_id (by omega) (by omega)
  obtain ⟨-, md, esd, clkd, rfl, rfl, hmd⟩ | ⟨hne2, -⟩ := hnmd
  rotate_left
  · exact absurd hdk hne2
  have hg' : T.give dir s n = (T.put dir (some { d with names := insS s n d.names })).put n (some { x with links := x.links + 1, up := if x.kind = 1 then dir else x.up }) := by
    simp only [Tree.give, hd]
    have : (T.put dir (some { d with names := insS s n d.names })).at n = some x := by rw [put_at hd, if_neg hne]; exact hx
    rw [this]
  rw [hg'] at h
  unfold S77
  (repeat' (first | refine z0 ?_ | refine z1 ?_ | refine z2 ?_ | refine z3 ?_ | refine z4 ?_ | refine z5 ?_ | refine z6 ?_ | refine z7 (fun hg => ?_) (fun hg => ?_) | refine z8 (fun hg => ?_) (fun hg => ?_) | refine z9 ?_ | refine za ?_ | refine zb ?_ | refine zc ?_ | refine zd ?_ | refine ze ?_ | refine zf ?_ | refine zg ?_ | refine zh ?_ | refine zi (fun _ => ?_) | refine zj (fun _ => ?_) | refine zk ?_ | refine zl ?_ ?_ | refine zm ?_ | refine zn ?_ | refine zo ?_ | exact (rfl : _ = _)))
  refine r_mapset (K := kStr) (a := s) (by exact kn) hmd (fun es' clk' hm' => ⟨_, by exact chg, ?_⟩)
  rw [putK_of_not (getS_none hs)] at hm'
  have hp2 : ((s, vi n) :: namesK d.names).Perm (namesK (insS s n d.names)) := List.Perm.map (fun p : Str × Int => ((p.1, vi p.2) : List UInt8 × Value)) (insS_perm s n d.names).symm
  have hm2 : MapOf kStr es' clk' (namesK (insS s n d.names)) := hm'.perm ((List.perm_append_singleton _ _).trans hp2)
  (repeat' (first | refine z0 ?_ | refine z1 ?_ | refine z2 ?_ | refine z3 ?_ | refine z4 ?_ | refine z5 ?_ | refine z6 ?_ | refine z7 (fun hg => ?_) (fun hg => ?_) | refine z8 (fun hg => ?_) (fun hg => ?_) | refine z9 ?_ | refine za ?_ | refine zb ?_ | refine zc ?_ | refine zd ?_ | refine ze ?_ | refine zf ?_ | refine zg ?_ | refine zh ?_ | refine zi (fun _ => ?_) | refine zj (fun _ => ?_) | refine zk ?_ | refine zl ?_ ?_ | refine zm ?_ | refine zn ?_ | refine zo ?_ | exact (rfl : _ = _)))
  · rw [hw]
    refine ⟨_, ent_close [_, _, _, _, _, _, _, _] r, h _ _ (tree_shut2 (x := x) (d := d) hx hd hne hxs hm hns hpp ?_ ?_ ?_ hupd)⟩
    · exact hnm
    · intro _
      have : namedB n { x with links := x.links + 1, up := if x.kind = 1 then dir else x.up } = true := by simp [namedB]; omega
      rw [this, if_pos rfl]
      show dir = if x.kind = 1 then dir else x.up
      rw [if_pos hg]
    · exact .inl ⟨hdk, md, es', clk', rfl, rfl, hm2⟩
  · rw [hw]
    refine ⟨_, ent_close [_, _, _, _, _, _, _, _] r, h _ _ (tree_shut2 (x := x) (d := d) hx hd hne hxs hm hns hpp ?_ ?_ ?_ hupd)⟩
    · exact hnm
    · intro hk1; exact absurd hk1 hg
    · exact .inl ⟨hdk, md, es', clk', rfl, rfl, hm2⟩
theorem ttake_ok (hk : Take l c r) (hP : PTree t T β c) (hS : Small T) (hx : T.at n = some x) (hd : T.at dir = some d) (hdk : d.kind = 1) (hne : n ≠ dir) (hs : getS s d.names = some n) (hl1 : 1 ≤ x.links) (hw1 : x.kind = 1 → n ≠ 1 ∧ x.links = 1)
    (h : ∀ c' v, PTree t (T.take dir s n) β c' → R v (c' :: r)) : scall Tryz.prog 86 #[ptr t 0, ptr (β dir) 0, vstr' s] R l := by
  obtain ⟨tt, tn, td, p, m, turns, es, clk, xs, cs, pc, nm, up, mc, nmd, upd, mcd, hpm, hxs, hm, hns, hpp, hnm, hup, hnmd, hupd⟩ := tree_open2 hk hP hx hd hne
  refine scall_perm hpm (scall_post (S86_ok ?_))
  have hhl := hS.links n x hx
  have hw : IntKind.i64.wrap (x.links - 1) = x.links - 1 := wrap_id (by omega) (by omega)
  obtain ⟨-, md, esd, clkd, rfl, rfl, hmd⟩ | ⟨hne2, -⟩ := hnmd
  rotate_left
  · exact absurd hdk hne2
  have hx1 : ∀ d', (T.put dir (some d')).at n = some x := fun d' => by rw [put_at hd, if_neg hne]; exact hx
  have hl' : T.less dir s n = (T.put dir (some { d with names := delS s d.names })).put n (some { x with links := x.links - 1, up := if x.kind = 1 then n else x.up }) := by
    simp only [Tree.less, hd, hx1]
  unfold S86
  (repeat' (first | refine z0 ?_ | refine z1 ?_ | refine z2 ?_ | refine z3 ?_ | refine z4 ?_ | refine z5 ?_ | refine z6 ?_ | refine z7 (fun hg => ?_) (fun hg => ?_) | refine z8 (fun hg => ?_) (fun hg => ?_) | refine z9 ?_ | refine za ?_ | refine zb ?_ | refine zc ?_ | refine zd ?_ | refine ze ?_ | refine zf ?_ | refine zg ?_ | refine zh ?_ | refine zi (fun _ => ?_) | refine zj (fun _ => ?_) | refine zk ?_ | refine zl ?_ ?_ | refine zm ?_ | refine zn ?_ | refine zo ?_ | exact (rfl : _ = _)))
  refine r_name1 (by exact kn) hmd ?_
  rw [hs]
  refine r_look1 (K := kInt) (a := n) (by exact kn) hm ?_
  simp only [lk, if_true, Option.getD_some]
  (repeat' (first | refine z0 ?_ | refine z1 ?_ | refine z2 ?_ | refine z3 ?_ | refine z4 ?_ | refine z5 ?_ | refine z6 ?_ | refine z7 (fun hg => ?_) (fun hg => ?_) | refine z8 (fun hg => ?_) (fun hg => ?_) | refine z9 ?_ | refine za ?_ | refine zb ?_ | refine zc ?_ | refine zd ?_ | refine ze ?_ | refine zf ?_ | refine zg ?_ | refine zh ?_ | refine zi (fun _ => ?_) | refine zj (fun _ => ?_) | refine zk ?_ | refine zl ?_ ?_ | refine zm ?_ | refine zn ?_ | refine zo ?_ | exact (rfl : _ = _)))
  refine r_delete (K := kStr) (a := s) (kt := 9) (ety := 3) (by kernel_rfl) (by kernel_rfl) (.inr rfl) (by exact kn) hmd (fun es' hm' => ⟨_, by exact chg, ?_⟩)
  rw [← delS_namesK] at hm'
  (repeat' (first | refine z0 ?_ | refine z1 ?_ | refine z2 ?_ | refine z3 ?_ | refine z4 ?_ | refine z5 ?_ | refine z6 ?_ | refine z7 (fun hg => ?_) (fun hg => ?_) | refine z8 (fun hg => ?_) (fun hg => ?_) | refine z9 ?_ | refine za ?_ | refine zb ?_ | refine zc ?_ | refine zd ?_ | refine ze ?_ | refine zf ?_ | refine zg ?_ | refine zh ?_ | refine zi (fun _ => ?_) | refine zj (fun _ => ?_) | refine zk ?_ | refine zl ?_ ?_ | refine zm ?_ | refine zn ?_ | refine zo ?_ | exact (rfl : _ = _)))
  rw [hw]
  have hP1 := tree_shut2 (t := t) (x := x) (d := d) (m := m) (x' := { x with links := x.links - 1, up := if x.kind = 1 then n else x.up }) (d' := { d with names := delS s d.names }) (tn := tn) (tt := tt) (td := td) (turns := IntKind.i64.wrap (turns + 1)) (nm := nm) (nmd := .map (some md)) (mcd := [(md, .map es' clkd)]) (upd := upd) (mc := mc) (up := up) hx hd hne hxs hm hns hpp
    hnm (by
      intro hk1
      obtain ⟨h1, h2⟩ := hw1 hk1
      have : namedB n { x with links := x.links - 1, up := if x.kind = 1 then n else x.up } = false := by simp [namedB, h1, h2]
      rw [this, if_neg (by simp)]
      show n = if x.kind = 1 then n else x.up
      rw [if_pos hk1]) (.inl ⟨hdk, md, es', clkd, rfl, rfl, hm'⟩) hupd
  rw [← hl'] at hP1
  have hS1 : Small (T.less dir s n) := by
    rw [hl']
    have hy : SmallN { x with links := x.links - 1, up := if x.kind = 1 then n else x.up } := ⟨hS.names n x hx, by show 0 ≤ x.links - 1 ∧ x.links - 1 ≤ 2 ^ 30; omega, hS.holds n x hx⟩
    have hy2 : SmallN { d with names := delS s d.names } := by
      have := hS.names dir d hd
      have h2 := delS_len s d.names
      exact ⟨by show (delS s d.names).length ≤ 2 ^ 30; omega, hS.links dir d hd, hS.holds dir d hd⟩
    exact Small.put (hS.put hd hy2) (hx1 _) hy
  have hx2 : (T.less dir s n).at n = some { x with links := x.links - 1, up := if x.kind = 1 then n else x.up } := by rw [hl', put_at (hx1 _), if_pos rfl]
  refine scall_close [_, _, _, _, _, _, _, _] r ?_
  refine tdrop_ok (take_here _ _) hP1 hS1 hx2 (fun c' v hc' => ?_)
  exact ⟨_, .refl _, h c' _ hc'⟩
end
end Go.Sl
namespace Go.Sl
variable [Ghost]
open Go Go.Mo Go.Proofs
attribute [local irreducible] snil sfa sext sfield sguard sun sbin slen sload sstore snew snewObj sbuildR sbuildSlR smakeMapR smakeSlR slookup smapset srangeMap snext sentry scall scallv sextern sbuiltin sidx sindex sslice sconv srangeX sarg sand sjoin0 sjoin1 sjoin2 sloop0 sloop1 sloop2
def addT (T : Tree) (st : Stt) (text : Str) : Tree :=
  let n : Int := (T.all.length + 1 : Nat)
  let pf := if st.kind = 2 then T.pool.file else (T.pool, 0)
  { T with pool := pf.1, all := T.all ++ [some { kind := st.kind, mode := masked st.mode, uid := st.uid, gid := st.gid, text := text, file := pf.2, up := if st.kind = 1 ∧ n ≠ 1 then n else 0 }] }
def updB (β : Int → Nat) (n : Int) (b : Nat) : Int → Nat := fun m => if m = n then b else β m
theorem pnodes_upd {β : Int → Nat} {xs : List (Int × Nd)} {cs : Chunk} (h : PNodes β xs cs) {n : Int} {b : Nat} : n ∉ xs.map Prod.fst → PNodes (updB β n b) xs cs := by
  induction h with
  | nil => intro _; exact .nil
  | @cons m y c xs cs hp hr ih =>
    intro hn
    simp only [List.map_cons, List.mem_cons, not_or] at hn
    refine .cons ?_ (ih hn.2)
    have : updB β n b m = β m := by unfold updB; rw [if_neg (fun e => hn.1 e.symm)]
    rw [this]; exact hp
theorem kvOf_upd {β : Int → Nat} {n : Int} {b : Nat} : ∀ {xs : List (Int × Nd)}, n ∉ xs.map Prod.fst → kvOf (updB β n b) xs = kvOf β xs
  | [], _ => rfl
  | (m, y) :: xs, hn => by
    simp only [List.map_cons, List.mem_cons, not_or] at hn
    have h1 : updB β n b m = β m := by unfold updB; rw [if_neg (fun e => hn.1 e.symm)]
    have h2 := kvOf_upd (β := β) (b := b) hn.2
    unfold kvOf at *
    simp only [List.map_cons, h1, h2]
section
variable {l r : St} {t : Nat} {T : Tree} {β : Int → Nat} {c : Chunk} {st : Stt} {text : Str} {R : Value → SP}
theorem add_shut {tt tn : TypeId} {p m nb : Nat} {turns up : Int} {es : Array MapEntry} {clk : Nat} {xs : List (Int × Nd)} {cs pc mc : Chunk} {nm : Value} {P' : Pool} {nd : Nd} {N : Int} (hN : N = ((T.all.length + 1 : Nat) : Int)) (hxs : xs.Perm T.lives)
    (hm : MapOf kInt es clk (putK N (ptr nb 0) (kvOf β xs))) (hns : PNodes β xs cs) (hpp : PPool p P' pc) (hnm : NMap nd nm mc) (hup : UpOk N nd up) :
    PTree t { T with pool := P', all := T.all ++ [some nd] } (updB β N nb) ((t, .cells #[vi T.most, ptr p 0, .map (some m), vi N, vi turns] tt) :: (m, .map es clk) :: (pc ++ (((nb, .cells (nCells N nd nm up) tn) :: mc) ++ cs))) := by
  have hnot : N ∉ xs.map Prod.fst := fun hm => not_live_len T.all _ hN ((hxs.map _).mem_iff.1 hm)
  have hnotk : N ∉ (kvOf β xs).map Prod.fst := by unfold kvOf; rw [List.map_map]; exact hnot
  have hb : updB β N nb N = nb := by unfold updB; rw [if_pos rfl]
  refine ⟨tt, p, m, turns, es, clk, (N, nd) :: xs, ((nb, .cells (nCells N nd nm up) tn) :: mc) ++ cs, pc, ?_, ?_, ?_, .cons ?_ (pnodes_upd hns hnot), hpp⟩
  · have : ((T.all ++ [some nd]).length : Int) = N := by rw [hN]; simp
    simp only [this]; exact .refl _
  · show ((N, nd) :: xs).Perm (liveFrom 1 (T.all ++ [some nd]))
    rw [liveFrom_snoc]
    refine (hxs.cons _).trans ?_
    have e : ((1 + T.all.length : Nat) : Int) = N := by rw [hN]; omega
    rw [e]
    exact (List.perm_append_singleton _ _).symm
  · rw [putK_of_not hnotk] at hm
    have : kvOf (updB β N nb) ((N, nd) :: xs) = (N, ptr nb 0) :: kvOf β xs := by
      rw [← kvOf_upd (b := nb) hnot]
      unfold kvOf
      simp only [List.map_cons, hb]
    rw [this]
    exact hm.perm (List.perm_append_singleton _ _)
  · rw [hb]; exact ⟨tn, up, nm, mc, rfl, hup, hnm⟩
theorem tadd_ok (hk : Take l c r) (hP : PTree t T β c) (hS : Small T)
    (h : ∀ c' b, PTree t (addT T st text) (updB β ((T.all.length + 1 : Nat) : Int) b) c' → R (ptr b 0) (c' :: r)) : scall Tryz.prog 76 #[ptr t 0, sttV st, vstr' text] R l := by
  obtain ⟨tt, p, m, turns, es, clk, xs, cs, pc, hc, hxs, hm, hns, hpp⟩ := hP
  refine scall_perm (l' := pt t (.cells (tCells T p m turns) tt) :: pt m (.map es clk) :: pc :: cs :: r) (hk.trans (perm_of_ct fun a => ?_)) (scall_post (S76_ok ?_))
  · have h1 := ct_of_perm hc a
    simp only [List.flatten_cons, List.flatten_append, List.flatten_nil, ct_append, ct_cons, ct_nil, pt, vi, ptr, vstr', Value.cells, tCells, nCells, List.append_nil] at h1 ⊢
    omega
  have hlen := hS.all
  have hw : IntKind.i64.wrap ((T.all.length : Int) + 1) = ((T.all.length + 1 : Nat) : Int) := by rw [wrap_id (by omega) (by omega)]; simp
  have hnot : ((T.all.length + 1 : Nat) : Int) ∉ xs.map Prod.fst := fun hm => not_live_len T.all _ rfl ((hxs.map _).mem_iff.1 hm)
  have hnotk : ((T.all.length + 1 : Nat) : Int) ∉ (kvOf β xs).map Prod.fst := by unfold kvOf; rw [List.map_map]; exact hnot
  unfold S76
  (repeat' (first | refine z0 ?_ | refine z1 ?_ | refine z2 ?_ | refine z3 ?_ | refine z4 ?_ | refine z5 ?_ | refine z6 ?_ | refine z7 (fun hg => ?_) (fun hg => ?_) | refine z8 (fun hg => ?_) (fun hg => ?_) | refine z9 ?_ | refine za ?_ | refine zb ?_ | refine zc ?_ | refine zd ?_ | refine ze ?_ | refine zf ?_ | refine zg ?_ | refine zh ?_ | refine zi (fun _ => ?_) | refine zj (fun _ => ?_) | refine zk ?_ | refine zl ?_ ?_ | refine zm ?_ | refine zn ?_ | refine zo ?_ | exact (rfl : _ = _)))
  rename_i sb
  refine masked_ok ?_
  rw [hw]
  (repeat' (first | refine z0 ?_ | refine z1 ?_ | refine z2 ?_ | refine z3 ?_ | refine z4 ?_ | refine z5 ?_ | refine z6 ?_ | refine z7 (fun hg => ?_) (fun hg => ?_) | refine z8 (fun hg => ?_) (fun hg => ?_) | refine z9 ?_ | refine za ?_ | refine zb ?_ | refine zc ?_ | refine zd ?_ | refine ze ?_ | refine zf ?_ | refine zg ?_ | refine zh ?_ | refine zi (fun _ => ?_) | refine zj (fun _ => ?_) | refine zk ?_ | refine zl ?_ ?_ | refine zm ?_ | refine zn ?_ | refine zo ?_ | exact (rfl : _ = _)))
  · have hk3 := hg
    refine r_mapset (K := kInt) (a := ((T.all.length + 1 : Nat) : Int)) (by exact kn) hm (fun es' clk' hm' => ⟨_, by exact chg, ?_⟩)
    rename_i nb mb
    have ha : addT T st text = { T with pool := T.pool, all := T.all ++ [some { kind := st.kind, mode := masked st.mode, uid := st.uid, gid := st.gid, text := text, file := 0, up := if st.kind = 1 ∧ ((T.all.length + 1 : Nat) : Int) ≠ 1 then ((T.all.length + 1 : Nat) : Int) else 0 }] } := by
      unfold addT; simp [hg]
    have := add_shut (t := t) (m := m) (T := T) (β := β) (tt := tt) (tn := 113) (nb := nb) (turns := turns) (up := 0) (mc := [(mb, .map #[] 0)]) (nm := .map (some mb)) (nd := { kind := st.kind, mode := masked st.mode, uid := st.uid, gid := st.gid, text := text, file := 0, up := if st.kind = 1 ∧ ((T.all.length + 1 : Nat) : Int) ≠ 1 then ((T.all.length + 1 : Nat) : Int) else 0 }) rfl hxs hm' hns hpp (.inl ⟨hg, mb, _, _, rfl, rfl, mapOf_empty kStr⟩) (by
      intro _
      by_cases h1 : ((T.all.length + 1 : Nat) : Int) = 1
      · have : namedB ((T.all.length + 1 : Nat) : Int) { kind := st.kind, mode := masked st.mode, uid := st.uid, gid := st.gid, text := text, file := 0, up := if st.kind = 1 ∧ ((T.all.length + 1 : Nat) : Int) ≠ 1 then ((T.all.length + 1 : Nat) : Int) else 0 } = true := by simp [namedB, h1]
        rw [this, if_pos rfl]
        show 0 = if st.kind = 1 ∧ ((T.all.length + 1 : Nat) : Int) ≠ 1 then ((T.all.length + 1 : Nat) : Int) else 0
        rw [if_neg (fun e => e.2 h1)]
      · have : namedB ((T.all.length + 1 : Nat) : Int) { kind := st.kind, mode := masked st.mode, uid := st.uid, gid := st.gid, text := text, file := 0, up := if st.kind = 1 ∧ ((T.all.length + 1 : Nat) : Int) ≠ 1 then ((T.all.length + 1 : Nat) : Int) else 0 } = false := by simp [namedB]; omega
        rw [this, if_neg (by simp)]
        show _ = if st.kind = 1 ∧ ((T.all.length + 1 : Nat) : Int) ≠ 1 then ((T.all.length + 1 : Nat) : Int) else 0
        rw [if_pos ⟨hg, h1⟩])
    rw [← ha] at this
    refine ⟨_, ?_, h _ nb this⟩
    refine Ent.trans (Ent.of_perm (perm_of_ct fun a => ?_)) (Ent.drop (pt sb (.cells (sttV st).cells 42)) _)
    simp only [List.flatten_cons, List.flatten_append, List.flatten_nil, ct_append, ct_cons, ct_nil, pt, vi, ptr, vstr', Value.cells, tCells, nCells, List.append_nil]
    omega
  · refine pfile_ok (take_there _ (take_there _ (take_there _ (take_there _ (take_here _ _))))) hpp hS.files (fun pc' hpp' => ?_)
    (repeat' (first | refine z0 ?_ | refine z1 ?_ | refine z2 ?_ | refine z3 ?_ | refine z4 ?_ | refine z5 ?_ | refine z6 ?_ | refine z7 (fun hg => ?_) (fun hg => ?_) | refine z8 (fun hg => ?_) (fun hg => ?_) | refine z9 ?_ | refine za ?_ | refine zb ?_ | refine zc ?_ | refine zd ?_ | refine ze ?_ | refine zf ?_ | refine zg ?_ | refine zh ?_ | refine zi (fun _ => ?_) | refine zj (fun _ => ?_) | refine zk ?_ | refine zl ?_ ?_ | refine zm ?_ | refine zn ?_ | refine zo ?_ | exact (rfl : _ = _)))
    refine r_mapset (K := kInt) (a := ((T.all.length + 1 : Nat) : Int)) (by exact kn) hm (fun es' clk' hm' => ⟨_, by exact chg, ?_⟩)
    rename_i nb hg1
    have ha : addT T st text = { T with pool := T.pool.file.1, all := T.all ++ [some { kind := st.kind, mode := masked st.mode, uid := st.uid, gid := st.gid, text := text, file := T.pool.file.2 }] } := by
      unfold addT; simp [hg]
    have := add_shut (t := t) (m := m) (T := T) (β := β) (tt := tt) (tn := 113) (nb := nb) (turns := turns) (up := 0) (mc := []) (nm := .map none) (nd := { kind := st.kind, mode := masked st.mode, uid := st.uid, gid := st.gid, text := text, file := T.pool.file.2 }) rfl hxs hm' hns hpp' (.inr ⟨by show st.kind ≠ 1; omega, rfl, rfl, rfl⟩) (by
      intro (h1 : st.kind = 1); omega)
    rw [← ha] at this
    refine ⟨_, ?_, h _ nb this⟩
    refine Ent.trans (Ent.of_perm (perm_of_ct fun a => ?_)) (Ent.drop (pt sb (.cells (sttV st).cells 42)) _)
    simp only [List.flatten_cons, List.flatten_append, List.flatten_nil, ct_append, ct_cons, ct_nil, pt, vi, ptr, vstr', Value.cells, tCells, nCells, List.append_nil]
    omega
  · refine r_mapset (K := kInt) (a := ((T.all.length + 1 : Nat) : Int)) (by exact kn) hm (fun es' clk' hm' => ⟨_, by exact chg, ?_⟩)
    rename_i nb hg1
    have ha : addT T st text = { T with pool := T.pool, all := T.all ++ [some { kind := st.kind, mode := masked st.mode, uid := st.uid, gid := st.gid, text := text, file := 0 }] } := by
      unfold addT; simp [hg, hg1]
    have := add_shut (t := t) (m := m) (T := T) (β := β) (tt := tt) (tn := 113) (nb := nb) (turns := turns) (up := 0) (mc := []) (nm := .map none) (nd := { kind := st.kind, mode := masked st.mode, uid := st.uid, gid := st.gid, text := text, file := 0 }) rfl hxs hm' hns hpp (.inr ⟨hg1, rfl, rfl, rfl⟩) (by
      intro (h1 : st.kind = 1); exact absurd h1 hg1)
    rw [← ha] at this
    refine ⟨_, ?_, h _ nb this⟩
    refine Ent.trans (Ent.of_perm (perm_of_ct fun a => ?_)) (Ent.drop (pt sb (.cells (sttV st).cells 42)) _)
    simp only [List.flatten_cons, List.flatten_append, List.flatten_nil, ct_append, ct_cons, ct_nil, pt, vi, ptr, vstr', Value.cells, tCells, nCells, List.append_nil]
    omega
end
end Go.Sl
namespace Go.Proofs
open Go.Shelf
def Tryz.lays156_ren : Go.Shelf.Ren := ⟨fun | 156 => 265 | 165 => 282 | 166 => 283 | 169 => 284 | 240 => 292 | 241 => 293 | 276 => 297 | 277 => 298 | n => n, fun | 31 => 59 | 9 => 9 | 3 => 3 | 4 => 4 | 0 => 0 | 20 => 20 | 72 => 319 | 76 => 322 | 70 => 317 | 37 => 61 | 75 => 321 | 127 => 329 | 164 => 334 | 5 => 5 | 80 => 324 | n => n, fun | n => n⟩
theorem Tryz.lays156 : Go.Proofs.Lays.n156 Tryz.prog Tryz.lays156_ren := {
  mixed := by kernel_rfl
  f156 := Tryz.func265.trans (congrArg some (by kernel_rfl))
  f165 := Tryz.func282.trans (congrArg some (by kernel_rfl))
  f166 := Tryz.func283.trans (congrArg some (by kernel_rfl))
  f169 := Tryz.func284.trans (congrArg some (by kernel_rfl))
  f240 := Tryz.func292.trans (congrArg some (by kernel_rfl))
  f241 := Tryz.func293.trans (congrArg some (by kernel_rfl))
  f276 := Tryz.func297.trans (congrArg some (by kernel_rfl))
  f277 := Tryz.func298.trans (congrArg some (by kernel_rfl))
  t0 := Tryz.underlying0
  a0 := Tryz.isAgg0
  z0 := Tryz.sizeOf0
  v0 := Tryz.zeroValue0
  t3 := Tryz.underlying3
  a3 := Tryz.isAgg3
  z3 := Tryz.sizeOf3
  v3 := Tryz.zeroValue3
  t4 := Tryz.underlying4
  a4 := Tryz.isAgg4
  z4 := Tryz.sizeOf4
  v4 := Tryz.zeroValue4
  t9 := Tryz.underlying9
  a9 := Tryz.isAgg9
  z9 := Tryz.sizeOf9
  v9 := Tryz.zeroValue9
  t20 := Tryz.underlying20
  a20 := Tryz.isAgg20
  z20 := Tryz.sizeOf20
  v20 := Tryz.zeroValue20
  t31 := Tryz.underlying59
  a31 := Tryz.isAgg59
  z31 := Tryz.sizeOf59
  v31 := Tryz.zeroValue59
  t37 := Tryz.underlying61
  a37 := Tryz.isAgg61
  z37 := Tryz.sizeOf61
  v37 := Tryz.zeroValue61
  t70 := Tryz.underlying317
  a70 := Tryz.isAgg317
  z70 := Tryz.sizeOf317
  v70 := Tryz.zeroValue317
  t72 := Tryz.underlying319
  a72 := Tryz.isAgg319
  z72 := Tryz.sizeOf319
  v72 := Tryz.zeroValue319
  t75 := Tryz.underlying321
  a75 := Tryz.isAgg321
  z75 := Tryz.sizeOf321
  v75 := Tryz.zeroValue321
  t76 := Tryz.underlying322
  a76 := Tryz.isAgg322
  z76 := Tryz.sizeOf322
  v76 := Tryz.zeroValue322
  t127 := Tryz.underlying329
  a127 := Tryz.isAgg329
  z127 := Tryz.sizeOf329
  v127 := Tryz.zeroValue329
  t164 := Tryz.underlying334
  a164 := Tryz.isAgg334
  z164 := Tryz.sizeOf334
  v164 := Tryz.zeroValue334 }
theorem Tryz.Builder_Extra_156 : Builder.Extra Tryz.prog Tryz.lays156_ren := {
  sizeBuilder := by kernel_rfl
  liesBuilder := by kernel_rfl
  t5 := Tryz.underlying5
  a5 := Tryz.isAgg5
  z5 := Tryz.sizeOf5
  v5 := Tryz.zeroValue5
  infoByte := by kernel_rfl
  cellsByte := by kernel_rfl
  sizeByte := by kernel_rfl
  neB5 := by decide }
open Go.RowKit in
theorem Tryz.strings_Join_none (a : Option Addr) (c : Nat) (sep : ByteArray) (w : World) :
    Calls Tryz.prog 265 #[.slice a 0 c, .string sep] w fun e w' => e = .returned (.string ⟨#[]⟩) ∧ w' = w := Any.strings_Join_none Tryz.lays156 Tryz.Builder_Extra_156 a c sep w
open Go.RowKit in
theorem Tryz.strings_Join (bk o c : Nat) (xs : List ByteArray) (sep : ByteArray) (w : World) (hcells : ∀ (j : Nat) x, xs[j]? = some x → w.cell? ⟨bk, o + j, none⟩ = some (.string x)) (hbk : bk < w.heap.size) (hN : xs.length ≤ 140737488355328) (hcap : xs.length ≤ c) (hlen : (Lib.join (xs.map (·.data.toList)) sep.data.toList).length ≤ 140737488355328) :
    Calls Tryz.prog 265 #[.slice (some ⟨bk, o, none⟩) xs.length c, .string sep] w fun e w' => e = .returned (.string ⟨(Lib.join (xs.map (·.data.toList)) sep.data.toList).toArray⟩) ∧ Below w.heap.size w w' := Any.strings_Join Tryz.lays156 Tryz.Builder_Extra_156 bk o c xs sep w hcells hbk hN hcap hlen
def Tryz.lays137_ren : Go.Shelf.Ren := ⟨fun | 137 => 119 | 217 => 173 | 266 => 221 | n => n, fun | 9 => 9 | 5 => 5 | 3 => 3 | n => n, fun | n => n⟩
theorem Tryz.lays137 : Go.Proofs.Lays.n137 Tryz.prog Tryz.lays137_ren := {
  mixed := by kernel_rfl
  f137 := Tryz.func119.trans (congrArg some (by kernel_rfl))
  f217 := Tryz.func173.trans (congrArg some (by kernel_rfl))
  f266 := Tryz.func221.trans (congrArg some (by kernel_rfl))
  t3 := Tryz.underlying3
  a3 := Tryz.isAgg3
  z3 := Tryz.sizeOf3
  v3 := Tryz.zeroValue3
  t5 := Tryz.underlying5
  a5 := Tryz.isAgg5
  z5 := Tryz.sizeOf5
  v5 := Tryz.zeroValue5
  t9 := Tryz.underlying9
  a9 := Tryz.isAgg9
  z9 := Tryz.sizeOf9
  v9 := Tryz.zeroValue9 }
open Go.RowKit in
theorem Tryz.strings_IndexByte (s : ByteArray) (c : Int) (w : World) :
    Calls Tryz.prog 119 #[.string s, .int .u8 c] w fun e w' => e = .returned (.int .i64 (Lib.indexByte s.data.toList c.toNat.toUInt8)) ∧ w' = w := Any.strings_IndexByte Tryz.lays137 s c w
def Tryz.lays217_ren : Go.Shelf.Ren := ⟨fun | 217 => 173 | 266 => 221 | n => n, fun | 9 => 9 | 5 => 5 | 3 => 3 | n => n, fun | n => n⟩
theorem Tryz.lays217 : Go.Proofs.Lays.n217 Tryz.prog Tryz.lays217_ren := {
  mixed := by kernel_rfl
  f217 := Tryz.func173.trans (congrArg some (by kernel_rfl))
  f266 := Tryz.func221.trans (congrArg some (by kernel_rfl))
  t3 := Tryz.underlying3
  a3 := Tryz.isAgg3
  z3 := Tryz.sizeOf3
  v3 := Tryz.zeroValue3
  t5 := Tryz.underlying5
  a5 := Tryz.isAgg5
  z5 := Tryz.sizeOf5
  v5 := Tryz.zeroValue5
  t9 := Tryz.underlying9
  a9 := Tryz.isAgg9
  z9 := Tryz.sizeOf9
  v9 := Tryz.zeroValue9 }
open Go.RowKit Go.Lib in
theorem Tryz.stringslite_IndexByte (s : ByteArray) (c : Int) (w : World) :
    Calls Tryz.prog 173 #[.string s, .int .u8 c] w fun e w' => e = .returned (.int .i64 (Lib.indexByte s.data.toList c.toNat.toUInt8)) ∧ w' = w := Any.stringslite_IndexByte Tryz.lays217 s c w
def Tryz.lays189_ren : Go.Shelf.Ren := ⟨fun | 189 => 169 | 125 => 183 | 257 => 220 | 128 => 235 | 129 => 236 | 294 => 255 | 295 => 256 | 296 => 257 | 297 => 258 | 298 => 259 | 299 => 260 | 216 => 261 | 300 => 262 | 301 => 263 | 328 => 275 | 329 => 268 | 330 => 269 | 331 => 276 | 332 => 277 | 215 => 278 | 343 => 289 | n => n, fun | 28 => 23 | 3 => 3 | 46 => 251 | 0 => 0 | 51 => 283 | 53 => 285 | 4 => 4 | 183 => 276 | 182 => 275 | 131 => 55 | 5 => 5 | 9 => 9 | 218 => 305 | 222 => 309 | 228 => 325 | 229 => 96 | n => n, fun | n => n⟩
theorem Tryz.lays189 : Go.Proofs.Lays.n189 Tryz.prog Tryz.lays189_ren := {
  mixed := by kernel_rfl
  f125 := Tryz.func183.trans (congrArg some (by kernel_rfl))
  f128 := Tryz.func235.trans (congrArg some (by kernel_rfl))
  f129 := Tryz.func236.trans (congrArg some (by kernel_rfl))
  f189 := Tryz.func169.trans (congrArg some (by kernel_rfl))
  f215 := Tryz.func278.trans (congrArg some (by kernel_rfl))
  f216 := Tryz.func261.trans (congrArg some (by kernel_rfl))
  f257 := Tryz.func220.trans (congrArg some (by kernel_rfl))
  f294 := Tryz.func255.trans (congrArg some (by kernel_rfl))
  f295 := Tryz.func256.trans (congrArg some (by kernel_rfl))
  f296 := Tryz.func257.trans (congrArg some (by kernel_rfl))
  f297 := Tryz.func258.trans (congrArg some (by kernel_rfl))
  f298 := Tryz.func259.trans (congrArg some (by kernel_rfl))
  f299 := Tryz.func260.trans (congrArg some (by kernel_rfl))
  f300 := Tryz.func262.trans (congrArg some (by kernel_rfl))
  f301 := Tryz.func263.trans (congrArg some (by kernel_rfl))
  f328 := Tryz.func275.trans (congrArg some (by kernel_rfl))
  f329 := Tryz.func268.trans (congrArg some (by kernel_rfl))
  f330 := Tryz.func269.trans (congrArg some (by kernel_rfl))
  f331 := Tryz.func276.trans (congrArg some (by kernel_rfl))
  f332 := Tryz.func277.trans (congrArg some (by kernel_rfl))
  f343 := Tryz.func289.trans (congrArg some (by kernel_rfl))
  t0 := Tryz.underlying0
  a0 := Tryz.isAgg0
  z0 := Tryz.sizeOf0
  v0 := Tryz.zeroValue0
  t3 := Tryz.underlying3
  a3 := Tryz.isAgg3
  z3 := Tryz.sizeOf3
  v3 := Tryz.zeroValue3
  t4 := Tryz.underlying4
  a4 := Tryz.isAgg4
  z4 := Tryz.sizeOf4
  v4 := Tryz.zeroValue4
  t5 := Tryz.underlying5
  a5 := Tryz.isAgg5
  z5 := Tryz.sizeOf5
  v5 := Tryz.zeroValue5
  t9 := Tryz.underlying9
  a9 := Tryz.isAgg9
  z9 := Tryz.sizeOf9
  v9 := Tryz.zeroValue9
  t28 := Tryz.underlying23
  a28 := Tryz.isAgg23
  z28 := Tryz.sizeOf23
  v28 := Tryz.zeroValue23
  t46 := Tryz.underlying251
  a46 := Tryz.isAgg251
  z46 := Tryz.sizeOf251
  v46 := Tryz.zeroValue251
  t51 := Tryz.underlying283
  a51 := Tryz.isAgg283
  z51 := Tryz.sizeOf283
  v51 := Tryz.zeroValue283
  t53 := Tryz.underlying285
  a53 := Tryz.isAgg285
  z53 := Tryz.sizeOf285
  v53 := Tryz.zeroValue285
  t131 := Tryz.underlying55
  a131 := Tryz.isAgg55
  z131 := Tryz.sizeOf55
  v131 := Tryz.zeroValue55
  t182 := Tryz.underlying275
  a182 := Tryz.isAgg275
  z182 := Tryz.sizeOf275
  v182 := Tryz.zeroValue275
  t183 := Tryz.underlying276
  a183 := Tryz.isAgg276
  z183 := Tryz.sizeOf276
  v183 := Tryz.zeroValue276
  t218 := Tryz.underlying305
  a218 := Tryz.isAgg305
  z218 := Tryz.sizeOf305
  v218 := Tryz.zeroValue305
  t222 := Tryz.underlying309
  a222 := Tryz.isAgg309
  z222 := Tryz.sizeOf309
  v222 := Tryz.zeroValue309
  t228 := Tryz.underlying325
  a228 := Tryz.isAgg325
  z228 := Tryz.sizeOf325
  v228 := Tryz.zeroValue325
  t229 := Tryz.underlying96
  a229 := Tryz.isAgg96
  z229 := Tryz.sizeOf96
  v229 := Tryz.zeroValue96 }
open Go.Sort Go.RowKit in
theorem Tryz.slices_Sort_int (blk off cap : Nat) (zs : List Int) (w : World) (hH : Holds (Value.int .i64) w blk off zs.toArray) (hblk : blk < w.heap.size) (hsz : zs.length < 4611686018427387904) :
    Calls Tryz.prog 169 #[.slice (some ⟨blk, off, none⟩) zs.length cap] w fun e w' =>
      e = .returned (.tuple #[]) ∧ ∃ n os, w' = grow (putRow (Value.int .i64) (Sort.ahead w n) blk off (zs.mergeSort fun x y => decide (x ≤ y)).toArray) os := Any.slices_Sort_int Tryz.lays189 blk off cap zs w hH hblk hsz
def Tryz.lays190_ren : Go.Shelf.Ren := ⟨fun | 190 => 136 | 125 => 183 | 258 => 182 | 128 => 235 | 129 => 236 | 302 => 226 | 303 => 227 | 304 => 228 | 305 => 229 | 306 => 230 | 307 => 231 | 308 => 232 | 309 => 233 | 310 => 234 | 333 => 267 | 329 => 268 | 330 => 269 | 334 => 270 | 335 => 271 | 336 => 272 | 344 => 285 | n => n, fun | 31 => 59 | 9 => 9 | 3 => 3 | 46 => 251 | 0 => 0 | 51 => 283 | 53 => 285 | 4 => 4 | 183 => 276 | 182 => 275 | 131 => 55 | 5 => 5 | 218 => 305 | 222 => 309 | 228 => 325 | 229 => 96 | n => n, fun | n => n⟩
theorem Tryz.lays190 : Go.Proofs.Lays.n190 Tryz.prog Tryz.lays190_ren := {
  mixed := by kernel_rfl
  f125 := Tryz.func183.trans (congrArg some (by kernel_rfl))
  f128 := Tryz.func235.trans (congrArg some (by kernel_rfl))
  f129 := Tryz.func236.trans (congrArg some (by kernel_rfl))
  f190 := Tryz.func136.trans (congrArg some (by kernel_rfl))
  f258 := Tryz.func182.trans (congrArg some (by kernel_rfl))
  f302 := Tryz.func226.trans (congrArg some (by kernel_rfl))
  f303 := Tryz.func227.trans (congrArg some (by kernel_rfl))
  f304 := Tryz.func228.trans (congrArg some (by kernel_rfl))
  f305 := Tryz.func229.trans (congrArg some (by kernel_rfl))
  f306 := Tryz.func230.trans (congrArg some (by kernel_rfl))
  f307 := Tryz.func231.trans (congrArg some (by kernel_rfl))
  f308 := Tryz.func232.trans (congrArg some (by kernel_rfl))
  f309 := Tryz.func233.trans (congrArg some (by kernel_rfl))
  f310 := Tryz.func234.trans (congrArg some (by kernel_rfl))
  f329 := Tryz.func268.trans (congrArg some (by kernel_rfl))
  f330 := Tryz.func269.trans (congrArg some (by kernel_rfl))
  f333 := Tryz.func267.trans (congrArg some (by kernel_rfl))
  f334 := Tryz.func270.trans (congrArg some (by kernel_rfl))
  f335 := Tryz.func271.trans (congrArg some (by kernel_rfl))
  f336 := Tryz.func272.trans (congrArg some (by kernel_rfl))
  f344 := Tryz.func285.trans (congrArg some (by kernel_rfl))
  t0 := Tryz.underlying0
  a0 := Tryz.isAgg0
  z0 := Tryz.sizeOf0
  v0 := Tryz.zeroValue0
  t3 := Tryz.underlying3
  a3 := Tryz.isAgg3
  z3 := Tryz.sizeOf3
  v3 := Tryz.zeroValue3
  t4 := Tryz.underlying4
  a4 := Tryz.isAgg4
  z4 := Tryz.sizeOf4
  v4 := Tryz.zeroValue4
  t5 := Tryz.underlying5
  a5 := Tryz.isAgg5
  z5 := Tryz.sizeOf5
  v5 := Tryz.zeroValue5
  t9 := Tryz.underlying9
  a9 := Tryz.isAgg9
  z9 := Tryz.sizeOf9
  v9 := Tryz.zeroValue9
  t31 := Tryz.underlying59
  a31 := Tryz.isAgg59
  z31 := Tryz.sizeOf59
  v31 := Tryz.zeroValue59
  t46 := Tryz.underlying251
  a46 := Tryz.isAgg251
  z46 := Tryz.sizeOf251
  v46 := Tryz.zeroValue251
  t51 := Tryz.underlying283
  a51 := Tryz.isAgg283
  z51 := Tryz.sizeOf283
  v51 := Tryz.zeroValue283
  t53 := Tryz.underlying285
  a53 := Tryz.isAgg285
  z53 := Tryz.sizeOf285
  v53 := Tryz.zeroValue285
  t131 := Tryz.underlying55
  a131 := Tryz.isAgg55
  z131 := Tryz.sizeOf55
  v131 := Tryz.zeroValue55
  t182 := Tryz.underlying275
  a182 := Tryz.isAgg275
  z182 := Tryz.sizeOf275
  v182 := Tryz.zeroValue275
  t183 := Tryz.underlying276
  a183 := Tryz.isAgg276
  z183 := Tryz.sizeOf276
  v183 := Tryz.zeroValue276
  t218 := Tryz.underlying305
  a218 := Tryz.isAgg305
  z218 := Tryz.sizeOf305
  v218 := Tryz.zeroValue305
  t222 := Tryz.underlying309
  a222 := Tryz.isAgg309
  z222 := Tryz.sizeOf309
  v222 := Tryz.zeroValue309
  t228 := Tryz.underlying325
  a228 := Tryz.isAgg325
  z228 := Tryz.sizeOf325
  v228 := Tryz.zeroValue325
  t229 := Tryz.underlying96
  a229 := Tryz.isAgg96
  z229 := Tryz.sizeOf96
  v229 := Tryz.zeroValue96 }
open Go.Sort Go.RowKit in
theorem Tryz.slices_Sort_string (blk off cap : Nat) (ss : List (List UInt8)) (w : World) (hH : Holds encStr w blk off ss.toArray) (hblk : blk < w.heap.size) (hsz : ss.length < 4611686018427387904) :
    Calls Tryz.prog 136 #[.slice (some ⟨blk, off, none⟩) ss.length cap] w fun e w' =>
      e = .returned (.tuple #[]) ∧ ∃ n os, w' = grow (putRow encStr (Sort.ahead w n) blk off (ss.mergeSort fun x y => decide (x ≤ y)).toArray) os := Any.slices_Sort_string Tryz.lays190 blk off cap ss w hH hblk hsz
open Go.RowKit Go.Sort in
theorem Tryz.slices_Sort_string_none (p : Option Addr) (cap : Nat) (w : World) :
    Calls Tryz.prog 136 #[.slice p 0 cap] w fun e w' => e = .returned (.tuple #[]) ∧ w' = w := Any.slices_Sort_string_none Tryz.lays190 p cap w
open Go.RowKit Go.Sort in
theorem Tryz.slices_Sort_int_none (p : Option Addr) (cap : Nat) (w : World) :
    Calls Tryz.prog 169 #[.slice p 0 cap] w fun e w' => e = .returned (.tuple #[]) ∧ w' = w := Any.slices_Sort_int_none Tryz.lays189 p cap w
end Go.Proofs
namespace Go.Sl
variable [Ghost]
open Go Go.Mo Go.Proofs
attribute [local irreducible] snil sfa sext sfield sguard sun sbin slen sload sstore snew snewObj sbuildR sbuildSlR smakeMapR smakeSlR slookup smapset srangeMap snext sentry scall scallv sextern sbuiltin sidx sindex sslice sconv srangeX sarg sand sjoin0 sjoin1 sjoin2 sloop0 sloop1 sloop2
theorem scall_pure {P : Program} {f : FuncId} {args : Array Value} {v : Value} {k : Value → SP} {l : St} (h : ∀ w, Calls P f args w fun e w' => e = .returned v ∧ w' = w) (hk : k v l) : scall P f args k l := by
  unfold scall
  exact fun F w hs => Calls.mono (h w) fun _ _ ⟨he, hw⟩ => ⟨v, he, l, by rw [hw]; exact hs, hk⟩
theorem toList_bs (s : List UInt8) : (bs s).toList = s := by
  have h : ∀ (x : ByteArray), x.toList = x.data.toList := fun x => ByteArray.toList_eq x
  rw [h, bs_toList]
theorem r_streq {P : Program} {ek : EqK} {t : TypeId} {a b : List UInt8} {k : Value → SP} {l : St} (h : k (.bool (decide (a = b))) l) : sbin P ek t .eql (vstr' a) (vstr' b) k l := by
  refine r_bin (v := .bool ((bs a).toList == (bs b).toList)) rfl ?_
  rw [toList_bs, toList_bs]
  have : (a == b) = decide (a = b) := by by_cases h : a = b <;> simp [h]
  rw [this]; exact h
theorem r_strne {P : Program} {ek : EqK} {t : TypeId} {a b : List UInt8} {k : Value → SP} {l : St} (h : k (.bool (decide (a ≠ b))) l) : sbin P ek t .neq (vstr' a) (vstr' b) k l := by
  refine r_bin (v := .bool !((bs a).toList == (bs b).toList)) rfl ?_
  rw [toList_bs, toList_bs]
  have : (!(a == b)) = decide (a ≠ b) := by by_cases h : a = b <;> simp [h]
  rw [this]; exact h
theorem indexByte_neg (c : UInt8) : ∀ s : List UInt8, Lib.indexByte s c < 0 ↔ s.contains c = false
  | [] => by simp [Lib.indexByte]
  | b :: s => by
    have ih := indexByte_neg c s
    unfold Lib.indexByte
    by_cases h : b = c
    · subst h; simp
    · have h1 : (b == c) = false := by simpa using h
      have h2 : (c == b) = false := by simpa using fun e => h e.symm
      have hge : ∀ s : List UInt8, -1 ≤ Lib.indexByte s c := by
        intro s
        induction s with
        | nil => simp [Lib.indexByte]
        | cons b s ih =>
          unfold Lib.indexByte
          split
          · omega
          · split <;> omega
      have hg := hge s
      rw [h1]
      simp only [Bool.false_eq_true, if_false, List.contains_cons, h2, Bool.false_or]
      by_cases h3 : Lib.indexByte s c = -1
      · have h4 : (Lib.indexByte s c == -1) = true := by simpa using h3
        rw [h4]
        simp only [if_true]
        rw [← ih]; omega
      · have h4 : (Lib.indexByte s c == -1) = false := by simpa using h3
        rw [h4]
        simp only [Bool.false_eq_true, if_false]
        rw [← ih]; omega
section
variable {l : St} {s : Str} {R : Value → SP}
theorem indexByte_ok {c : Int} (h : R (vi (Lib.indexByte s c.toNat.toUInt8)) l) : scall Tryz.prog 119 #[vstr' s, .int .u8 c] R l :=
  scall_pure (fun w => Tryz.strings_IndexByte (bs s) c w) (by rw [bs_toList]; exact h)
theorem dots_ok (h : R (.bool (s == [46] || s == [46, 46])) l) : scall Tryz.prog 120 #[vstr' s] R l := by
  refine S120_ok ?_
  unfold S120
  refine r_streq (b := [46]) ?_
  refine r_guard_d (fun hg => ?_) (fun hg => ?_)
  · subst hg; exact h
  · refine r_streq (b := [46, 46]) ?_
    have : (s == [46] || s == [46, 46]) = decide (s = [46, 46]) := by
      have h1 : (s == [46]) = false := by simpa using hg
      rw [h1]
      by_cases h2 : s = [46, 46] <;> simp [h2]
    rw [this] at h; exact h
theorem right_ok (h : R (.bool (rightN s)) l) : scall Tryz.prog 74 #[vstr' s] R l := by
  refine S74_ok ?_
  unfold S74
  refine r_strne (b := []) ?_
  refine r_guard_d (fun h1 => ?_) (fun h1 => ?_)
  · (repeat' (first | refine z0 ?_ | refine z1 ?_ | refine z2 ?_ | refine z3 ?_ | refine z4 ?_ | refine z5 ?_ | refine z6 ?_ | refine z7 (fun hg => ?_) (fun hg => ?_) | refine z8 (fun hg => ?_) (fun hg => ?_) | refine z9 ?_ | refine za ?_ | refine zb ?_ | refine zc ?_ | refine zd ?_ | refine ze ?_ | refine zf ?_ | refine zg ?_ | refine zh ?_ | refine zi (fun _ => ?_) | refine zj (fun _ => ?_) | refine zk ?_ | refine zl ?_ ?_ | refine zm ?_ | refine zn ?_ | refine zo ?_ | exact (rfl : _ = _)))
    · have h2 := hg
      have e : (bs s).size = s.length := by simp [bs, ByteArray.size]
      have hlen : s.length ≤ 255 := by omega
      refine indexByte_ok ?_
      (repeat' (first | refine z0 ?_ | refine z1 ?_ | refine z2 ?_ | refine z3 ?_ | refine z4 ?_ | refine z5 ?_ | refine z6 ?_ | refine z7 (fun hg => ?_) (fun hg => ?_) | refine z8 (fun hg => ?_) (fun hg => ?_) | refine z9 ?_ | refine za ?_ | refine zb ?_ | refine zc ?_ | refine zd ?_ | refine ze ?_ | refine zf ?_ | refine zg ?_ | refine zh ?_ | refine zi (fun _ => ?_) | refine zj (fun _ => ?_) | refine zk ?_ | refine zl ?_ ?_ | refine zm ?_ | refine zn ?_ | refine zo ?_ | exact (rfl : _ = _)))
      · have h47 := (indexByte_neg 47 s).1 hg
        refine indexByte_ok ?_
        (repeat' (first | refine z0 ?_ | refine z1 ?_ | refine z2 ?_ | refine z3 ?_ | refine z4 ?_ | refine z5 ?_ | refine z6 ?_ | refine z7 (fun hg => ?_) (fun hg => ?_) | refine z8 (fun hg => ?_) (fun hg => ?_) | refine z9 ?_ | refine za ?_ | refine zb ?_ | refine zc ?_ | refine zd ?_ | refine ze ?_ | refine zf ?_ | refine zg ?_ | refine zh ?_ | refine zi (fun _ => ?_) | refine zj (fun _ => ?_) | refine zk ?_ | refine zl ?_ ?_ | refine zm ?_ | refine zn ?_ | refine zo ?_ | exact (rfl : _ = _)))
        · have h0 := (indexByte_neg 0 s).1 hg
          refine dots_ok ?_
          (repeat' (first | refine z0 ?_ | refine z1 ?_ | refine z2 ?_ | refine z3 ?_ | refine z4 ?_ | refine z5 ?_ | refine z6 ?_ | refine z7 (fun hg => ?_) (fun hg => ?_) | refine z8 (fun hg => ?_) (fun hg => ?_) | refine z9 ?_ | refine za ?_ | refine zb ?_ | refine zc ?_ | refine zd ?_ | refine ze ?_ | refine zf ?_ | refine zg ?_ | refine zh ?_ | refine zi (fun _ => ?_) | refine zj (fun _ => ?_) | refine zk ?_ | refine zl ?_ ?_ | refine zm ?_ | refine zn ?_ | refine zo ?_ | exact (rfl : _ = _)))
          have : rightN s = !(s == [46] || s == [46, 46]) := by
            unfold rightN
            have hl : s.length ≠ 0 := fun e => h1 (List.eq_nil_of_length_eq_zero e)
            rw [h47, h0]; simp [hlen, hl]
          rw [this] at h; exact h
        · have h0 : s.contains 0 = true := by
            cases hc : s.contains 0 with
            | true => rfl
            | false => exact absurd ((indexByte_neg 0 s).2 hc) hg
          have : rightN s = false := by unfold rightN; rw [h0]; simp
          rw [this] at h; exact h
      · have h47 : s.contains 47 = true := by
          cases hc : s.contains 47 with
          | true => rfl
          | false => exact absurd ((indexByte_neg 47 s).2 hc) hg
        have : rightN s = false := by unfold rightN; rw [h47]; simp
        rw [this] at h; exact h
    · have e : (bs s).size = s.length := by simp [bs, ByteArray.size]
      have hlen : ¬ s.length ≤ 255 := by omega
      have : rightN s = false := by unfold rightN; simp [hlen]
      rw [this] at h; exact h
  · have hs : s = [] := by simpa using h1
    subst hs
    (repeat' (first | refine z0 ?_ | refine z1 ?_ | refine z2 ?_ | refine z3 ?_ | refine z4 ?_ | refine z5 ?_ | refine z6 ?_ | refine z7 (fun hg => ?_) (fun hg => ?_) | refine z8 (fun hg => ?_) (fun hg => ?_) | refine z9 ?_ | refine za ?_ | refine zb ?_ | refine zc ?_ | refine zd ?_ | refine ze ?_ | refine zf ?_ | refine zg ?_ | refine zh ?_ | refine zi (fun _ => ?_) | refine zj (fun _ => ?_) | refine zk ?_ | refine zl ?_ ?_ | refine zm ?_ | refine zn ?_ | refine zo ?_ | exact (rfl : _ = _)))
    exact h
end
end Go.Sl
namespace Go.Sl
variable [Ghost]
open Go Go.Mo Go.Proofs
attribute [local irreducible] snil sfa sext sfield sguard sun sbin slen sload sstore snew snewObj sbuildR sbuildSlR smakeMapR smakeSlR slookup smapset srangeMap snext sentry scall scallv sextern sbuiltin sidx sindex sslice sconv srangeX sarg sand sjoin0 sjoin1 sjoin2 sloop0 sloop1 sloop2
theorem r_len_nomap {k : Value → SP} {l : St} (h : k (vi 0) l) : slen .map (.map none) k l := by unfold slen; exact h
section
variable {l r : St} {t b : Nat} {T : Tree} {β : Int → Nat} {c : Chunk} {n dir : Int} {x d : Nd} {s : Str} {v0 : Value} {R : Value → SP}
theorem free_ok (hn : NodeAt l b n x) (hk : x.kind = 1) (h : R (vi (if (getS s x.names).isSome then 35 else if namedB n x then 0 else 32)) l) : scall Tryz.prog 75 #[v0, ptr b 0, vstr' s] R l := by
  refine S75_ok ?_
  obtain ⟨ty, up, m, es, clk, hk2, hu, hkm, hm⟩ := hn.dirCells hk
  unfold S75
  (repeat' (first | refine z0 ?_ | refine z1 ?_ | refine z2 ?_ | refine z3 ?_ | refine z4 ?_ | refine z5 ?_ | refine z6 ?_ | refine z7 (fun hg => ?_) (fun hg => ?_) | refine z8 (fun hg => ?_) (fun hg => ?_) | refine z9 ?_ | refine za ?_ | refine zb ?_ | refine zc ?_ | refine zd ?_ | refine ze ?_ | refine zf ?_ | refine zg ?_ | refine zh ?_ | refine zi (fun _ => ?_) | refine zj (fun _ => ?_) | refine zk ?_ | refine zl ?_ ?_ | refine zm ?_ | refine zn ?_ | refine zo ?_ | exact (rfl : _ = _)))
  refine r_name hkm hm (fun q hq => ?_) (fun hq => ?_)
  · rw [hq] at h
    (repeat' (first | refine z0 ?_ | refine z1 ?_ | refine z2 ?_ | refine z3 ?_ | refine z4 ?_ | refine z5 ?_ | refine z6 ?_ | refine z7 (fun hg => ?_) (fun hg => ?_) | refine z8 (fun hg => ?_) (fun hg => ?_) | refine z9 ?_ | refine za ?_ | refine zb ?_ | refine zc ?_ | refine zd ?_ | refine ze ?_ | refine zf ?_ | refine zg ?_ | refine zh ?_ | refine zi (fun _ => ?_) | refine zj (fun _ => ?_) | refine zk ?_ | refine zl ?_ ?_ | refine zm ?_ | refine zn ?_ | refine zo ?_ | exact (rfl : _ = _)))
    exact h
  · rw [hq] at h
    (repeat' (first | refine z0 ?_ | refine z1 ?_ | refine z2 ?_ | refine z3 ?_ | refine z4 ?_ | refine z5 ?_ | refine z6 ?_ | refine z7 (fun hg => ?_) (fun hg => ?_) | refine z8 (fun hg => ?_) (fun hg => ?_) | refine z9 ?_ | refine za ?_ | refine zb ?_ | refine zc ?_ | refine zd ?_ | refine ze ?_ | refine zf ?_ | refine zg ?_ | refine zh ?_ | refine zi (fun _ => ?_) | refine zj (fun _ => ?_) | refine zk ?_ | refine zl ?_ ?_ | refine zm ?_ | refine zn ?_ | refine zo ?_ | exact (rfl : _ = _)))
    refine named_ok hn ?_
    cases hnb : namedB n x with
    | true => rw [hnb] at h
              (repeat' (first | refine z0 ?_ | refine z1 ?_ | refine z2 ?_ | refine z3 ?_ | refine z4 ?_ | refine z5 ?_ | refine z6 ?_ | refine z7 (fun hg => ?_) (fun hg => ?_) | refine z8 (fun hg => ?_) (fun hg => ?_) | refine z9 ?_ | refine za ?_ | refine zb ?_ | refine zc ?_ | refine zd ?_ | refine ze ?_ | refine zf ?_ | refine zg ?_ | refine zh ?_ | refine zi (fun _ => ?_) | refine zj (fun _ => ?_) | refine zk ?_ | refine zl ?_ ?_ | refine zm ?_ | refine zn ?_ | refine zo ?_ | exact (rfl : _ = _)))
              exact h
    | false => rw [hnb] at h
               (repeat' (first | refine z0 ?_ | refine z1 ?_ | refine z2 ?_ | refine z3 ?_ | refine z4 ?_ | refine z5 ?_ | refine z6 ?_ | refine z7 (fun hg => ?_) (fun hg => ?_) | refine z8 (fun hg => ?_) (fun hg => ?_) | refine z9 ?_ | refine za ?_ | refine zb ?_ | refine zc ?_ | refine zd ?_ | refine ze ?_ | refine zf ?_ | refine zg ?_ | refine zh ?_ | refine zi (fun _ => ?_) | refine zj (fun _ => ?_) | refine zk ?_ | refine zl ?_ ?_ | refine zm ?_ | refine zn ?_ | refine zo ?_ | exact (rfl : _ = _)))
               exact h
structure Names (T : Tree) : Prop where
  live : ∀ dir d s n, T.dir dir = some d → getS s d.names = some n → ∃ x, T.at n = some x ∧ 1 ≤ x.links ∧ n ≠ dir ∧ (x.kind = 1 → n ≠ 1 ∧ x.links = 1)
  plain : ∀ n x, T.at n = some x → x.kind ≠ 1 → x.names = []
theorem dir_at (h : T.dir n = some x) : T.at n = some x ∧ x.kind = 1 := by
  unfold Tree.dir at h
  cases ha : T.at n with
  | none => rw [ha] at h; cases h
  | some y =>
    rw [ha] at h
    simp only at h
    split at h
    · cases h; exact ⟨rfl, by assumption⟩
    · cases h
theorem tpart_ok (hk : Take l c r) (hP : PTree t T β c) (hS : Small T) (hN : Names T) (h : ∀ c', PTree t (T.part dir s).1 β c' → R (vi (T.part dir s).2) (c' :: r)) : scall Tryz.prog 40 #[ptr t 0, vi dir, vstr' s] R l := by
  refine scall_perm (l' := c :: r) (by rw [List.flatten_cons]; exact hk) (S40_ok ?_)
  have hT := tree_at (take_here c r) hP
  unfold S40
  refine tdir_ok hT (fun d hd hat hdk hn => ?_) (fun hd => ?_)
  · obtain ⟨ty, up, m, es, clk, hk2, hu, hkm, hm⟩ := hn.dirCells hdk
    (repeat' (first | refine z0 ?_ | refine z1 ?_ | refine z2 ?_ | refine z3 ?_ | refine z4 ?_ | refine z5 ?_ | refine z6 ?_ | refine z7 (fun hg => ?_) (fun hg => ?_) | refine z8 (fun hg => ?_) (fun hg => ?_) | refine z9 ?_ | refine za ?_ | refine zb ?_ | refine zc ?_ | refine zd ?_ | refine ze ?_ | refine zf ?_ | refine zg ?_ | refine zh ?_ | refine zi (fun _ => ?_) | refine zj (fun _ => ?_) | refine zk ?_ | refine zl ?_ ?_ | refine zm ?_ | refine zn ?_ | refine zo ?_ | exact (rfl : _ = _)))
    refine r_name hkm hm (fun q hq => ?_) (fun hq => ?_)
    · obtain ⟨x, hx, hl1, hne, hw1⟩ := hN.live dir d s q hd hq
      obtain ⟨ty', p, m', turns, es', clk', xs, hk', hkm', hm', hatt, -, hxs⟩ := hT.open
      (repeat' (first | refine z0 ?_ | refine z1 ?_ | refine z2 ?_ | refine z3 ?_ | refine z4 ?_ | refine z5 ?_ | refine z6 ?_ | refine z7 (fun hg => ?_) (fun hg => ?_) | refine z8 (fun hg => ?_) (fun hg => ?_) | refine z9 ?_ | refine za ?_ | refine zb ?_ | refine zc ?_ | refine zd ?_ | refine ze ?_ | refine zf ?_ | refine zg ?_ | refine zh ?_ | refine zi (fun _ => ?_) | refine zj (fun _ => ?_) | refine zk ?_ | refine zl ?_ ?_ | refine zm ?_ | refine zn ?_ | refine zo ?_ | exact (rfl : _ = _)))
      refine r_all hkm' hm' hxs (fun y hy => ?_) (fun hy => ?_)
      rotate_left
      · rw [hx] at hy; cases hy
      have hxn := hatt q x hx
      by_cases hxk : x.kind = 1
      · obtain ⟨ty2, up2, m2, es2, clk2, hk3, hu3, hkm3, hm3⟩ := hxn.dirCells hxk
        have hsz : es2.size = x.names.length := by rw [hm3.size]; simp [namesK]
        (repeat' (first | refine z0 ?_ | refine z1 ?_ | refine z2 ?_ | refine z3 ?_ | refine z4 ?_ | refine z5 ?_ | refine z6 ?_ | refine z7 (fun hg => ?_) (fun hg => ?_) | refine z8 (fun hg => ?_) (fun hg => ?_) | refine z9 ?_ | refine za ?_ | refine zb ?_ | refine zc ?_ | refine zd ?_ | refine ze ?_ | refine zf ?_ | refine zg ?_ | refine zh ?_ | refine zi (fun _ => ?_) | refine zj (fun _ => ?_) | refine zk ?_ | refine zl ?_ ?_ | refine zm ?_ | refine zn ?_ | refine zo ?_ | exact (rfl : _ = _)))
        · have hne0 : x.names.length ≠ 0 := by omega
          have hm : T.part dir s = (T, 47) := by simp only [Tree.part, hd, hq, hx]; simp [hne0]
          rw [hm] at h
          exact h c hP
        · have he0 : x.names.length = 0 := by omega
          have hm : T.part dir s = (T.take dir s q, 0) := by simp only [Tree.part, hd, hq, hx]; simp [he0]
          rw [hm] at h
          exact ttake_ok (take_here c r) hP hS hx hat hdk hne hq hl1 hw1 (fun c' v hc' => h c' hc')
      · obtain ⟨ty2, up2, nm2, hk3, hu3, ⟨hk4, -⟩ | ⟨-, rfl, he⟩⟩ := hxn.cells
        · exact absurd hk4 hxk
        (repeat' (first | refine z0 ?_ | refine z1 ?_ | refine z2 ?_ | refine z3 ?_ | refine z4 ?_ | refine z5 ?_ | refine z6 ?_ | refine z7 (fun hg => ?_) (fun hg => ?_) | refine z8 (fun hg => ?_) (fun hg => ?_) | refine z9 ?_ | refine za ?_ | refine zb ?_ | refine zc ?_ | refine zd ?_ | refine ze ?_ | refine zf ?_ | refine zg ?_ | refine zh ?_ | refine zi (fun _ => ?_) | refine zj (fun _ => ?_) | refine zk ?_ | refine zl ?_ ?_ | refine zm ?_ | refine zn ?_ | refine zo ?_ | exact (rfl : _ = _)))
        refine r_len_nomap ?_
        (repeat' (first | refine z0 ?_ | refine z1 ?_ | refine z2 ?_ | refine z3 ?_ | refine z4 ?_ | refine z5 ?_ | refine z6 ?_ | refine z7 (fun hg => ?_) (fun hg => ?_) | refine z8 (fun hg => ?_) (fun hg => ?_) | refine z9 ?_ | refine za ?_ | refine zb ?_ | refine zc ?_ | refine zd ?_ | refine ze ?_ | refine zf ?_ | refine zg ?_ | refine zh ?_ | refine zi (fun _ => ?_) | refine zj (fun _ => ?_) | refine zk ?_ | refine zl ?_ ?_ | refine zm ?_ | refine zn ?_ | refine zo ?_ | exact (rfl : _ = _)))
        have hm : T.part dir s = (T.take dir s q, 0) := by simp only [Tree.part, hd, hq, hx]; simp [he]
        rw [hm] at h
        exact ttake_ok (take_here c r) hP hS hx hat hdk hne hq hl1 hw1 (fun c' v hc' => h c' hc')
    · (repeat' (first | refine z0 ?_ | refine z1 ?_ | refine z2 ?_ | refine z3 ?_ | refine z4 ?_ | refine z5 ?_ | refine z6 ?_ | refine z7 (fun hg => ?_) (fun hg => ?_) | refine z8 (fun hg => ?_) (fun hg => ?_) | refine z9 ?_ | refine za ?_ | refine zb ?_ | refine zc ?_ | refine zd ?_ | refine ze ?_ | refine zf ?_ | refine zg ?_ | refine zh ?_ | refine zi (fun _ => ?_) | refine zj (fun _ => ?_) | refine zk ?_ | refine zl ?_ ?_ | refine zm ?_ | refine zn ?_ | refine zo ?_ | exact (rfl : _ = _)))
      have hm : T.part dir s = (T, 32) := by simp [Tree.part, hd, hq]
      rw [hm] at h
      exact h c hP
  · (repeat' (first | refine z0 ?_ | refine z1 ?_ | refine z2 ?_ | refine z3 ?_ | refine z4 ?_ | refine z5 ?_ | refine z6 ?_ | refine z7 (fun hg => ?_) (fun hg => ?_) | refine z8 (fun hg => ?_) (fun hg => ?_) | refine z9 ?_ | refine za ?_ | refine zb ?_ | refine zc ?_ | refine zd ?_ | refine ze ?_ | refine zf ?_ | refine zg ?_ | refine zh ?_ | refine zi (fun _ => ?_) | refine zj (fun _ => ?_) | refine zk ?_ | refine zl ?_ ?_ | refine zm ?_ | refine zn ?_ | refine zo ?_ | exact (rfl : _ = _)))
    have hm : T.part dir s = (T, 1) := by simp [Tree.part, hd]
    rw [hm] at h
    exact h c hP
theorem tjoin_ok (hk : Take l c r) (hP : PTree t T β c) (hS : Small T) (h : ∀ c', PTree t (T.join dir s n).1 β c' → R (vi (T.join dir s n).2) (c' :: r)) : scall Tryz.prog 38 #[ptr t 0, vi dir, vstr' s, vi n] R l := by
  refine scall_perm (l' := c :: r) (by rw [List.flatten_cons]; exact hk) (S38_ok ?_)
  have hT := tree_at (take_here c r) hP
  obtain ⟨ty', p, m', turns, es', clk', xs, hk', hkm', hm', hatt, -, hxs⟩ := hT.open
  unfold S38
  (repeat' (first | refine z0 ?_ | refine z1 ?_ | refine z2 ?_ | refine z3 ?_ | refine z4 ?_ | refine z5 ?_ | refine z6 ?_ | refine z7 (fun hg => ?_) (fun hg => ?_) | refine z8 (fun hg => ?_) (fun hg => ?_) | refine z9 ?_ | refine za ?_ | refine zb ?_ | refine zc ?_ | refine zd ?_ | refine ze ?_ | refine zf ?_ | refine zg ?_ | refine zh ?_ | refine zi (fun _ => ?_) | refine zj (fun _ => ?_) | refine zk ?_ | refine zl ?_ ?_ | refine zm ?_ | refine zn ?_ | refine zo ?_ | exact (rfl : _ = _)))
  refine r_all hkm' hm' hxs (fun x hx => ?_) (fun hx => ?_)
  · have hxn := hatt n x hx
    obtain ⟨ty2, up2, nm2, hk3, -⟩ := hxn.cells
    refine tdir_ok hT (fun d hd hat hdk hdn => ?_) (fun hd => ?_)
    · refine r_and (r_all hkm' hm' hxs (fun _ _ => rfl) (fun hx' => by rw [hx] at hx'; cases hx')) ?_
      (repeat' (first | refine z0 ?_ | refine z1 ?_ | refine z2 ?_ | refine z3 ?_ | refine z4 ?_ | refine z5 ?_ | refine z6 ?_ | refine z7 (fun hg => ?_) (fun hg => ?_) | refine z8 (fun hg => ?_) (fun hg => ?_) | refine z9 ?_ | refine za ?_ | refine zb ?_ | refine zc ?_ | refine zd ?_ | refine ze ?_ | refine zf ?_ | refine zg ?_ | refine zh ?_ | refine zi (fun _ => ?_) | refine zj (fun _ => ?_) | refine zk ?_ | refine zl ?_ ?_ | refine zm ?_ | refine zn ?_ | refine zo ?_ | exact (rfl : _ = _)))
      · have hm : T.join dir s n = (T, 1) := by simp [Tree.join, hd, hx, hg]
        rw [hm] at h; exact h c hP
      · refine right_ok ?_
        cases hr : rightN s with
        | false =>
          (repeat' (first | refine z0 ?_ | refine z1 ?_ | refine z2 ?_ | refine z3 ?_ | refine z4 ?_ | refine z5 ?_ | refine z6 ?_ | refine z7 (fun hg => ?_) (fun hg => ?_) | refine z8 (fun hg => ?_) (fun hg => ?_) | refine z9 ?_ | refine za ?_ | refine zb ?_ | refine zc ?_ | refine zd ?_ | refine ze ?_ | refine zf ?_ | refine zg ?_ | refine zh ?_ | refine zi (fun _ => ?_) | refine zj (fun _ => ?_) | refine zk ?_ | refine zl ?_ ?_ | refine zm ?_ | refine zn ?_ | refine zo ?_ | exact (rfl : _ = _)))
          have hm : T.join dir s n = (T, 1) := by simp [Tree.join, hd, hx, hr]
          rw [hm] at h; exact h c hP
        | true =>
          have hkn := hg
          (repeat' (first | refine z0 ?_ | refine z1 ?_ | refine z2 ?_ | refine z3 ?_ | refine z4 ?_ | refine z5 ?_ | refine z6 ?_ | refine z7 (fun hg => ?_) (fun hg => ?_) | refine z8 (fun hg => ?_) (fun hg => ?_) | refine z9 ?_ | refine za ?_ | refine zb ?_ | refine zc ?_ | refine zd ?_ | refine ze ?_ | refine zf ?_ | refine zg ?_ | refine zh ?_ | refine zi (fun _ => ?_) | refine zj (fun _ => ?_) | refine zk ?_ | refine zl ?_ ?_ | refine zm ?_ | refine zn ?_ | refine zo ?_ | exact (rfl : _ = _)))
          refine free_ok hdn hdk ?_
          cases hgs : getS s d.names with
          | some q =>
            simp only [Option.isSome_some, if_true]
            (repeat' (first | refine z0 ?_ | refine z1 ?_ | refine z2 ?_ | refine z3 ?_ | refine z4 ?_ | refine z5 ?_ | refine z6 ?_ | refine z7 (fun hg => ?_) (fun hg => ?_) | refine z8 (fun hg => ?_) (fun hg => ?_) | refine z9 ?_ | refine za ?_ | refine zb ?_ | refine zc ?_ | refine zd ?_ | refine ze ?_ | refine zf ?_ | refine zg ?_ | refine zh ?_ | refine zi (fun _ => ?_) | refine zj (fun _ => ?_) | refine zk ?_ | refine zl ?_ ?_ | refine zm ?_ | refine zn ?_ | refine zo ?_ | exact (rfl : _ = _)))
            all_goals first | (have hm : T.join dir s n = (T, 35) := by simp [Tree.join, hd, hx, hr, hkn, hgs]
                               rw [hm] at h; exact h c hP) | (exact absurd rfl (by assumption))
          | none =>
            simp only [Option.isSome_none, Bool.false_eq_true, if_false]
            cases hnb : namedB dir d with
            | false =>
              simp only [Bool.false_eq_true, if_false]
              (repeat' (first | refine z0 ?_ | refine z1 ?_ | refine z2 ?_ | refine z3 ?_ | refine z4 ?_ | refine z5 ?_ | refine z6 ?_ | refine z7 (fun hg => ?_) (fun hg => ?_) | refine z8 (fun hg => ?_) (fun hg => ?_) | refine z9 ?_ | refine za ?_ | refine zb ?_ | refine zc ?_ | refine zd ?_ | refine ze ?_ | refine zf ?_ | refine zg ?_ | refine zh ?_ | refine zi (fun _ => ?_) | refine zj (fun _ => ?_) | refine zk ?_ | refine zl ?_ ?_ | refine zm ?_ | refine zn ?_ | refine zo ?_ | exact (rfl : _ = _)))
              all_goals first | (have hm : T.join dir s n = (T, 32) := by simp [Tree.join, hd, hx, hr, hkn, hgs, hnb]
                                 rw [hm] at h; exact h c hP) | (exact absurd rfl (by assumption))
            | true =>
              simp only [if_true]
              (repeat' (first | refine z0 ?_ | refine z1 ?_ | refine z2 ?_ | refine z3 ?_ | refine z4 ?_ | refine z5 ?_ | refine z6 ?_ | refine z7 (fun hg => ?_) (fun hg => ?_) | refine z8 (fun hg => ?_) (fun hg => ?_) | refine z9 ?_ | refine za ?_ | refine zb ?_ | refine zc ?_ | refine zd ?_ | refine ze ?_ | refine zf ?_ | refine zg ?_ | refine zh ?_ | refine zi (fun _ => ?_) | refine zj (fun _ => ?_) | refine zk ?_ | refine zl ?_ ?_ | refine zm ?_ | refine zn ?_ | refine zo ?_ | exact (rfl : _ = _)))
              · have hm : T.join dir s n = (T, 44) := by simp [Tree.join, hd, hx, hr, hkn, hgs, hnb]; omega
                rw [hm] at h; exact h c hP
              · have hm : T.join dir s n = (T.give dir s n, 0) := by simp [Tree.join, hd, hx, hr, hkn, hgs, hnb]; omega
                rw [hm] at h
                exact tgive_ok (take_here c r) hP hS hx hat hdk (fun e => by subst e; rw [hx] at hat; cases hat; exact hkn hdk) hgs (fun c' v hc' => h c' hc')
    · refine r_and (r_all hkm' hm' hxs (fun _ _ => rfl) (fun hx' => by rw [hx] at hx'; cases hx')) ?_
      (repeat' (first | refine z0 ?_ | refine z1 ?_ | refine z2 ?_ | refine z3 ?_ | refine z4 ?_ | refine z5 ?_ | refine z6 ?_ | refine z7 (fun hg => ?_) (fun hg => ?_) | refine z8 (fun hg => ?_) (fun hg => ?_) | refine z9 ?_ | refine za ?_ | refine zb ?_ | refine zc ?_ | refine zd ?_ | refine ze ?_ | refine zf ?_ | refine zg ?_ | refine zh ?_ | refine zi (fun _ => ?_) | refine zj (fun _ => ?_) | refine zk ?_ | refine zl ?_ ?_ | refine zm ?_ | refine zn ?_ | refine zo ?_ | exact (rfl : _ = _)))
      have hm : T.join dir s n = (T, 1) := by simp [Tree.join, hd]
      rw [hm] at h; exact h c hP
  · refine tdir_ok hT (fun d hd hat hdk hdn => ?_) (fun hd => ?_)
    · refine r_and (r_all hkm' hm' hxs (fun _ hx' => by rw [hx] at hx'; cases hx') (fun _ => rfl)) ?_
      (repeat' (first | refine z0 ?_ | refine z1 ?_ | refine z2 ?_ | refine z3 ?_ | refine z4 ?_ | refine z5 ?_ | refine z6 ?_ | refine z7 (fun hg => ?_) (fun hg => ?_) | refine z8 (fun hg => ?_) (fun hg => ?_) | refine z9 ?_ | refine za ?_ | refine zb ?_ | refine zc ?_ | refine zd ?_ | refine ze ?_ | refine zf ?_ | refine zg ?_ | refine zh ?_ | refine zi (fun _ => ?_) | refine zj (fun _ => ?_) | refine zk ?_ | refine zl ?_ ?_ | refine zm ?_ | refine zn ?_ | refine zo ?_ | exact (rfl : _ = _)))
      have hm : T.join dir s n = (T, 1) := by simp [Tree.join, hd, hx]
      rw [hm] at h; exact h c hP
    · refine r_and (r_all hkm' hm' hxs (fun _ hx' => by rw [hx] at hx'; cases hx') (fun _ => rfl)) ?_
      (repeat' (first | refine z0 ?_ | refine z1 ?_ | refine z2 ?_ | refine z3 ?_ | refine z4 ?_ | refine z5 ?_ | refine z6 ?_ | refine z7 (fun hg => ?_) (fun hg => ?_) | refine z8 (fun hg => ?_) (fun hg => ?_) | refine z9 ?_ | refine za ?_ | refine zb ?_ | refine zc ?_ | refine zd ?_ | refine ze ?_ | refine zf ?_ | refine zg ?_ | refine zh ?_ | refine zi (fun _ => ?_) | refine zj (fun _ => ?_) | refine zk ?_ | refine zl ?_ ?_ | refine zm ?_ | refine zn ?_ | refine zo ?_ | exact (rfl : _ = _)))
      have hm : T.join dir s n = (T, 1) := by simp [Tree.join, hd, hx]
      rw [hm] at h; exact h c hP
end
end Go.Sl
namespace Go.Sl
variable [Ghost]
open Go Go.Mo Go.Proofs
attribute [local irreducible] snil sfa sext sfield sguard sun sbin slen sload sstore snew snewObj sbuildR sbuildSlR smakeMapR smakeSlR slookup smapset srangeMap snext sentry scall scallv sextern sbuiltin sidx sindex sslice sconv srangeX sarg sand sjoin0 sjoin1 sjoin2 sloop0 sloop1 sloop2
section
variable {l r : St} {t b : Nat} {T : Tree} {β : Int → Nat} {c : Chunk} {n dir : Int} {x d : Nd} {s text : Str} {st : Stt} {R : Value → SP}
theorem make_new (hd : T.dir dir = some d) (h1 : rightN s = true) (h2 : ¬ st.kind < 1) (h3 : ¬ 3 < st.kind) (h4 : text = [] ∨ st.kind = 3) (h5 : getS s d.names = none) (h6 : namedB dir d = true) (h7 : ¬ (st.kind = 1 ∧ 16 ≤ T.dirs dir d)) (h8 : ¬ T.most ≤ T.live.length) :
    T.make dir s st text = ((addT T st text).give dir s ((T.all.length + 1 : Nat) : Int), ((T.all.length + 1 : Nat) : Int), 0) := by
  unfold Tree.make addT
  rw [hd]
  simp only [h5, h6, Option.isSome_none, Bool.false_eq_true, if_false, Bool.not_true]
  rw [if_neg (by
    rcases h4 with rfl | h4
    · simp [h1, h2, h3]
    · simp [h1, h2, h3, h4]), if_neg (by simpa using h7), if_neg h8]
theorem geti_snoc {α : Type} (xs : List (Option α)) (y : α) (m : Int) : geti (xs ++ [some y]) m = if m = ((xs.length + 1 : Nat) : Int) then some y else geti xs m := by
  match m with
  | .ofNat 0 => rw [if_neg (by intro e; have : (0 : Int) = ((xs.length + 1 : Nat) : Int) := e; omega)]; rfl
  | .negSucc k => rw [if_neg (by intro e; cases e)]; rfl
  | .ofNat (k + 1) =>
    show (match nth (xs ++ [some y]) k with | some x => x | none => none) = _
    rw [nth_eq]
    by_cases hk : k = xs.length
    · subst hk
      rw [if_pos (show Int.ofNat (xs.length + 1) = ((xs.length + 1 : Nat) : Int) from rfl)]; simp
    · rw [if_neg (fun e => hk (by have : ((k + 1 : Nat) : Int) = ((xs.length + 1 : Nat) : Int) := e; omega))]
      show _ = (match nth xs k with | some x => x | none => none)
      rw [nth_eq]
      by_cases hlt : k < xs.length
      · rw [List.getElem?_append_left hlt]
      · rw [List.getElem?_append_right (by omega), List.getElem?_eq_none (by simp; omega), List.getElem?_eq_none (by omega)]
theorem addT_at (m : Int) : ∃ nd : Nd, (nd.names = [] ∧ nd.links = 0 ∧ nd.holds = 0 ∧ nd.kind = st.kind) ∧ (addT T st text).at m = if m = ((T.all.length + 1 : Nat) : Int) then some nd else T.at m := by
  refine ⟨{ kind := st.kind, mode := masked st.mode, uid := st.uid, gid := st.gid, text := text, file := (if st.kind = 2 then T.pool.file else (T.pool, 0)).2, up := if st.kind = 1 ∧ ((T.all.length + 1 : Nat) : Int) ≠ 1 then ((T.all.length + 1 : Nat) : Int) else 0 }, ⟨rfl, rfl, rfl, rfl⟩, ?_⟩
  exact geti_snoc T.all _ m
theorem at_lt {m : Int} (h : T.at m = some x) : m ≠ ((T.all.length + 1 : Nat) : Int) := fun e => by
  have := (geti_live T.all m x).1 h
  exact not_live_len T.all m e (List.mem_map.2 ⟨_, this, rfl⟩)
theorem Small.add (hS : Small T) (h1 : T.all.length + 1 ≤ 2 ^ 30) (h2 : T.pool.fs.length + 1 ≤ 2 ^ 30) : Small (addT T st text) := by
  obtain ⟨nd, ⟨n1, n2, n3, -⟩, hat⟩ := addT_at (T := T) (st := st) (text := text) 0
  have key : ∀ m z, (addT T st text).at m = some z → SmallN z := by
    intro m z hz
    obtain ⟨nd, ⟨n1, n2, n3, -⟩, hat⟩ := addT_at (T := T) (st := st) (text := text) m
    rw [hat] at hz
    split at hz
    · cases hz
      unfold SmallN
      rw [n1, n2, n3]; simp
    · exact hS.node hz
  refine ⟨?_, ?_, fun m z hz => (key m z hz).1, fun m z hz => (key m z hz).2.1, fun m z hz => (key m z hz).2.2, ?_⟩
  · show (T.all ++ [_]).length ≤ _
    simp; omega
  · unfold addT
    simp only
    split
    · simp [Pool.file]; omega
    · exact hS.files
  · unfold addT
    simp only
    split
    · exact hS.blocks
    · exact hS.blocks
theorem tmake_ok (hk : Take l c r) (hP : PTree t T β c) (hS : Small T) (hS1 : T.all.length + 1 ≤ 2 ^ 30) (hS2 : T.pool.fs.length + 1 ≤ 2 ^ 30) (h : ∀ c' β', PTree t (T.make dir s st text).1 β' c' → R (.tuple #[vi (T.make dir s st text).2.1, vi (T.make dir s st text).2.2]) (c' :: r)) :
    scall Tryz.prog 36 #[ptr t 0, vi dir, vstr' s, sttV st, vstr' text] R l := by
  refine scall_perm (l' := c :: r) (by rw [List.flatten_cons]; exact hk) (scall_post (S36_ok ?_))
  have hT := tree_at (take_here c r) hP
  obtain ⟨ty', p, m', turns, es', clk', xs, hk', hkm', hm', hatt, -, hxs⟩ := hT.open
  have hsz : (es'.size : Int) = T.live.length := by rw [hm'.size]; unfold kvOf Tree.live; simp [hxs.length_eq]
  have bad : ∀ e : Int, T.make dir s st text = (T, 0, e) → ∃ l2, Ent (c :: r) l2 ∧ R (.tuple #[vi 0, vi e]) l2 := fun e hm => by rw [hm] at h; exact ⟨c :: r, .refl _, h c β hP⟩
  have bad' : ∀ (sb : Nat) (o : Obj) (e : Int), T.make dir s st text = (T, 0, e) → ∃ l2, Ent (pt sb o :: c :: r) l2 ∧ R (.tuple #[vi 0, vi e]) l2 := fun sb o e hm => let ⟨l2, h1, h2⟩ := bad e hm; ⟨l2, (Ent.drop _ _).trans h1, h2⟩
  unfold S36
  (repeat' (first | refine z0 ?_ | refine z1 ?_ | refine z2 ?_ | refine z3 ?_ | refine z4 ?_ | refine z5 ?_ | refine z6 ?_ | refine z7 (fun hg => ?_) (fun hg => ?_) | refine z8 (fun hg => ?_) (fun hg => ?_) | refine z9 ?_ | refine za ?_ | refine zb ?_ | refine zc ?_ | refine zd ?_ | refine ze ?_ | refine zf ?_ | refine zg ?_ | refine zh ?_ | refine zi (fun _ => ?_) | refine zj (fun _ => ?_) | refine zk ?_ | refine zl ?_ ?_ | refine zm ?_ | refine zn ?_ | refine zo ?_ | exact (rfl : _ = _)))
  rename_i sb
  refine tdir_ok (hT.there _) (fun d hd hat hdk hdn => ?_) (fun hd => ?_)
  · (repeat' (first | refine z0 ?_ | refine z1 ?_ | refine z2 ?_ | refine z3 ?_ | refine z4 ?_ | refine z5 ?_ | refine z6 ?_ | refine z7 (fun hg => ?_) (fun hg => ?_) | refine z8 (fun hg => ?_) (fun hg => ?_) | refine z9 ?_ | refine za ?_ | refine zb ?_ | refine zc ?_ | refine zd ?_ | refine ze ?_ | refine zf ?_ | refine zg ?_ | refine zh ?_ | refine zi (fun _ => ?_) | refine zj (fun _ => ?_) | refine zk ?_ | refine zl ?_ ?_ | refine zm ?_ | refine zn ?_ | refine zo ?_ | exact (rfl : _ = _)))
    refine right_ok ?_
    cases hr : rightN s with
    | false =>
      (repeat' (first | refine z0 ?_ | refine z1 ?_ | refine z2 ?_ | refine z3 ?_ | refine z4 ?_ | refine z5 ?_ | refine z6 ?_ | refine z7 (fun hg => ?_) (fun hg => ?_) | refine z8 (fun hg => ?_) (fun hg => ?_) | refine z9 ?_ | refine za ?_ | refine zb ?_ | refine zc ?_ | refine zd ?_ | refine ze ?_ | refine zf ?_ | refine zg ?_ | refine zh ?_ | refine zi (fun _ => ?_) | refine zj (fun _ => ?_) | refine zk ?_ | refine zl ?_ ?_ | refine zm ?_ | refine zn ?_ | refine zo ?_ | exact (rfl : _ = _)))
      exact bad' _ _ 1 (by simp [Tree.make, hd, hr])
    | true =>
      have hte : ((bs text).toList == (⟨#[]⟩ : ByteArray).toList) = decide (text = []) := by
        have h2 : ((⟨#[]⟩ : ByteArray)).toList = [] := toList_bs []
        rw [toList_bs, h2]
        by_cases h : text = [] <;> simp [h]
      (repeat' (first | refine z0 ?_ | refine z1 ?_ | refine z2 ?_ | refine z3 ?_ | refine z4 ?_ | refine z5 ?_ | refine z6 ?_ | refine z7 (fun hg => ?_) (fun hg => ?_) | refine z8 (fun hg => ?_) (fun hg => ?_) | refine z9 ?_ | refine za ?_ | refine zb ?_ | refine zc ?_ | refine zd ?_ | refine ze ?_ | refine zf ?_ | refine zg ?_ | refine zh ?_ | refine zi (fun _ => ?_) | refine zj (fun _ => ?_) | refine zk ?_ | refine zl ?_ ?_ | refine zm ?_ | refine zn ?_ | refine zo ?_ | exact (rfl : _ = _)))
      · exact bad' _ _ 1 (by simp [Tree.make, hd, hr, hg])
      · exact bad' _ _ 1 (by have : 3 < st.kind := hg; simp [Tree.make, hd, hr, this])
      · rename_i h4
        have h5 : text ≠ [] := by rw [hte] at h4; simpa using h4
        have h6 : st.kind ≠ 3 := by simpa using hg
        exact bad' _ _ 1 (by simp [Tree.make, hd, hr, h5, h6])
      all_goals
        have h4 : text = [] ∨ st.kind = 3 := by first | exact .inr (by simpa using hg) | (rw [hte] at hg; exact .inl (by simpa using hg))
        have h2 : ¬ st.kind < 1 := by assumption
        have h3 : ¬ 3 < st.kind := by assumption
        refine free_ok hdn hdk ?_
        have cond : ¬ ((!true || decide (st.kind < 1) || decide (3 < st.kind) || (text != [] && st.kind != 3)) = true) := by
          rcases h4 with h4 | h4
          · subst h4; simp [h2, h3]
          · simp [h2, h3, h4]
        cases hgs : getS s d.names with
        | some q =>
          simp only [Option.isSome_some, if_true]
          (repeat' (first | refine z0 ?_ | refine z1 ?_ | refine z2 ?_ | refine z3 ?_ | refine z4 ?_ | refine z5 ?_ | refine z6 ?_ | refine z7 (fun hg => ?_) (fun hg => ?_) | refine z8 (fun hg => ?_) (fun hg => ?_) | refine z9 ?_ | refine za ?_ | refine zb ?_ | refine zc ?_ | refine zd ?_ | refine ze ?_ | refine zf ?_ | refine zg ?_ | refine zh ?_ | refine zi (fun _ => ?_) | refine zj (fun _ => ?_) | refine zk ?_ | refine zl ?_ ?_ | refine zm ?_ | refine zn ?_ | refine zo ?_ | exact (rfl : _ = _)))
          exact bad' _ _ 35 (by unfold Tree.make; rw [hd]; simp only [hr]; rw [if_neg cond]; simp [hgs])
        | none =>
          simp only [Option.isSome_none, Bool.false_eq_true, if_false]
          cases hnb : namedB dir d with
          | false =>
            simp only [Bool.false_eq_true, if_false]
            (repeat' (first | refine z0 ?_ | refine z1 ?_ | refine z2 ?_ | refine z3 ?_ | refine z4 ?_ | refine z5 ?_ | refine z6 ?_ | refine z7 (fun hg => ?_) (fun hg => ?_) | refine z8 (fun hg => ?_) (fun hg => ?_) | refine z9 ?_ | refine za ?_ | refine zb ?_ | refine zc ?_ | refine zd ?_ | refine ze ?_ | refine zf ?_ | refine zg ?_ | refine zh ?_ | refine zi (fun _ => ?_) | refine zj (fun _ => ?_) | refine zk ?_ | refine zl ?_ ?_ | refine zm ?_ | refine zn ?_ | refine zo ?_ | exact (rfl : _ = _)))
            exact bad' _ _ 32 (by unfold Tree.make; rw [hd]; simp only [hr]; rw [if_neg cond]; simp [hgs, hnb])
          | true =>
            simp only [if_true]
            (repeat' (first | refine z0 ?_ | refine z1 ?_ | refine z2 ?_ | refine z3 ?_ | refine z4 ?_ | refine z5 ?_ | refine z6 ?_ | refine z7 (fun hg => ?_) (fun hg => ?_) | refine z8 (fun hg => ?_) (fun hg => ?_) | refine z9 ?_ | refine za ?_ | refine zb ?_ | refine zc ?_ | refine zd ?_ | refine ze ?_ | refine zf ?_ | refine zg ?_ | refine zh ?_ | refine zi (fun _ => ?_) | refine zj (fun _ => ?_) | refine zk ?_ | refine zl ?_ ?_ | refine zm ?_ | refine zn ?_ | refine zo ?_ | exact (rfl : _ = _)))
            · have hkk := hg
              refine tdirs_ok (hT.there _) hS hat hdk hdn ?_
              (repeat' (first | refine z0 ?_ | refine z1 ?_ | refine z2 ?_ | refine z3 ?_ | refine z4 ?_ | refine z5 ?_ | refine z6 ?_ | refine z7 (fun hg => ?_) (fun hg => ?_) | refine z8 (fun hg => ?_) (fun hg => ?_) | refine z9 ?_ | refine za ?_ | refine zb ?_ | refine zc ?_ | refine zd ?_ | refine ze ?_ | refine zf ?_ | refine zg ?_ | refine zh ?_ | refine zi (fun _ => ?_) | refine zj (fun _ => ?_) | refine zk ?_ | refine zl ?_ ?_ | refine zm ?_ | refine zn ?_ | refine zo ?_ | exact (rfl : _ = _)))
              · exact bad' _ _ 44 (by unfold Tree.make; rw [hd]; simp only [hr]; rw [if_neg cond]; have : 16 ≤ T.dirs dir d := hg; simp [hgs, hnb, hkk, this])
              · have hq : ¬ (st.kind = 1 ∧ 16 ≤ T.dirs dir d) := fun e => absurd e.2 (by assumption)
                exact bad' _ _ 43 (by unfold Tree.make; rw [hd]; simp only [hr]; rw [if_neg cond]; have : T.most ≤ T.live.length := by rw [← hsz]; exact hg
                                      simp only [hgs, hnb, Option.isSome_none, Bool.false_eq_true, if_false, Bool.not_true]; rw [if_neg (by simpa using hq), if_pos this])
              · have hk1 : ¬ (st.kind = 1 ∧ 16 ≤ T.dirs dir d) := fun e => by first | exact absurd e.2 (by assumption) | exact absurd e.1 (by assumption)
                have hmost : ¬ T.most ≤ T.live.length := by rw [← hsz]; assumption
                have hmk := make_new (text := text) hd hr h2 h3 h4 hgs hnb hk1 hmost
                rw [hmk] at h
                generalize hNdef : ((T.all.length + 1 : Nat) : Int) = N at h
                refine tadd_ok (st := st) (take_there _ (take_here c r)) hP hS (fun c1 nb hP1 => ?_)
                rw [hNdef] at hP1
                obtain ⟨nd, -, hxN⟩ := addT_at (T := T) (st := st) (text := text) N
                obtain ⟨nd2, -, hdN⟩ := addT_at (T := T) (st := st) (text := text) dir
                rw [hNdef, if_pos rfl] at hxN
                have hne : dir ≠ N := by rw [← hNdef]; exact at_lt hat
                rw [hNdef, if_neg hne, hat] at hdN
                have e1 : updB β N nb dir = β dir := by unfold updB; rw [if_neg hne]
                have e2 : updB β N nb N = nb := by unfold updB; rw [if_pos rfl]
                have key : ∀ (R' : Value → SP) (r' : St), (∀ c' v, PTree t ((addT T st text).give dir s N) (updB β N nb) c' → R' v (c' :: r')) → scall Tryz.prog 77 #[ptr t 0, ptr (β dir) 0, vstr' s, ptr nb 0] R' (c1 :: r') := fun R' r' hR => by
                  have := tgive_ok (R := R') (take_here c1 r') hP1 (hS.add hS1 hS2) hxN hdN hdk (fun e => hne e.symm) hgs hR
                  rw [e1, e2] at this; exact this
                refine key _ _ (fun c2 v hP2 => ?_)
                have hx2 : ∃ x2, ((addT T st text).give dir s N).at N = some x2 := by
                  have hx1 : ((addT T st text).put dir (some { d with names := insS s N d.names })).at N = some nd := by rw [put_at hdN, if_neg (fun e => hne e.symm)]; exact hxN
                  refine ⟨{ nd with links := nd.links + 1, up := if nd.kind = 1 then dir else nd.up }, ?_⟩
                  simp only [Tree.give, hdN, hx1]
                  rw [put_at hx1, if_pos rfl]
                obtain ⟨x2, hx2⟩ := hx2
                obtain ⟨_, _, _, _, _, _, _, _, _, _, hatt2, _, _⟩ := (tree_at (take_here c2 (pt sb (.cells (sttV st).cells 42) :: r)) hP2).open
                have hn2 := hatt2 N x2 hx2
                rw [e2] at hn2
                obtain ⟨ty3, up3, nm3, hk9, -⟩ := hn2.cells
                (repeat' (first | refine z0 ?_ | refine z1 ?_ | refine z2 ?_ | refine z3 ?_ | refine z4 ?_ | refine z5 ?_ | refine z6 ?_ | refine z7 (fun hg => ?_) (fun hg => ?_) | refine z8 (fun hg => ?_) (fun hg => ?_) | refine z9 ?_ | refine za ?_ | refine zb ?_ | refine zc ?_ | refine zd ?_ | refine ze ?_ | refine zf ?_ | refine zg ?_ | refine zh ?_ | refine zi (fun _ => ?_) | refine zj (fun _ => ?_) | refine zk ?_ | refine zl ?_ ?_ | refine zm ?_ | refine zn ?_ | refine zo ?_ | exact (rfl : _ = _)))
                exact ⟨c2 :: r, ent_mid [c2] _ r, h c2 _ hP2⟩
            · have hq : ¬ (st.kind = 1 ∧ 16 ≤ T.dirs dir d) := fun e => absurd e.1 (by assumption)
              exact bad' _ _ 43 (by unfold Tree.make; rw [hd]; simp only [hr]; rw [if_neg cond]; have : T.most ≤ T.live.length := by rw [← hsz]; exact hg
                                    simp only [hgs, hnb, Option.isSome_none, Bool.false_eq_true, if_false, Bool.not_true]; rw [if_neg (by simpa using hq), if_pos this])
            · have hk1 : ¬ (st.kind = 1 ∧ 16 ≤ T.dirs dir d) := fun e => by first | exact absurd e.2 (by assumption) | exact absurd e.1 (by assumption)
              have hmost : ¬ T.most ≤ T.live.length := by rw [← hsz]; assumption
              have hmk := make_new (text := text) hd hr h2 h3 h4 hgs hnb hk1 hmost
              rw [hmk] at h
              generalize hNdef : ((T.all.length + 1 : Nat) : Int) = N at h
              refine tadd_ok (st := st) (take_there _ (take_here c r)) hP hS (fun c1 nb hP1 => ?_)
              rw [hNdef] at hP1
              obtain ⟨nd, -, hxN⟩ := addT_at (T := T) (st := st) (text := text) N
              obtain ⟨nd2, -, hdN⟩ := addT_at (T := T) (st := st) (text := text) dir
              rw [hNdef, if_pos rfl] at hxN
              have hne : dir ≠ N := by rw [← hNdef]; exact at_lt hat
              rw [hNdef, if_neg hne, hat] at hdN
              have e1 : updB β N nb dir = β dir := by unfold updB; rw [if_neg hne]
              have e2 : updB β N nb N = nb := by unfold updB; rw [if_pos rfl]
              have key : ∀ (R' : Value → SP) (r' : St), (∀ c' v, PTree t ((addT T st text).give dir s N) (updB β N nb) c' → R' v (c' :: r')) → scall Tryz.prog 77 #[ptr t 0, ptr (β dir) 0, vstr' s, ptr nb 0] R' (c1 :: r') := fun R' r' hR => by
                have := tgive_ok (R := R') (take_here c1 r') hP1 (hS.add hS1 hS2) hxN hdN hdk (fun e => hne e.symm) hgs hR
                rw [e1, e2] at this; exact this
              refine key _ _ (fun c2 v hP2 => ?_)
              have hx2 : ∃ x2, ((addT T st text).give dir s N).at N = some x2 := by
                have hx1 : ((addT T st text).put dir (some { d with names := insS s N d.names })).at N = some nd := by rw [put_at hdN, if_neg (fun e => hne e.symm)]; exact hxN
                refine ⟨{ nd with links := nd.links + 1, up := if nd.kind = 1 then dir else nd.up }, ?_⟩
                simp only [Tree.give, hdN, hx1]
                rw [put_at hx1, if_pos rfl]
              obtain ⟨x2, hx2⟩ := hx2
              obtain ⟨_, _, _, _, _, _, _, _, _, _, hatt2, _, _⟩ := (tree_at (take_here c2 (pt sb (.cells (sttV st).cells 42) :: r)) hP2).open
              have hn2 := hatt2 N x2 hx2
              rw [e2] at hn2
              obtain ⟨ty3, up3, nm3, hk9, -⟩ := hn2.cells
              (repeat' (first | refine z0 ?_ | refine z1 ?_ | refine z2 ?_ | refine z3 ?_ | refine z4 ?_ | refine z5 ?_ | refine z6 ?_ | refine z7 (fun hg => ?_) (fun hg => ?_) | refine z8 (fun hg => ?_) (fun hg => ?_) | refine z9 ?_ | refine za ?_ | refine zb ?_ | refine zc ?_ | refine zd ?_ | refine ze ?_ | refine zf ?_ | refine zg ?_ | refine zh ?_ | refine zi (fun _ => ?_) | refine zj (fun _ => ?_) | refine zk ?_ | refine zl ?_ ?_ | refine zm ?_ | refine zn ?_ | refine zo ?_ | exact (rfl : _ = _)))
              exact ⟨c2 :: r, ent_mid [c2] _ r, h c2 _ hP2⟩
  · (repeat' (first | refine z0 ?_ | refine z1 ?_ | refine z2 ?_ | refine z3 ?_ | refine z4 ?_ | refine z5 ?_ | refine z6 ?_ | refine z7 (fun hg => ?_) (fun hg => ?_) | refine z8 (fun hg => ?_) (fun hg => ?_) | refine z9 ?_ | refine za ?_ | refine zb ?_ | refine zc ?_ | refine zd ?_ | refine ze ?_ | refine zf ?_ | refine zg ?_ | refine zh ?_ | refine zi (fun _ => ?_) | refine zj (fun _ => ?_) | refine zk ?_ | refine zl ?_ ?_ | refine zm ?_ | refine zn ?_ | refine zo ?_ | exact (rfl : _ = _)))
    exact bad' _ _ 1 (by simp [Tree.make, hd])
end
end Go.Sl
namespace Go.Sl
variable [Ghost]
open Go Go.Mo Go.Proofs
attribute [local irreducible] snil sfa sext sfield sguard sun sbin slen sload sstore snew snewObj sbuildR sbuildSlR smakeMapR smakeSlR slookup smapset srangeMap snext sentry scall scallv sextern sbuiltin sidx sindex sslice sconv srangeX sarg sand sjoin0 sjoin1 sjoin2 sloop0 sloop1 sloop2
theorem scall_nodup {P : Program} {f : FuncId} {args : Array Value} {k : Value → SP} {l : St} (h : (l.flatten.map Prod.fst).Nodup → scall P f args k l) : scall P f args k l := by
  unfold scall at *
  intro F w hs
  have := (Sat.left hs).1.1
  exact h this F w hs
def endsIn (T : Tree) : Nat → Int → Bool
  | 0, _ => false
  | k + 1, n => match T.dir n with
    | none => true
    | some x => x.up = n || endsIn T k x.up
section
variable {l r : St} {t b : Nat} {T : Tree} {β : Int → Nat} {c : Chunk} {n dir : Int} {R : Value → SP}
theorem twithin_ok (hT : TreeAt l t T β) (hE : endsIn T (T.all.length + 1) n = true) (h : R (.bool (T.within n dir)) l) : scall Tryz.prog 90 #[ptr t 0, vi n, vi dir] R l := by
  refine S90_ok ?_
  unfold S90
  refine tdir_ok hT (fun d hd hat hdk hdn => ?_) (fun hd => ?_)
  · (repeat' (first | refine z0 ?_ | refine z1 ?_ | refine z2 ?_ | refine z3 ?_ | refine z4 ?_ | refine z5 ?_ | refine z6 ?_ | refine z7 (fun hg => ?_) (fun hg => ?_) | refine z8 (fun hg => ?_) (fun hg => ?_) | refine z9 ?_ | refine za ?_ | refine zb ?_ | refine zc ?_ | refine zd ?_ | refine ze ?_ | refine zf ?_ | refine zg ?_ | refine zh ?_ | refine zi (fun _ => ?_) | refine zj (fun _ => ?_) | refine zk ?_ | refine zl ?_ ?_ | refine zm ?_ | refine zn ?_ | refine zo ?_ | exact (rfl : _ = _)))
    have hw : T.within n dir = withinGo T dir (T.all.length + 1) n := by simp [Tree.within, hd]
    rw [hw] at h
    obtain ⟨W, hW⟩ : ∃ W, withinGo T dir (T.all.length + 1) n = W := ⟨_, rfl⟩
    rw [hW] at h
    have main : ∀ (v : Value), ((∃ x, T.dir n = some x ∧ v = ptr (β n) 0) ∨ (T.dir n = none ∧ v = .pointer none)) → ∀ B, (∀ k v σ, (∃ m, σ = l ∧ withinGo T dir k m = W ∧ endsIn T k m = true ∧ ((∃ x, T.dir m = some x ∧ v = ptr (β m) 0) ∨ (T.dir m = none ∧ v = .pointer none))) →
        B (fun vs σ' => ∃ k', k' < k ∧ (match vs with | [x0] => fun σ => ∃ m, σ = l ∧ withinGo T dir k' m = W ∧ endsIn T k' m = true ∧ ((∃ x, T.dir m = some x ∧ x0 = ptr (β m) 0) ∨ (T.dir m = none ∧ x0 = Value.pointer none)) | _ => fun _ => False) σ') v σ) → sloop1 v B l := by
      intro v hv B hB
      exact r_loop1 (fun k v σ => ∃ m, σ = l ∧ withinGo T dir k m = W ∧ endsIn T k m = true ∧ ((∃ x, T.dir m = some x ∧ v = ptr (β m) 0) ∨ (T.dir m = none ∧ v = .pointer none))) (T.all.length + 1) ⟨n, rfl, hW, hE, hv⟩ hB
    refine tdir_ok hT (fun x hx _ _ _ => main _ (.inl ⟨x, hx, rfl⟩) _ ?_) (fun hx => main _ (.inr ⟨hx, rfl⟩) _ ?_)
    all_goals
      rintro k v σ ⟨m, rfl, hwg, hend, ⟨y, hy, rfl⟩ | ⟨hy, rfl⟩⟩
      · obtain ⟨hya, hyk⟩ := dir_at hy
        obtain ⟨_, _, _, _, _, _, _, _, _, _, hatt, _, _⟩ := hT.open
        have hyn := hatt m y hya
        obtain ⟨ty3, up3, nm3, hk9, -⟩ := hyn.cells
        cases k with
        | zero => simp [endsIn] at hend
        | succ k =>
          simp only [withinGo, hy] at hwg
          simp only [endsIn, hy, Bool.or_eq_true, decide_eq_true_eq] at hend
          (repeat' (first | refine z0 ?_ | refine z1 ?_ | refine z2 ?_ | refine z3 ?_ | refine z4 ?_ | refine z5 ?_ | refine z6 ?_ | refine z7 (fun hg => ?_) (fun hg => ?_) | refine z8 (fun hg => ?_) (fun hg => ?_) | refine z9 ?_ | refine za ?_ | refine zb ?_ | refine zc ?_ | refine zd ?_ | refine ze ?_ | refine zf ?_ | refine zg ?_ | refine zh ?_ | refine zi (fun _ => ?_) | refine zj (fun _ => ?_) | refine zk ?_ | refine zl ?_ ?_ | refine zm ?_ | refine zn ?_ | refine zo ?_ | exact (rfl : _ = _)))
          refine tup_ok hT ?_
          have hup : T.up m = y.up := by simp [Tree.up, hy]
          rw [hup]
          (repeat' (first | refine z0 ?_ | refine z1 ?_ | refine z2 ?_ | refine z3 ?_ | refine z4 ?_ | refine z5 ?_ | refine z6 ?_ | refine z7 (fun hg => ?_) (fun hg => ?_) | refine z8 (fun hg => ?_) (fun hg => ?_) | refine z9 ?_ | refine za ?_ | refine zb ?_ | refine zc ?_ | refine zd ?_ | refine ze ?_ | refine zf ?_ | refine zg ?_ | refine zh ?_ | refine zi (fun _ => ?_) | refine zj (fun _ => ?_) | refine zk ?_ | refine zl ?_ ?_ | refine zm ?_ | refine zn ?_ | refine zo ?_ | exact (rfl : _ = _)))
          · rw [if_pos hg] at hwg
            rw [← hwg] at h; exact h
          · rename_i hg1
            rw [if_neg hg1, if_pos hg] at hwg
            rw [← hwg] at h; exact h
          · rename_i hg1
            rw [if_neg hg1, if_neg hg] at hwg
            have hend' := hend.resolve_left hg1
            refine tdir_ok hT (fun z hz _ _ _ => ?_) (fun hz => ?_)
            · exact ⟨k, by omega, y.up, rfl, hwg, hend', .inl ⟨z, hz, rfl⟩⟩
            · exact ⟨k, by omega, y.up, rfl, hwg, hend', .inr ⟨hz, rfl⟩⟩
      · (repeat' (first | refine z0 ?_ | refine z1 ?_ | refine z2 ?_ | refine z3 ?_ | refine z4 ?_ | refine z5 ?_ | refine z6 ?_ | refine z7 (fun hg => ?_) (fun hg => ?_) | refine z8 (fun hg => ?_) (fun hg => ?_) | refine z9 ?_ | refine za ?_ | refine zb ?_ | refine zc ?_ | refine zd ?_ | refine ze ?_ | refine zf ?_ | refine zg ?_ | refine zh ?_ | refine zi (fun _ => ?_) | refine zj (fun _ => ?_) | refine zk ?_ | refine zl ?_ ?_ | refine zm ?_ | refine zn ?_ | refine zo ?_ | exact (rfl : _ = _)))
        cases k with
        | zero => simp [endsIn] at hend
        | succ k =>
          simp only [withinGo, hy] at hwg
          rw [← hwg] at h; exact h
  · (repeat' (first | refine z0 ?_ | refine z1 ?_ | refine z2 ?_ | refine z3 ?_ | refine z4 ?_ | refine z5 ?_ | refine z6 ?_ | refine z7 (fun hg => ?_) (fun hg => ?_) | refine z8 (fun hg => ?_) (fun hg => ?_) | refine z9 ?_ | refine za ?_ | refine zb ?_ | refine zc ?_ | refine zd ?_ | refine ze ?_ | refine zf ?_ | refine zg ?_ | refine zh ?_ | refine zi (fun _ => ?_) | refine zj (fun _ => ?_) | refine zk ?_ | refine zl ?_ ?_ | refine zm ?_ | refine zn ?_ | refine zo ?_ | exact (rfl : _ = _)))
    have hw : T.within n dir = false := by simp [Tree.within, hd]
    rw [hw] at h; exact h
end
end Go.Sl
namespace Go.Sl
variable [Ghost]
open Go Go.Proofs
def S138 (a : Value) (R : Value → SP) : SP := snil a fun m => sfa 8 m fun n => sfa 1 n fun o => sload none o fun p => scall Tryz.prog 184 #[a, p, .bool false] fun c => sext c 0 fun q => sext c 1 fun r => snew #[.int .i64 0, .int .i64 0, .string ⟨#[]⟩, .int .i64 0, .int .i64 0, .bool false, .bool false] 48 fun b => sstore 7 b q <| sload (some 7) b fun t => scall Tryz.prog 186 #[a, t, .bool true] fun u => sbuildSlR 49 1 (.int .i64 0) 2 #[(0, r), (1, u)] fun w => scall Tryz.prog 185 #[w] fun d => sbin Tryz.prog .none 49 .neq d (.int .i64 0) fun x => sguard x ( R d) ( sfa 0 b fun y => sload (some 2) y fun z => scall Tryz.prog 187 #[a, z] fun e => sbin Tryz.prog .none 49 .neq e (.int .i64 0) fun A => sguard A ( R e) ( snil a fun B => sfa 0 B fun C => sfa 0 C fun f => sload none f fun g => sfa 0 b fun D => sfa 1 D fun h => sload none h fun i => sfa 2 b fun j => sload none j fun k => snil a fun E => sfa 8 E fun F => sfa 5 F fun G => sload none G fun H => sbin Tryz.prog .none 3 .and H (.int .i64 1023) fun K => scall Tryz.prog 188 #[a, .int .i64 1, K] fun L => sand (sload none j fun v' _ => v' = k) <| sand (sload none h fun v' _ => v' = i) <| sand (sload none f fun v' _ => v' = g) <| scall Tryz.prog 36 #[g, i, k, L, .string ⟨#[]⟩] fun l => sext l 0 fun _ => sext l 1 fun M => R M))
theorem S138_ok {v0 : Value} {R : Value → SP} {l : St} (h : S138 v0 R l) : scall Tryz.prog 138 #[v0] R l := sok [v0] (.seq .leaf (.seq .leaf (.seq (.seq .leaf (.seq .leaf (.cond (.seq .leaf .leaf) .leaf))) (.seq (.seq .leaf (.seq .leaf (.cond (.seq .leaf .leaf) .leaf))) (.seq (.draw [(0, []), (1, []), (2, []), (3, []), (4, []), (5, []), (6, []), (7, []), (8, []), (9, []), (10, []), (11, []), (12, []), (13, []), (14, []), (15, []), (16, []), (17, [4, 7, 9]), (18, []), (19, []), (20, []), (21, []), (22, [])]) (.seq .leaf .leaf)))))) Tryz.func138 (by kernel_rfl) (by kernel_rfl) h
def S145 (a : Value) (R : Value → SP) : SP := snil a fun f => sfa 8 f fun g => sfa 1 g fun h => sload none h fun i => scall Tryz.prog 184 #[a, i, .bool false] fun b => sext b 0 fun j => sext b 1 fun c => snil a fun k => sfa 18 k fun l => sstore 7 l j <| sbin Tryz.prog .none 49 .neq c (.int .i64 0) fun m => sguard m ( R c) ( scall Tryz.prog 201 #[a, .bool false] fun d => sbin Tryz.prog .none 49 .neq d (.int .i64 0) fun n => sguard n ( R d) ( scall Tryz.prog 203 #[a] fun e => sbin Tryz.prog .none 49 .neq e (.int .i64 0) fun o => sguard o ( R e) ( snil a fun p => sfa 0 p fun q => sfa 0 q fun r => sload none r fun t => snil a fun u => sfa 18 u fun w => sfa 0 w fun x => sfa 1 x fun y => sload none y fun z => snil a fun A => sfa 18 A fun B => sfa 2 B fun C => sload none C fun D => snil a fun E => sfa 25 E fun F => sfa 0 F fun G => sfa 1 G fun H => sload none H fun K => snil a fun L => sfa 25 L fun M => sfa 2 M fun N => sload none N fun O => scall Tryz.prog 42 #[t, z, D, K, O] fun Q => R Q)))
theorem S145_ok {v0 : Value} {R : Value → SP} {l : St} (h : S145 v0 R l) : scall Tryz.prog 145 #[v0] R l := sok [v0] (.seq .leaf (.seq (.seq .leaf (.seq .leaf (.cond (.seq .leaf .leaf) .leaf))) (.seq (.seq .leaf (.seq .leaf (.cond (.seq .leaf .leaf) .leaf))) (.seq (.seq .leaf (.seq .leaf (.cond (.seq .leaf .leaf) .leaf))) (.seq (.draw [(0, []), (1, []), (2, []), (3, []), (4, []), (5, []), (6, []), (7, []), (8, []), (9, []), (10, []), (11, []), (12, []), (13, []), (14, []), (15, []), (16, []), (17, []), (18, []), (19, []), (20, []), (21, []), (22, []), (23, []), (24, []), (25, []), (26, []), (27, []), (28, [])]) .leaf))))) Tryz.func145 (by kernel_rfl) (by kernel_rfl) h
def S168 (a : Value) (R : Value → SP) : SP := scall Tryz.prog 219 #[.slice none 0 0, a] fun b => R b
theorem S168_ok {v0 : Value} {R : Value → SP} {l : St} (h : S168 v0 R l) : scall Tryz.prog 168 #[v0] R l := sok [v0] (.seq .leaf (.seq .leaf .leaf)) Tryz.func168 (by kernel_rfl) (by kernel_rfl) h
def S171 (b c : Value) (R : Value → SP) : SP := sload none c fun d => srangeMap d fun a => sloop0  fun e  => snext a fun f => sext f 0 fun g => sguard g ( sentry a fun h => sext h 0 fun i => scallv Tryz.prog b #[i] fun j => sun .not j fun k => sguard k ( R (.tuple #[])) ( e [])) ( R (.tuple #[]))
theorem S171_ok {v0 v1 : Value} {R : Value → SP} {l : St} (h : S171 v0 v1 R l) : scall Tryz.prog 171 #[v0, v1] R l := sok [v0, v1] (.seq .leaf (.one (.loop [3, 6, 7, 8, 9, 10, 11, 12, 13] [] (.seq .leaf (.seq (.cond .leaf .leaf) (.one (.seq .leaf (.seq .leaf (.cond .leaf .leaf))))))))) Tryz.func171 (by kernel_rfl) (by kernel_rfl) h
def S172 (b a : Value) (R : Value → SP) : SP := sjoin1 (fun d => sguard d ( R (.pointer none)) ( snil b fun e => sfa 1 e fun f => sload none f fun g => sbin Tryz.prog .none 3 .sub a (.int .i64 1) fun h => sidx none 1 g h fun i => sload none i fun j => R j)) fun c => sbin Tryz.prog .none 3 .lss a (.int .i64 1) fun k => sguard k ( c [.bool true]) ( snil b fun l => sfa 1 l fun m => sload none m fun n => slen .slice n fun o => sbin Tryz.prog .none 3 .gtr a o fun p => c [p])
theorem S172_ok {v0 v1 : Value} {R : Value → SP} {l : St} (h : S172 v0 v1 R l) : scall Tryz.prog 172 #[v0, v1] R l := sok [v0, v1] (.seq .leaf (.seq (.join [5, 6, 7, 8, 9, 10, 11, 12, 13, 14, 15] [15] .leaf (.cond (.seq .leaf .leaf) .leaf)) (.seq .leaf .leaf))) Tryz.func172 (by kernel_rfl) (by kernel_rfl) h
end Go.Sl
namespace Go.Sl
variable [Ghost]
open Go Go.Mo Go.Proofs
attribute [local irreducible] snil sfa sext sfield sguard sun sbin slen sload sstore snew snewObj sbuildR sbuildSlR smakeMapR smakeSlR slookup smapset srangeMap snext sentry scall scallv sextern sbuiltin sidx sindex sslice sconv srangeX sarg sand sjoin0 sjoin1 sjoin2 sloop0 sloop1 sloop2
theorem keys_iter_str {m clk cb : Nat} {es : Array MapEntry} {kvs : List (List UInt8 × Value)} {G : St} {ty : TypeId} (hc : Knows G cb (.cells #[.map (some m)] ty)) (hk : Knows G m (.map es clk)) (hm : MapOf kStr es clk kvs) :
    IterV Tryz.prog (.func (.func 137) #[] #[ptr cb 0]) G (fun d => d.Perm (kvs.map fun p => kStr.enc p.1)) := by
  intro y I J hyf hy σ hI0
  refine r_callv (by kernel_rfl) ?_
  show scall Tryz.prog 137 #[y, ptr cb 0] _ _
  refine scall_post (S137_ok ?_)
  have hc' := knows_left hc σ
  have hk' : ∀ σ, Knows (G ++ σ) m (.map es clk) := fun σ => knows_left hk σ
  unfold S137
  (repeat' (first | refine z0 ?_ | refine z1 ?_ | refine z2 ?_ | refine z3 ?_ | refine z4 ?_ | refine z5 ?_ | refine z6 ?_ | refine z7 (fun hg => ?_) (fun hg => ?_) | refine z8 (fun hg => ?_) (fun hg => ?_) | refine z9 ?_ | refine za ?_ | refine zb ?_ | refine zc ?_ | refine zd ?_ | refine ze ?_ | refine zf ?_ | refine zg ?_ | refine zh ?_ | refine zi (fun _ => ?_) | refine zj (fun _ => ?_) | refine zk ?_ | refine zl ?_ ?_ | refine zm ?_ | refine zn ?_ | refine zo ?_ | exact (rfl : _ = _)))
  refine r_rangeMap (hk' σ) hm (fun it rs hp hI => ?_)
  refine r_loop0 (fun k σ' => ∃ σ1 dn rs seen, σ' = pt it (.mapIter (some m) clk seen clk) :: (G ++ σ1) ∧ IterAt kStr es dn rs seen ∧ k = rs.length ∧ (dn ++ rs).Perm kvs ∧ I (dn.map fun p => kStr.enc p.1) σ1)
    rs.length ⟨σ, [], rs, #[], rfl, hI, rfl, hp, hI0⟩ ?_
  rintro k σ' ⟨σ1, dn, rs, seen, rfl, hI, rfl, hp, hI1⟩
  refine r_next (hk' σ1) hm hI (fun hrs => ?_) (fun a v r1 r2 seen' hrs hI2 hlast => ?_)
  · (repeat' (first | refine z0 ?_ | refine z1 ?_ | refine z2 ?_ | refine z3 ?_ | refine z4 ?_ | refine z5 ?_ | refine z6 ?_ | refine z7 (fun hg => ?_) (fun hg => ?_) | refine z8 (fun hg => ?_) (fun hg => ?_) | refine z9 ?_ | refine za ?_ | refine zb ?_ | refine zc ?_ | refine zd ?_ | refine ze ?_ | refine zf ?_ | refine zg ?_ | refine zh ?_ | refine zi (fun _ => ?_) | refine zj (fun _ => ?_) | refine zk ?_ | refine zl ?_ ?_ | refine zm ?_ | refine zn ?_ | refine zo ?_ | exact (rfl : _ = _)))
    refine ⟨G ++ σ1, by exact drp, σ1, rfl, .inl ⟨_, ?_, hI1⟩⟩
    subst hrs
    simpa using hp.map fun p => kStr.enc p.1
  · subst hrs
    (repeat' (first | refine z0 ?_ | refine z1 ?_ | refine z2 ?_ | refine z3 ?_ | refine z4 ?_ | refine z5 ?_ | refine z6 ?_ | refine z7 (fun hg => ?_) (fun hg => ?_) | refine z8 (fun hg => ?_) (fun hg => ?_) | refine z9 ?_ | refine za ?_ | refine zb ?_ | refine zc ?_ | refine zd ?_ | refine ze ?_ | refine zf ?_ | refine zg ?_ | refine zh ?_ | refine zi (fun _ => ?_) | refine zj (fun _ => ?_) | refine zk ?_ | refine zl ?_ ?_ | refine zm ?_ | refine zn ?_ | refine zo ?_ | exact (rfl : _ = _)))
    refine r_entry (hk' σ1) hlast ?_
    (repeat' (first | refine z0 ?_ | refine z1 ?_ | refine z2 ?_ | refine z3 ?_ | refine z4 ?_ | refine z5 ?_ | refine z6 ?_ | refine z7 (fun hg => ?_) (fun hg => ?_) | refine z8 (fun hg => ?_) (fun hg => ?_) | refine z9 ?_ | refine za ?_ | refine zb ?_ | refine zc ?_ | refine zd ?_ | refine ze ?_ | refine zf ?_ | refine zg ?_ | refine zh ?_ | refine zi (fun _ => ?_) | refine zj (fun _ => ?_) | refine zk ?_ | refine zl ?_ ?_ | refine zm ?_ | refine zn ?_ | refine zo ?_ | exact (rfl : _ = _)))
    refine scallv_frame (r := pt it (.mapIter (some m) clk seen' clk) :: G) (m := σ1) (by simp) ?_
    refine scallv_mono (hy (dn.map fun p => kStr.enc p.1) #[kStr.enc a] σ1 ⟨kStr.enc a, (r1 ++ r2).map (fun p => kStr.enc p.1), rfl, ?_⟩ hI1) ?_
    · have : (dn ++ (a, v) :: (r1 ++ r2)).Perm kvs := (List.Perm.append_left dn List.perm_middle.symm).trans hp
      simpa using this.map fun p => kStr.enc p.1
    · rintro w σ2 (⟨rfl, hI3⟩ | ⟨rfl, hJ⟩)
      · (repeat' (first | refine z0 ?_ | refine z1 ?_ | refine z2 ?_ | refine z3 ?_ | refine z4 ?_ | refine z5 ?_ | refine z6 ?_ | refine z7 (fun hg => ?_) (fun hg => ?_) | refine z8 (fun hg => ?_) (fun hg => ?_) | refine z9 ?_ | refine za ?_ | refine zb ?_ | refine zc ?_ | refine zd ?_ | refine ze ?_ | refine zf ?_ | refine zg ?_ | refine zh ?_ | refine zi (fun _ => ?_) | refine zj (fun _ => ?_) | refine zk ?_ | refine zl ?_ ?_ | refine zm ?_ | refine zn ?_ | refine zo ?_ | exact (rfl : _ = _)))
        refine ⟨(r1 ++ r2).length, by simp, σ2, dn ++ [(a, v)], r1 ++ r2, seen', by simp, hI2, rfl, ?_, by simpa using hI3⟩
        refine List.Perm.trans ?_ hp
        simp only [List.append_assoc, List.cons_append, List.nil_append]
        exact List.Perm.append_left dn List.perm_middle.symm
      · (repeat' (first | refine z0 ?_ | refine z1 ?_ | refine z2 ?_ | refine z3 ?_ | refine z4 ?_ | refine z5 ?_ | refine z6 ?_ | refine z7 (fun hg => ?_) (fun hg => ?_) | refine z8 (fun hg => ?_) (fun hg => ?_) | refine z9 ?_ | refine za ?_ | refine zb ?_ | refine zc ?_ | refine zd ?_ | refine ze ?_ | refine zf ?_ | refine zg ?_ | refine zh ?_ | refine zi (fun _ => ?_) | refine zj (fun _ => ?_) | refine zk ?_ | refine zl ?_ ?_ | refine zm ?_ | refine zn ?_ | refine zo ?_ | exact (rfl : _ = _)))
        exact ⟨G ++ σ2, by exact drp, σ2, rfl, .inr hJ⟩
theorem keys_iter_laid {m clk cb : Nat} {es : Array MapEntry} {kvs : List (Int × Value)} {G : St} {ty : TypeId} (hc : Knows G cb (.cells #[.map (some m)] ty)) (hk : Knows G m (.map es clk)) (hm : MapOf kInt es clk kvs) :
    IterV Tryz.prog (.func (.func 171) #[] #[ptr cb 0]) G (fun d => d.Perm (kvs.map fun p => kInt.enc p.1)) := by
  intro y I J hyf hy σ hI0
  refine r_callv (by kernel_rfl) ?_
  show scall Tryz.prog 171 #[y, ptr cb 0] _ _
  refine scall_post (S171_ok ?_)
  have hc' := knows_left hc σ
  have hk' : ∀ σ, Knows (G ++ σ) m (.map es clk) := fun σ => knows_left hk σ
  unfold S171
  (repeat' (first | refine z0 ?_ | refine z1 ?_ | refine z2 ?_ | refine z3 ?_ | refine z4 ?_ | refine z5 ?_ | refine z6 ?_ | refine z7 (fun hg => ?_) (fun hg => ?_) | refine z8 (fun hg => ?_) (fun hg => ?_) | refine z9 ?_ | refine za ?_ | refine zb ?_ | refine zc ?_ | refine zd ?_ | refine ze ?_ | refine zf ?_ | refine zg ?_ | refine zh ?_ | refine zi (fun _ => ?_) | refine zj (fun _ => ?_) | refine zk ?_ | refine zl ?_ ?_ | refine zm ?_ | refine zn ?_ | refine zo ?_ | exact (rfl : _ = _)))
  refine r_rangeMap (hk' σ) hm (fun it rs hp hI => ?_)
  refine r_loop0 (fun k σ' => ∃ σ1 dn rs seen, σ' = pt it (.mapIter (some m) clk seen clk) :: (G ++ σ1) ∧ IterAt kInt es dn rs seen ∧ k = rs.length ∧ (dn ++ rs).Perm kvs ∧ I (dn.map fun p => kInt.enc p.1) σ1)
    rs.length ⟨σ, [], rs, #[], rfl, hI, rfl, hp, hI0⟩ ?_
  rintro k σ' ⟨σ1, dn, rs, seen, rfl, hI, rfl, hp, hI1⟩
  refine r_next (hk' σ1) hm hI (fun hrs => ?_) (fun a v r1 r2 seen' hrs hI2 hlast => ?_)
  · (repeat' (first | refine z0 ?_ | refine z1 ?_ | refine z2 ?_ | refine z3 ?_ | refine z4 ?_ | refine z5 ?_ | refine z6 ?_ | refine z7 (fun hg => ?_) (fun hg => ?_) | refine z8 (fun hg => ?_) (fun hg => ?_) | refine z9 ?_ | refine za ?_ | refine zb ?_ | refine zc ?_ | refine zd ?_ | refine ze ?_ | refine zf ?_ | refine zg ?_ | refine zh ?_ | refine zi (fun _ => ?_) | refine zj (fun _ => ?_) | refine zk ?_ | refine zl ?_ ?_ | refine zm ?_ | refine zn ?_ | refine zo ?_ | exact (rfl : _ = _)))
    refine ⟨G ++ σ1, by exact drp, σ1, rfl, .inl ⟨_, ?_, hI1⟩⟩
    subst hrs
    simpa using hp.map fun p => kInt.enc p.1
  · subst hrs
    (repeat' (first | refine z0 ?_ | refine z1 ?_ | refine z2 ?_ | refine z3 ?_ | refine z4 ?_ | refine z5 ?_ | refine z6 ?_ | refine z7 (fun hg => ?_) (fun hg => ?_) | refine z8 (fun hg => ?_) (fun hg => ?_) | refine z9 ?_ | refine za ?_ | refine zb ?_ | refine zc ?_ | refine zd ?_ | refine ze ?_ | refine zf ?_ | refine zg ?_ | refine zh ?_ | refine zi (fun _ => ?_) | refine zj (fun _ => ?_) | refine zk ?_ | refine zl ?_ ?_ | refine zm ?_ | refine zn ?_ | refine zo ?_ | exact (rfl : _ = _)))
    refine r_entry (hk' σ1) hlast ?_
    (repeat' (first | refine z0 ?_ | refine z1 ?_ | refine z2 ?_ | refine z3 ?_ | refine z4 ?_ | refine z5 ?_ | refine z6 ?_ | refine z7 (fun hg => ?_) (fun hg => ?_) | refine z8 (fun hg => ?_) (fun hg => ?_) | refine z9 ?_ | refine za ?_ | refine zb ?_ | refine zc ?_ | refine zd ?_ | refine ze ?_ | refine zf ?_ | refine zg ?_ | refine zh ?_ | refine zi (fun _ => ?_) | refine zj (fun _ => ?_) | refine zk ?_ | refine zl ?_ ?_ | refine zm ?_ | refine zn ?_ | refine zo ?_ | exact (rfl : _ = _)))
    refine scallv_frame (r := pt it (.mapIter (some m) clk seen' clk) :: G) (m := σ1) (by simp) ?_
    refine scallv_mono (hy (dn.map fun p => kInt.enc p.1) #[kInt.enc a] σ1 ⟨kInt.enc a, (r1 ++ r2).map (fun p => kInt.enc p.1), rfl, ?_⟩ hI1) ?_
    · have : (dn ++ (a, v) :: (r1 ++ r2)).Perm kvs := (List.Perm.append_left dn List.perm_middle.symm).trans hp
      simpa using this.map fun p => kInt.enc p.1
    · rintro w σ2 (⟨rfl, hI3⟩ | ⟨rfl, hJ⟩)
      · (repeat' (first | refine z0 ?_ | refine z1 ?_ | refine z2 ?_ | refine z3 ?_ | refine z4 ?_ | refine z5 ?_ | refine z6 ?_ | refine z7 (fun hg => ?_) (fun hg => ?_) | refine z8 (fun hg => ?_) (fun hg => ?_) | refine z9 ?_ | refine za ?_ | refine zb ?_ | refine zc ?_ | refine zd ?_ | refine ze ?_ | refine zf ?_ | refine zg ?_ | refine zh ?_ | refine zi (fun _ => ?_) | refine zj (fun _ => ?_) | refine zk ?_ | refine zl ?_ ?_ | refine zm ?_ | refine zn ?_ | refine zo ?_ | exact (rfl : _ = _)))
        refine ⟨(r1 ++ r2).length, by simp, σ2, dn ++ [(a, v)], r1 ++ r2, seen', by simp, hI2, rfl, ?_, by simpa using hI3⟩
        refine List.Perm.trans ?_ hp
        simp only [List.append_assoc, List.cons_append, List.nil_append]
        exact List.Perm.append_left dn List.perm_middle.symm
      · (repeat' (first | refine z0 ?_ | refine z1 ?_ | refine z2 ?_ | refine z3 ?_ | refine z4 ?_ | refine z5 ?_ | refine z6 ?_ | refine z7 (fun hg => ?_) (fun hg => ?_) | refine z8 (fun hg => ?_) (fun hg => ?_) | refine z9 ?_ | refine za ?_ | refine zb ?_ | refine zc ?_ | refine zd ?_ | refine ze ?_ | refine zf ?_ | refine zg ?_ | refine zh ?_ | refine zi (fun _ => ?_) | refine zj (fun _ => ?_) | refine zk ?_ | refine zl ?_ ?_ | refine zm ?_ | refine zn ?_ | refine zo ?_ | exact (rfl : _ = _)))
        exact ⟨G ++ σ2, by exact drp, σ2, rfl, .inr hJ⟩
end Go.Sl
namespace Go.Sl
variable [Ghost]
open Go Go.Proofs
def S264 (a b c : Value) (R : Value → SP) : SP := snew (Value.cells a) 9 fun d => snew (Value.cells b) 9 fun e => snew (Value.cells c) 3 fun f => R (.func (.func 279) #[] #[e, d, f])
theorem S264_ok {v0 v1 v2 : Value} {R : Value → SP} {l : St} (h : S264 v0 v1 v2 R l) : scall Tryz.prog 264 #[v0, v1, v2] R l := sok [v0, v1, v2] (.seq .leaf (.seq .leaf .leaf)) Tryz.func264 (by kernel_rfl) (by kernel_rfl) h
def S266 (a b : Value) (R : Value → SP) : SP := sbin Tryz.prog .none 3 .lss b (.int .i64 0) fun e => sguard e ( (fun _ => False)) ( sjoin1 (fun f => R f) fun c => sbuiltin Tryz.prog .cap #[59] 3 #[false] #[a] fun g => slen .slice a fun h => sbin Tryz.prog .none 3 .sub g h fun i => sbin Tryz.prog .none 3 .sub b i fun d => sbin Tryz.prog .none 3 .gtr d (.int .i64 0) fun j => sguard j ( sbuiltin Tryz.prog .cap #[59] 3 #[false] #[a] fun k => sslice (some 1) a none (some k) none fun l => sbuiltin Tryz.prog .append #[59, 3] 59 #[false, false] #[l, d] fun m => slen .slice a fun n => sslice (some 1) m none (some n) none fun o => c [o]) ( c [a]))
theorem S266_ok {v0 v1 : Value} {R : Value → SP} {l : St} (h : S266 v0 v1 R l) : scall Tryz.prog 266 #[v0, v1] R l := sok [v0, v1] (.seq .leaf (.seq (.seq .leaf (.cond .leaf .leaf)) (.join [0, 1, 8, 9, 10, 11, 12, 13, 14, 15, 16, 17, 18, 19, 20, 21, 22, 23, 24, 25] [0] (.seq .leaf (.seq .leaf (.cond .leaf .leaf))) (.seq .leaf .leaf)))) Tryz.func266 (by kernel_rfl) (by kernel_rfl) h
def S279 (b c a g : Value) (R : Value → SP) : SP := sload none c fun h => slen .str h fun i => sbin Tryz.prog .none 3 .eql i (.int .i64 0) fun j => sguard j ( sloop0  fun k  => sload none a fun l => slen .str l fun m => sbin Tryz.prog .none 3 .gtr m (.int .i64 0) fun n => sguard n ( sload none a fun o => scall Tryz.prog 280 #[o] fun e => sext e 0 fun _ => sext e 1 fun f => sload none a fun p => sslice none p none (some f) none fun q => scallv Tryz.prog b #[q] fun r => sun .not r fun t => sguard t ( R (.tuple #[])) ( sload none a fun u => sslice none u (some f) none none fun w => sstore 1 a w <| k [])) ( R (.tuple #[]))) ( sloop0  fun x  => sload none a fun y => sload none c fun z => scall Tryz.prog 281 #[y, z] fun d => sbin Tryz.prog .none 3 .lss d (.int .i64 0) fun A => sguard A ( sload none a fun B => scallv Tryz.prog b #[B] fun _ => R (.tuple #[])) ( sload none a fun C => sload none g fun D => sbin Tryz.prog .none 3 .add d D fun E => sslice none C none (some E) none fun F => scallv Tryz.prog b #[F] fun G => sun .not G fun H => sguard H ( R (.tuple #[])) ( sload none a fun K => sload none c fun L => slen .str L fun M => sbin Tryz.prog .none 3 .add d M fun N => sslice none K (some N) none none fun O => sstore 1 a O <| x [])))
theorem S279_ok {v0 v1 v2 v3 : Value} {R : Value → SP} {l : St} (h : S279 v0 v1 v2 v3 R l) : scall Tryz.prog 279 #[v0, v1, v2, v3] R l := sok [v0, v1, v2, v3] (.seq (.seq .leaf (.cond (.seq (.one (.loop [5, 6, 12, 13, 14, 15, 16, 17, 18, 19, 20, 21, 22, 23, 24, 25, 26, 27, 28] [] (.seq (.seq .leaf (.cond .leaf .leaf)) (.one (.seq .leaf (.seq (.seq .leaf (.cond .leaf .leaf)) .leaf)))))) .leaf) .leaf)) (.seq (.one (.loop [7, 8, 29, 30, 31, 32, 33, 34, 35, 36, 37, 38, 39, 40, 41, 42, 43, 44, 45, 46, 47, 48] [] (.one (.seq .leaf (.seq (.seq .leaf (.cond .leaf .leaf)) (.seq .leaf (.seq (.seq .leaf (.cond .leaf .leaf)) .leaf))))))) .leaf)) Tryz.func279 (by kernel_rfl) (by kernel_rfl) h
def S281 (a b : Value) (R : Value → SP) : SP := scall Tryz.prog 291 #[a, b] fun c => R c
theorem S281_ok {v0 v1 : Value} {R : Value → SP} {l : St} (h : S281 v0 v1 R l) : scall Tryz.prog 281 #[v0, v1] R l := sok [v0, v1] (.seq .leaf (.seq .leaf .leaf)) Tryz.func281 (by kernel_rfl) (by kernel_rfl) h
def S291 (a b : Value) (R : Value → SP) : SP := slen .str b fun c => sjoin1 (fun t => sguard t ( R (.int .i64 0)) ( sbin Tryz.prog .none 3 .eql c (.int .i64 1) fun u => sguard u ( sindex b (.int .i64 0) fun w => scall Tryz.prog 173 #[a, w] fun x => R x) ( slen .str a fun y => sbin Tryz.prog .none 3 .geq c y fun z => sguard z ( R (.int .i64 (-1))) ( sjoin1 (fun A => sguard A ( sextern Tryz.prog 294 #[a, b] fun B => R B) ( sindex b (.int .i64 0) fun j => sindex b (.int .i64 1) fun C => slen .str a fun D => sbin Tryz.prog .none 3 .sub D c fun E => sbin Tryz.prog .none 3 .add E (.int .i64 1) fun g => sloop2 (.int .i64 0) (.int .i64 0) fun F e G => sbin Tryz.prog .none 3 .lss e g fun H => sguard H ( sjoin1 (fun f => sjoin1 (fun K => sguard K ( R f) ( sbin Tryz.prog .none 3 .add f (.int .i64 1) fun d => sbin Tryz.prog .none 3 .add G (.int .i64 1) fun h => sjoin1 (fun L => sguard L ( sslice none a (some d) none none fun M => sextern Tryz.prog 294 #[M, b] fun k => sbin Tryz.prog .none 3 .geq k (.int .i64 0) fun N => sguard N ( sbin Tryz.prog .none 3 .add k d fun O => R O) ( R (.int .i64 (-1)))) ( sjoin1 (fun Q => sguard Q ( sslice none a (some d) none none fun T => scall Tryz.prog 296 #[T, b] fun l => sbin Tryz.prog .none 3 .lss l (.int .i64 0) fun U => sguard U ( R (.int .i64 (-1))) ( sbin Tryz.prog .none 3 .add d l fun V => R V)) ( F [d, h])) fun i => sload none (.pointer (some ⟨0, 0, none⟩)) fun W => sbin Tryz.prog .none 3 .gtr c W fun X => sguard X ( sbin Tryz.prog .none 3 .shr d (.int .u64 4) fun Y => sbin Tryz.prog .none 3 .add (.int .i64 4) Y fun Z => sbin Tryz.prog .none 3 .geq h Z fun a0 => sguard a0 ( sbin Tryz.prog .none 3 .lss d g fun a1 => i [a1]) ( i [.bool false])) ( i [.bool false]))) fun m => sload none (.pointer (some ⟨0, 0, none⟩)) fun a2 => sbin Tryz.prog .none 3 .leq c a2 fun a3 => sguard a3 ( scall Tryz.prog 295 #[d] fun a4 => sbin Tryz.prog .none 3 .gtr h a4 fun a5 => m [a5]) ( m [.bool false]))) fun n => sbin Tryz.prog .none 3 .add f (.int .i64 1) fun a6 => sindex a a6 fun a7 => sbin Tryz.prog .none 5 .eql a7 C fun a8 => sguard a8 ( sbin Tryz.prog .none 3 .add f c fun a9 => sslice none a (some f) (some a9) none fun a10 => sbin Tryz.prog .none 9 .eql a10 b fun a11 => n [a11]) ( n [.bool false])) fun o => sindex a e fun a12 => sbin Tryz.prog .none 5 .neq a12 j fun a13 => sguard a13 ( sbin Tryz.prog .none 3 .add e (.int .i64 1) fun a14 => sslice none a (some a14) (some g) none fun a15 => scall Tryz.prog 173 #[a15, j] fun p => sbin Tryz.prog .none 3 .lss p (.int .i64 0) fun a16 => sguard a16 ( R (.int .i64 (-1))) ( sbin Tryz.prog .none 3 .add p (.int .i64 1) fun a17 => sbin Tryz.prog .none 3 .add e a17 fun a18 => o [a18])) ( o [e])) ( R (.int .i64 (-1))))) fun q => sload none (.pointer (some ⟨0, 0, none⟩)) fun a19 => sbin Tryz.prog .none 3 .leq c a19 fun a20 => sguard a20 ( slen .str a fun a21 => sbin Tryz.prog .none 3 .leq a21 (.int .i64 64) fun a22 => q [a22]) ( q [.bool false]))))) fun r => sbin Tryz.prog .none 3 .eql c (.int .i64 0) fun a23 => sguard a23 ( r [.bool true]) ( sbin Tryz.prog .none 9 .eql b a fun a24 => r [a24])
theorem S291_ok {v0 v1 : Value} {R : Value → SP} {l : St} (h : S291 v0 v1 R l) : scall Tryz.prog 291 #[v0, v1] R l := sok [v0, v1] (.seq .leaf (.seq .leaf (.seq (.one (.join [16, 17, 18, 19, 20, 21, 22, 23] [16] .leaf (.cond (.seq .leaf .leaf) (.seq .leaf (.cond (.seq .leaf .leaf) (.seq .leaf (.cond (.seq .leaf .leaf) (.join [36, 37, 38, 39, 40, 41, 42, 43, 44] [36] .leaf (.cond (.seq .leaf .leaf) .leaf))))))))) (.seq .leaf (.seq .leaf (.seq .leaf (.seq .leaf (.seq .leaf (.seq (.one (.loop [4, 8, 10, 11, 12, 13, 57, 58, 59, 60, 61, 62, 63, 64, 65, 66, 67, 68, 69, 70, 71, 72, 73, 74, 75, 76, 77, 78, 79, 80, 81, 82, 83, 84, 85, 86, 87, 88, 89, 90, 91, 92, 93, 94, 95, 96, 97, 98, 99, 100, 101, 102, 103, 104, 105, 106, 107, 108, 109, 110, 111, 112, 113, 114, 115, 116, 117, 118, 119, 120, 121, 122, 123, 124, 125, 126, 127, 128, 129, 130, 131, 132, 133, 134, 135, 136, 137, 138, 139, 140, 141, 142] [8, 10] (.seq (.seq .leaf (.cond .leaf .leaf)) (.one (.join [4, 8, 11, 60, 61, 62, 63, 64, 65, 66, 67, 68, 69, 70, 71, 72, 73, 74, 75, 76, 77] [8] (.seq .leaf (.cond (.seq .leaf (.seq (.seq .leaf (.cond (.seq .leaf .leaf) .leaf)) .leaf)) .leaf)) (.seq (.join [78, 79, 80, 81, 82, 83, 84, 85, 86, 87, 88, 89, 90, 91, 92, 93] [93] .leaf (.cond (.seq .leaf .leaf) .leaf)) (.seq .leaf (.seq .leaf (.join [99, 100, 101, 102, 103, 104, 105, 106, 107] [107] .leaf (.cond (.seq .leaf (.seq (.seq .leaf (.cond (.seq .leaf .leaf) .leaf)) (.seq .leaf .leaf))) (.join [118, 119, 120, 121, 122, 123, 124, 125, 126, 127, 128, 129, 130, 131, 132] [132] .leaf (.cond (.seq .leaf (.seq (.seq .leaf (.cond (.seq .leaf .leaf) .leaf)) (.seq .leaf .leaf))) .leaf)))))))))))) (.seq .leaf .leaf)))))))))) Tryz.func291 (by kernel_rfl) (by kernel_rfl) h
end Go.Sl
namespace Go.Sl
variable [Ghost]
open Go Go.Mo Go.Proofs
attribute [local irreducible] snil sfa sext sfield sguard sun sbin slen sload sstore snew snewObj sbuildR sbuildSlR smakeMapR smakeSlR slookup smapset srangeMap snext sentry scall scallv sextern sbuiltin sidx sindex sslice sconv srangeX sarg sand sjoin0 sjoin1 sjoin2 sloop0 sloop1 sloop2
theorem appendSeq_str {G : St} {gv : Value} {A : List Value → Prop} {R : Value → SP} (hg : ∃ f first cap, gv = .func (.func f) first cap ∧ goFn Tryz.prog f = true) (hI : IterV Tryz.prog gv G A) (hB : ∀ d, A d → d.length ≤ 2 ^ 32 ∧ ∀ u ∈ d, cellsL u = [u] ∧ u.oneCell' = true)
    (h : ∀ v c d, A d → SlC 1 v d.length d c → R v (c :: G)) : scall Tryz.prog 181 #[.slice none 0 0, gv] R G := by
  refine scall_post (S181_ok ?_)
  unfold S181
  refine r_new fun b => ?_
  unfold srangeX
  refine ⟨List Value, fun d σ => ∃ v c g, SlC 1 v d.length d c ∧ σ = pt b (.cells #[v] 59) :: c :: g, fun _ _ => False, _, _, [], A, G, _, [pt b (.cells #[.slice none 0 0] 59), []], hg, ?_, hI, ⟨_, [], [], slC_nil 1, rfl⟩, ?_, ?_, fun _ h => h.elim, fun _ _ _ h => h.elim⟩
  · unfold Split
    simp only [List.flatten_cons, List.flatten_nil, List.append_nil]
    exact List.perm_append_comm
  · rintro d xs σ ⟨u, rest, rfl, hA⟩ ⟨v, c, g, hs, rfl⟩
    obtain ⟨hb1, hb2⟩ := hB _ hA
    obtain ⟨hu1, hu2⟩ := hb2 u (by simp)
    have hlen : d.length + 1 ≤ 2 ^ 32 := by simp at hb1; omega
    refine ⟨rfl, ?_⟩
    refine sarg_one ?_
    (repeat' (first | refine z0 ?_ | refine z1 ?_ | refine z2 ?_ | refine z3 ?_ | refine z4 ?_ | refine z5 ?_ | refine z6 ?_ | refine z7 (fun hg => ?_) (fun hg => ?_) | refine z8 (fun hg => ?_) (fun hg => ?_) | refine z9 ?_ | refine za ?_ | refine zb ?_ | refine zc ?_ | refine zd ?_ | refine ze ?_ | refine zf ?_ | refine zg ?_ | refine zh ?_ | refine zi (fun _ => ?_) | refine zj (fun _ => ?_) | refine zk ?_ | refine zl ?_ ?_ | refine zm ?_ | refine zn ?_ | refine zo ?_ | exact (rfl : _ = _)))
    refine r_buildSl (ds := [u]) rfl (by omega) (by unfold fillS; rw [hu1]; rfl) (fun e => ?_)
    refine r_append (e := 9) (i := Tryz.t9) (z := .string ⟨#[]⟩) (m := 1) (news := [u]) (by kernel_rfl) (by kernel_rfl) (by kernel_rfl) (by kernel_rfl) rfl hs (take_there _ (take_there _ (take_here _ _)))
      (srcAt_row (e' := 9) (by kernel_rfl) (knows_pt _ _ _) rfl rfl (by simpa using hu2)) ?_ (by omega) (fun v' c' hs' => ?_)
    · have : Tryz.t9.bytes = 16 := by kernel_rfl
      rw [this]; omega
    · obtain ⟨hv1, hv2⟩ := slC_one hs'
      refine r_store (knows_there _ (knows_there _ (knows_pt _ _ _))) (ds := [v']) (l' := pt b (.cells #[v'] 59) :: c' :: pt e (.cells #[u] 9) :: g) (by rw [hv1]; rfl) (by rw [hv1]; rfl) (by rw [hv1]; simp [hv2]) rfl ?_ ⟨v', c', _, by simpa [Value.cells] using hs', rfl⟩
      refine change_perm (d := c' ++ (e, .cells #[u] 9) :: g.flatten) (o := .cells #[v] 59) ?_ (by simp [pt])
      simp only [List.flatten_cons, pt]
      have : ((c' ++ [(e, Obj.cells #[u] 9)]) ++ (b, Obj.cells #[v] 59) :: g.flatten).Perm ((b, Obj.cells #[v] 59) :: ((c' ++ [(e, Obj.cells #[u] 9)]) ++ g.flatten)) := List.perm_middle
      simpa using this
  · rintro d σ hA ⟨v, c, g, hs, rfl⟩
    refine r_load1 (x := v) (ty := 59) (cs := #[v]) (fz := (0, 0)) (by unfold Knows; simp [pt]) rfl ?_
    refine ⟨c :: G, ?_, h v c d hA hs⟩
    refine Ent.trans (l' := (c :: G) ++ (pt b (.cells #[v] 59) :: g)) (Ent.of_perm ?_) (ent_tail _ _)
    simp only [List.flatten_append, List.flatten_cons, pt]
    have h1 : (G.flatten ++ ([(b, Obj.cells #[v] 59)] ++ (c ++ g.flatten))).Perm (G.flatten ++ (c ++ ([(b, Obj.cells #[v] 59)] ++ g.flatten))) := List.Perm.append_left _ (List.perm_append_comm_assoc _ _ _)
    refine h1.trans ?_
    rw [List.append_assoc]
    exact List.perm_append_comm_assoc _ _ _
theorem appendSeq_int {G : St} {gv : Value} {A : List Value → Prop} {R : Value → SP} (hg : ∃ f first cap, gv = .func (.func f) first cap ∧ goFn Tryz.prog f = true) (hI : IterV Tryz.prog gv G A) (hB : ∀ d, A d → d.length ≤ 2 ^ 32 ∧ ∀ u ∈ d, cellsL u = [u] ∧ u.oneCell' = true)
    (h : ∀ v c d, A d → SlC 1 v d.length d c → R v (c :: G)) : scall Tryz.prog 219 #[.slice none 0 0, gv] R G := by
  refine scall_post (S219_ok ?_)
  unfold S219
  refine r_new fun b => ?_
  unfold srangeX
  refine ⟨List Value, fun d σ => ∃ v c g, SlC 1 v d.length d c ∧ σ = pt b (.cells #[v] 23) :: c :: g, fun _ _ => False, _, _, [], A, G, _, [pt b (.cells #[.slice none 0 0] 23), []], hg, ?_, hI, ⟨_, [], [], slC_nil 1, rfl⟩, ?_, ?_, fun _ h => h.elim, fun _ _ _ h => h.elim⟩
  · unfold Split
    simp only [List.flatten_cons, List.flatten_nil, List.append_nil]
    exact List.perm_append_comm
  · rintro d xs σ ⟨u, rest, rfl, hA⟩ ⟨v, c, g, hs, rfl⟩
    obtain ⟨hb1, hb2⟩ := hB _ hA
    obtain ⟨hu1, hu2⟩ := hb2 u (by simp)
    have hlen : d.length + 1 ≤ 2 ^ 32 := by simp at hb1; omega
    refine ⟨rfl, ?_⟩
    refine sarg_one ?_
    (repeat' (first | refine z0 ?_ | refine z1 ?_ | refine z2 ?_ | refine z3 ?_ | refine z4 ?_ | refine z5 ?_ | refine z6 ?_ | refine z7 (fun hg => ?_) (fun hg => ?_) | refine z8 (fun hg => ?_) (fun hg => ?_) | refine z9 ?_ | refine za ?_ | refine zb ?_ | refine zc ?_ | refine zd ?_ | refine ze ?_ | refine zf ?_ | refine zg ?_ | refine zh ?_ | refine zi (fun _ => ?_) | refine zj (fun _ => ?_) | refine zk ?_ | refine zl ?_ ?_ | refine zm ?_ | refine zn ?_ | refine zo ?_ | exact (rfl : _ = _)))
    refine r_buildSl (ds := [u]) rfl (by omega) (by unfold fillS; rw [hu1]; rfl) (fun e => ?_)
    refine r_append (e := 3) (i := Tryz.t3) (z := .int .i64 0) (m := 1) (news := [u]) (by kernel_rfl) (by kernel_rfl) (by kernel_rfl) (by kernel_rfl) rfl hs (take_there _ (take_there _ (take_here _ _)))
      (srcAt_row (e' := 3) (by kernel_rfl) (knows_pt _ _ _) rfl rfl (by simpa using hu2)) ?_ (by omega) (fun v' c' hs' => ?_)
    · have : Tryz.t3.bytes = 8 := by kernel_rfl
      rw [this]; omega
    · obtain ⟨hv1, hv2⟩ := slC_one hs'
      refine r_store (knows_there _ (knows_there _ (knows_pt _ _ _))) (ds := [v']) (l' := pt b (.cells #[v'] 23) :: c' :: pt e (.cells #[u] 3) :: g) (by rw [hv1]; rfl) (by rw [hv1]; rfl) (by rw [hv1]; simp [hv2]) rfl ?_ ⟨v', c', _, by simpa [Value.cells] using hs', rfl⟩
      refine change_perm (d := c' ++ (e, .cells #[u] 3) :: g.flatten) (o := .cells #[v] 23) ?_ (by simp [pt])
      simp only [List.flatten_cons, pt]
      have : ((c' ++ [(e, Obj.cells #[u] 3)]) ++ (b, Obj.cells #[v] 23) :: g.flatten).Perm ((b, Obj.cells #[v] 23) :: ((c' ++ [(e, Obj.cells #[u] 3)]) ++ g.flatten)) := List.perm_middle
      simpa using this
  · rintro d σ hA ⟨v, c, g, hs, rfl⟩
    refine r_load1 (x := v) (ty := 23) (cs := #[v]) (fz := (0, 0)) (by unfold Knows; simp [pt]) rfl ?_
    refine ⟨c :: G, ?_, h v c d hA hs⟩
    refine Ent.trans (l' := (c :: G) ++ (pt b (.cells #[v] 23) :: g)) (Ent.of_perm ?_) (ent_tail _ _)
    simp only [List.flatten_append, List.flatten_cons, pt]
    have h1 : (G.flatten ++ ([(b, Obj.cells #[v] 23)] ++ (c ++ g.flatten))).Perm (G.flatten ++ (c ++ ([(b, Obj.cells #[v] 23)] ++ g.flatten))) := List.Perm.append_left _ (List.perm_append_comm_assoc _ _ _)
    refine h1.trans ?_
    rw [List.append_assoc]
    exact List.perm_append_comm_assoc _ _ _
end Go.Sl
namespace Go.Sl
variable [Ghost]
open Go Go.Mo Go.Proofs
attribute [local irreducible] snil sfa sext sfield sguard sun sbin slen sload sstore snew snewObj sbuildR sbuildSlR smakeMapR smakeSlR slookup smapset srangeMap snext sentry scall scallv sextern sbuiltin sidx sindex sslice sconv srangeX sarg sand sjoin0 sjoin1 sjoin2 sloop0 sloop1 sloop2
open Go.Sort
theorem sort_eq {α : Type} [LE α] [DecidableRel (α := α) (· ≤ ·)] (tr : ∀ a b c : α, a ≤ b → b ≤ c → a ≤ c) (to : ∀ a b : α, a ≤ b ∨ b ≤ a) (an : ∀ a b : α, a ≤ b → b ≤ a → a = b) {xs L : List α} (hp : xs.Perm L) (hL : L.Pairwise (· ≤ ·)) :
    (xs.mergeSort fun x y => decide (x ≤ y)) = L := by
  refine List.Perm.eq_of_pairwise (le := fun a b => a ≤ b) (fun a b _ _ h1 h2 => an a b h1 h2) ?_ hL ((List.mergeSort_perm _ _).trans hp)
  have := List.pairwise_mergeSort (le := fun x y : α => decide (x ≤ y)) (fun a b c h1 h2 => by simp only [decide_eq_true_eq] at *; exact tr a b c h1 h2) (fun a b => by simp only [Bool.or_eq_true, decide_eq_true_eq]; exact to a b) xs
  exact this.imp fun h => by simpa using h
theorem perm_map_inv {α β : Type} {f : α → β} {d : List β} {L : List α} (h : d.Perm (L.map f)) : ∃ xs : List α, d = xs.map f ∧ xs.Perm L := by
  suffices ∀ (a b : List β), a.Perm b → ∀ L : List α, b = L.map f → ∃ xs : List α, a = xs.map f ∧ xs.Perm L from this _ _ h L rfl
  intro a b hp
  induction hp with
  | nil => intro L hL; exact ⟨[], rfl, by have := hL.symm; simp at this; subst this; exact .refl _⟩
  | cons x _ ih =>
    intro L hL
    cases L with
    | nil => simp at hL
    | cons y L =>
      simp only [List.map_cons, List.cons.injEq] at hL
      obtain ⟨xs, h1, h2⟩ := ih L hL.2
      exact ⟨y :: xs, by simp [h1, hL.1], h2.cons _⟩
  | swap x y l =>
    intro L hL
    cases L with
    | nil => simp at hL
    | cons u L => cases L with
      | nil => simp at hL
      | cons v L =>
        simp only [List.map_cons, List.cons.injEq] at hL
        exact ⟨v :: u :: L, by simp [hL.1, hL.2.1, hL.2.2], .swap _ _ _⟩
  | trans _ _ h1 h2 =>
    intro L hL
    obtain ⟨ys, h3, h4⟩ := h2 L hL
    obtain ⟨xs, h5, h6⟩ := h1 ys h3
    exact ⟨xs, h5, h6.trans h4⟩
section
variable {l G r : St} {gv v : Value} {R : Value → SP}
theorem sortS_ok {ss : List (List UInt8)} {c : Chunk} (hs : SlC 1 v ss.length (ss.map vstr') c) (hk : Take l c r) (hb : ss.length ≤ 2 ^ 40) (h : ∀ c', SlC 1 v ss.length ((ss.mergeSort fun x y => decide (x ≤ y)).map vstr') c' → R (.tuple #[]) (c' :: r)) :
    scall Tryz.prog 136 #[v] R l :=
  sort_sl (enc := encStr) (srt := fun ss => ss.mergeSort fun x y => decide (x ≤ y)) (fun blk cap zs w h1 h2 h3 => Tryz.slices_Sort_string blk 0 cap zs w h1 h2 h3) (fun p cap w => Tryz.slices_Sort_string_none p cap w) (fun _ => rfl) (List.length_mergeSort _) hs hk hb h
theorem sortI_ok {ss : List Int} {c : Chunk} (hs : SlC 1 v ss.length (ss.map vi) c) (hk : Take l c r) (hb : ss.length ≤ 2 ^ 40) (h : ∀ c', SlC 1 v ss.length ((ss.mergeSort fun x y => decide (x ≤ y)).map vi) c' → R (.tuple #[]) (c' :: r)) :
    scall Tryz.prog 169 #[v] R l :=
  sort_sl (enc := Value.int .i64) (srt := fun ss => ss.mergeSort fun x y => decide (x ≤ y)) (fun blk cap zs w h1 h2 h3 => Tryz.slices_Sort_int blk 0 cap zs w h1 h2 h3) (fun p cap w => Tryz.slices_Sort_int_none p cap w) (fun _ => rfl) (List.length_mergeSort _) hs hk hb h
theorem sortedS_ok {L : List (List UInt8)} (hg : ∃ f first cap, gv = .func (.func f) first cap ∧ goFn Tryz.prog f = true) (hI : IterV Tryz.prog gv G (fun d => d.Perm (L.map vstr'))) (hL : L.Pairwise (· ≤ ·)) (hb : L.length ≤ 2 ^ 32)
    (h : ∀ v c, SlC 1 v L.length (L.map vstr') c → R v (c :: G)) : scall Tryz.prog 103 #[gv] R G := by
  refine S103_ok ?_
  unfold S103
  refine S135_ok ?_
  unfold S135
  refine appendSeq_str hg hI (fun d hd => ⟨by rw [hd.length_eq]; simpa using hb, fun u hu => ?_⟩) (fun v c d hd hs => ?_)
  · obtain ⟨s, -, rfl⟩ := List.mem_map.1 (hd.mem_iff.1 hu)
    exact ⟨rfl, rfl⟩
  · obtain ⟨xs, rfl, hp⟩ := perm_map_inv hd
    have hlen : xs.length = L.length := hp.length_eq
    refine sortS_ok (ss := xs) (by simpa using hs) (take_here _ _) (by omega) (fun c' hs' => ?_)
    rw [sort_eq (fun _ _ _ => List.le_trans) List.le_total (fun _ _ => List.le_antisymm) hp hL, hlen] at hs'
    exact h v c' hs'
theorem sortedI_ok {L : List Int} (hg : ∃ f first cap, gv = .func (.func f) first cap ∧ goFn Tryz.prog f = true) (hI : IterV Tryz.prog gv G (fun d => d.Perm (L.map vi))) (hL : L.Pairwise (· ≤ ·)) (hb : L.length ≤ 2 ^ 32)
    (h : ∀ v c, SlC 1 v L.length (L.map vi) c → R v (c :: G)) : scall Tryz.prog 111 #[gv] R G := by
  refine S111_ok ?_
  unfold S111
  refine S168_ok ?_
  unfold S168
  refine appendSeq_int hg hI (fun d hd => ⟨by rw [hd.length_eq]; simpa using hb, fun u hu => ?_⟩) (fun v c d hd hs => ?_)
  · obtain ⟨s, -, rfl⟩ := List.mem_map.1 (hd.mem_iff.1 hu)
    exact ⟨rfl, rfl⟩
  · obtain ⟨xs, rfl, hp⟩ := perm_map_inv hd
    have hlen : xs.length = L.length := hp.length_eq
    refine sortI_ok (ss := xs) (by simpa using hs) (take_here _ _) (by omega) (fun c' hs' => ?_)
    rw [sort_eq (fun _ _ _ => Int.le_trans) Int.le_total (fun _ _ => Int.le_antisymm) hp hL, hlen] at hs'
    exact h v c' hs'
theorem keysS_call {m : Nat} (h : ∀ b ty, R (.func (.func 137) #[] #[ptr b 0]) (pt b (.cells #[.map (some m)] ty) :: l)) : scall Tryz.prog 104 #[.map (some m)] R l := by
  refine S104_ok ?_
  unfold S104
  refine r_new fun kb => ?_
  exact h kb _
theorem keysL_call {m : Nat} (h : ∀ b ty, R (.func (.func 171) #[] #[ptr b 0]) (pt b (.cells #[.map (some m)] ty) :: l)) : scall Tryz.prog 113 #[.map (some m)] R l := by
  refine S113_ok ?_
  unfold S113
  refine r_new fun kb => ?_
  exact h kb _
end
end Go.Sl
namespace Go.Sl
variable [Ghost]
open Go Go.Mo Go.Proofs
attribute [local irreducible] snil sfa sext sfield sguard sun sbin slen sload sstore snew snewObj sbuildR sbuildSlR smakeMapR smakeSlR slookup smapset srangeMap snext sentry scall scallv sextern sbuiltin sidx sindex sslice sconv srangeX sarg sand sjoin0 sjoin1 sjoin2 sloop0 sloop1 sloop2
abbrev nms (x : Nd) : List (List UInt8) := x.names.map (·.1)
def Ordered (x : Nd) : Prop := (nms x).Pairwise (· ≤ ·)
section
variable {l G r : St} {t b cb : Nat} {T : Tree} {β : Int → Nat} {n : Int} {x : Nd} {R : Value → SP}
theorem namesK_keys (L : List (Str × Int)) : ((namesK L).map fun p => kStr.enc p.1) = (L.map (·.1)).map vstr' := by
  unfold namesK; rw [List.map_map, List.map_map]; rfl
theorem ordered_iter {ty : TypeId} (hc : Knows G cb (.cells #[ptr b 0] ty)) (hn : NodeAt G b n x) (hk : x.kind = 1) (ho : Ordered x) (hb : x.names.length ≤ 2 ^ 32) :
    IterV Tryz.prog (.func (.func 102) #[] #[ptr cb 0]) G (fun d => d = (nms x).map vstr') := by
  intro y I J hyf hy σ hI0
  refine r_callv (by kernel_rfl) ?_
  show scall Tryz.prog 102 #[y, ptr cb 0] _ _
  refine scall_post (S102_ok ?_)
  obtain ⟨ty2, up, m, es, clk, hk2, hu, hkm, hm⟩ := hn.dirCells hk
  have hc' := knows_left hc σ
  have hk2' := knows_left hk2 σ
  have hkm' := knows_left hkm σ
  unfold S102
  (repeat' (first | refine z0 ?_ | refine z1 ?_ | refine z2 ?_ | refine z3 ?_ | refine z4 ?_ | refine z5 ?_ | refine z6 ?_ | refine z7 (fun hg => ?_) (fun hg => ?_) | refine z8 (fun hg => ?_) (fun hg => ?_) | refine z9 ?_ | refine za ?_ | refine zb ?_ | refine zc ?_ | refine zd ?_ | refine ze ?_ | refine zf ?_ | refine zg ?_ | refine zh ?_ | refine zi (fun _ => ?_) | refine zj (fun _ => ?_) | refine zk ?_ | refine zl ?_ ?_ | refine zm ?_ | refine zn ?_ | refine zo ?_ | exact (rfl : _ = _)))
  refine keysS_call fun kb kty => ?_
  refine scall_frame (m := pt kb (.cells #[.map (some m)] kty) :: G) (r := σ) (by simp [Split]) ?_
  refine sortedS_ok (L := nms x) ⟨_, _, _, rfl, by kernel_rfl⟩ ?_ ho (by simpa using hb) (fun v c hs => ?_)
  · have := keys_iter_str (G := pt kb (.cells #[.map (some m)] kty) :: G) (knows_pt _ _ _) (knows_there _ hkm) hm
    rw [namesK_keys] at this
    exact this
  · have hsa := hs.at (l := c :: pt kb (.cells #[.map (some m)] kty) :: G) (fun b o hbo => knows_in hbo _)
    generalize hG : (c :: pt kb (.cells #[.map (some m)] kty) :: G) = G2 at hsa ⊢
    have hsa' : ∀ σ, SlAt (G2 ++ σ) 1 v (nms x).length ((nms x).map vstr') := fun σ => by
      obtain ⟨h1, h2, h3 | ⟨b, o, cap, cs, ty, fz, h4, h5, h6⟩⟩ := hsa
      · exact ⟨h1, h2, .inl h3⟩
      · exact ⟨h1, h2, .inr ⟨b, o, cap, cs, ty, fz, h4, knows_left h5 σ, h6⟩⟩
    refine r_slen (hsa' σ) ?_
    refine r_loop1 (fun k v σ' => ∃ (i : Nat) (σ1 : St), v = vi i ∧ σ' = G2 ++ σ1 ∧ i ≤ x.names.length ∧ k = x.names.length - i ∧ I ((nms x).map vstr' |>.take i) σ1) x.names.length ⟨0, σ, rfl, rfl, Nat.zero_le _, rfl, by simpa using hI0⟩ ?_
    rintro k w σ' ⟨i, σ1, rfl, rfl, hi, rfl, hI1⟩
    have hcl : ∀ σ2, Ent (G2 ++ σ2) (G ++ σ2) := fun σ2 => by
      rw [← hG]; exact (Ent.drop _ _).trans (.drop _ _)
    (repeat' (first | refine z0 ?_ | refine z1 ?_ | refine z2 ?_ | refine z3 ?_ | refine z4 ?_ | refine z5 ?_ | refine z6 ?_ | refine z7 (fun hg => ?_) (fun hg => ?_) | refine z8 (fun hg => ?_) (fun hg => ?_) | refine z9 ?_ | refine za ?_ | refine zb ?_ | refine zc ?_ | refine zd ?_ | refine ze ?_ | refine zf ?_ | refine zg ?_ | refine zh ?_ | refine zi (fun _ => ?_) | refine zj (fun _ => ?_) | refine zk ?_ | refine zl ?_ ?_ | refine zm ?_ | refine zn ?_ | refine zo ?_ | exact (rfl : _ = _)))
    · have hlt : i < x.names.length := by simpa using hg
      obtain ⟨u, hu⟩ : ∃ u, ((nms x).map vstr')[i]? = some u := ⟨_, List.getElem?_eq_getElem (by simpa using hlt)⟩
      refine r_elem1 (hsa' σ1) hu ?_
      have htk : ((nms x).map vstr').take (i + 1) = ((nms x).map vstr').take i ++ [u] := by rw [List.take_add_one, hu]; rfl
      refine scallv_frame (r := G2) (m := σ1) (.refl _) ?_
      refine scallv_mono (hy _ #[u] σ1 ⟨u, ((nms x).map vstr').drop (i + 1), rfl, ?_⟩ hI1) ?_
      · show _ ++ u :: _ = _
        have : ((nms x).map vstr').take i ++ u :: ((nms x).map vstr').drop (i + 1) = ((nms x).map vstr').take (i + 1) ++ ((nms x).map vstr').drop (i + 1) := by rw [htk]; simp
        rw [this, List.take_append_drop]
      · rintro w σ2 (⟨rfl, hI3⟩ | ⟨rfl, hJ⟩)
        · (repeat' (first | refine z0 ?_ | refine z1 ?_ | refine z2 ?_ | refine z3 ?_ | refine z4 ?_ | refine z5 ?_ | refine z6 ?_ | refine z7 (fun hg => ?_) (fun hg => ?_) | refine z8 (fun hg => ?_) (fun hg => ?_) | refine z9 ?_ | refine za ?_ | refine zb ?_ | refine zc ?_ | refine zd ?_ | refine ze ?_ | refine zf ?_ | refine zg ?_ | refine zh ?_ | refine zi (fun _ => ?_) | refine zj (fun _ => ?_) | refine zk ?_ | refine zl ?_ ?_ | refine zm ?_ | refine zn ?_ | refine zo ?_ | exact (rfl : _ = _)))
          have hw : IntKind.i64.wrap ((i : Int) + 1) = ((i + 1 : Nat) : Int) := by rw [wrap_id (by omega) (by omega)]; simp
          rw [hw]
          refine ⟨x.names.length - (i + 1), by omega, i + 1, σ2, rfl, rfl, by omega, rfl, ?_⟩
          rw [htk]; exact hI3
        · (repeat' (first | refine z0 ?_ | refine z1 ?_ | refine z2 ?_ | refine z3 ?_ | refine z4 ?_ | refine z5 ?_ | refine z6 ?_ | refine z7 (fun hg => ?_) (fun hg => ?_) | refine z8 (fun hg => ?_) (fun hg => ?_) | refine z9 ?_ | refine za ?_ | refine zb ?_ | refine zc ?_ | refine zd ?_ | refine ze ?_ | refine zf ?_ | refine zg ?_ | refine zh ?_ | refine zi (fun _ => ?_) | refine zj (fun _ => ?_) | refine zk ?_ | refine zl ?_ ?_ | refine zm ?_ | refine zn ?_ | refine zo ?_ | exact (rfl : _ = _)))
          exact ⟨G ++ σ2, hcl σ2, σ2, rfl, .inr hJ⟩
    · have hge : i = x.names.length := by
        have : ¬ ((i : Int) < (nms x).length) := hg
        simp at this; omega
      refine ⟨G ++ σ1, hcl σ1, σ1, rfl, .inl ⟨_, ?_, hI1⟩⟩
      rw [List.take_of_length_le (by simp [hge])]
theorem liveFrom_sorted {α : Type} : ∀ (xs : List (Option α)) (i : Nat), ((liveFrom i xs).map Prod.fst).Pairwise (· ≤ ·)
  | [], i => by simp [liveFrom]
  | some y :: r, i => by
    simp only [liveFrom, List.map_cons, List.pairwise_cons]
    refine ⟨fun m hm => ?_, liveFrom_sorted r (i + 1)⟩
    obtain ⟨⟨m', x⟩, hm2, rfl⟩ := List.mem_map.1 hm
    have := liveFrom_ge r (i + 1) m' x hm2
    simp only; omega
  | none :: r, i => liveFrom_sorted r (i + 1)
theorem liveFrom_len {α : Type} : ∀ (xs : List (Option α)) (i : Nat), (liveFrom i xs).length ≤ xs.length
  | [], i => by simp [liveFrom]
  | some y :: r, i => by have := liveFrom_len r (i + 1); simp only [liveFrom, List.length_cons]; omega
  | none :: r, i => by have := liveFrom_len r (i + 1); simp only [liveFrom, List.length_cons]; omega
theorem tnames_ok (hT : TreeAt l t T β) (hS : Small T) (hO : ∀ x, T.at n = some x → Ordered x) (h : ∀ v c, SlC 1 v (T.names n).length ((T.names n).map vstr') c → R v (c :: l)) : scall Tryz.prog 17 #[ptr t 0, vi n] R l := by
  refine scall_post (S17_ok ?_)
  unfold S17
  refine tdir_ok hT (fun x hd hx hk hn => ?_) (fun hd => ?_)
  · have hnm : T.names n = nms x := by simp [Tree.names, hd]
    rw [hnm] at h
    have hlen := hS.names n x hx
    have hl2 : (nms x).length ≤ 2 ^ 30 := by simpa using hlen
    (repeat' (first | refine z0 ?_ | refine z1 ?_ | refine z2 ?_ | refine z3 ?_ | refine z4 ?_ | refine z5 ?_ | refine z6 ?_ | refine z7 (fun hg => ?_) (fun hg => ?_) | refine z8 (fun hg => ?_) (fun hg => ?_) | refine z9 ?_ | refine za ?_ | refine zb ?_ | refine zc ?_ | refine zd ?_ | refine ze ?_ | refine zf ?_ | refine zg ?_ | refine zh ?_ | refine zi (fun _ => ?_) | refine zj (fun _ => ?_) | refine zk ?_ | refine zl ?_ ?_ | refine zm ?_ | refine zn ?_ | refine zo ?_ | exact (rfl : _ = _)))
    rename_i ob
    refine S54_ok ?_
    unfold S54
    refine r_new fun cb => ?_
    unfold srangeX
    refine ⟨List Value, fun d σ => ∃ v c g, SlC 1 v d.length d c ∧ σ = pt ob (.cells #[v] 59) :: c :: g, fun _ _ => False, _, _, [], _, pt cb (.cells (Value.cells (ptr (β n) 0)) 109) :: l, _, [pt ob (.cells #[.slice none 0 0] 59), []], ⟨_, _, _, rfl, by kernel_rfl⟩, ?_,
      ordered_iter (b := β n) (x := x) (n := n) (knows_pt cb (.cells #[ptr (β n) 0] 109) l) (hn.there _) hk (hO x hx) (by omega), ⟨_, [], [], slC_nil 1, rfl⟩, ?_, ?_, fun _ h => h.elim, fun _ _ _ h => h.elim⟩
    · unfold Split
      simp only [List.flatten_cons, List.flatten_nil, List.append_nil, List.append_assoc]
      exact List.Perm.append_left _ List.perm_append_comm
    · rintro d xs σ ⟨u, rest, rfl, hA⟩ ⟨v, c, g, hs, rfl⟩
      have hmem : u ∈ (nms x).map vstr' := by
        have : u ∈ d ++ u :: rest := by simp
        rw [hA] at this; exact this
      obtain ⟨s, -, rfl⟩ := List.mem_map.1 hmem
      have hlen2 : d.length + 1 ≤ 2 ^ 32 := by
        have := congrArg List.length hA
        simp at this; simp at hl2; omega
      refine ⟨rfl, ?_⟩
      refine sarg_one ?_
      (repeat' (first | refine z0 ?_ | refine z1 ?_ | refine z2 ?_ | refine z3 ?_ | refine z4 ?_ | refine z5 ?_ | refine z6 ?_ | refine z7 (fun hg => ?_) (fun hg => ?_) | refine z8 (fun hg => ?_) (fun hg => ?_) | refine z9 ?_ | refine za ?_ | refine zb ?_ | refine zc ?_ | refine zd ?_ | refine ze ?_ | refine zf ?_ | refine zg ?_ | refine zh ?_ | refine zi (fun _ => ?_) | refine zj (fun _ => ?_) | refine zk ?_ | refine zl ?_ ?_ | refine zm ?_ | refine zn ?_ | refine zo ?_ | exact (rfl : _ = _)))
      refine r_buildSl (ds := [vstr' s]) rfl (by omega) rfl (fun e => ?_)
      refine r_append (e := 9) (i := Tryz.t9) (z := .string ⟨#[]⟩) (m := 1) (news := [vstr' s]) (by kernel_rfl) (by kernel_rfl) (by kernel_rfl) (by kernel_rfl) rfl hs (take_there _ (take_there _ (take_here _ _)))
        (srcAt_row (e' := 9) (by kernel_rfl) (knows_pt _ _ _) rfl rfl (by simp; rfl)) ?_ (by omega) (fun v' c' hs' => ?_)
      · have : Tryz.t9.bytes = 16 := by kernel_rfl
        rw [this]; omega
      · obtain ⟨hv1, hv2⟩ := slC_one hs'
        refine r_store (knows_there _ (knows_there _ (knows_pt _ _ _))) (ds := [v']) (l' := pt ob (.cells #[v'] 59) :: c' :: pt e (.cells #[vstr' s] 9) :: g) (by rw [hv1]; rfl) (by rw [hv1]; rfl) (by rw [hv1]; simp [hv2]) rfl ?_ ⟨v', c', _, by simpa [Value.cells] using hs', rfl⟩
        refine change_perm (d := c' ++ (e, .cells #[vstr' s] 9) :: g.flatten) (o := .cells #[v] 59) ?_ (by simp [pt])
        simp only [List.flatten_cons, pt]
        have : ((c' ++ [(e, Obj.cells #[vstr' s] 9)]) ++ (ob, Obj.cells #[v] 59) :: g.flatten).Perm ((ob, Obj.cells #[v] 59) :: ((c' ++ [(e, Obj.cells #[vstr' s] 9)]) ++ g.flatten)) := List.perm_middle
        simpa using this
    · rintro d σ hA ⟨v, c, g, hs, rfl⟩
      refine r_load1 (x := v) (ty := 59) (cs := #[v]) (fz := (0, 0)) (by unfold Knows; simp [pt]) rfl ?_
      have hA : d = (nms x).map vstr' := hA
      subst hA
      refine ⟨c :: l, ?_, h v c (by simpa using hs)⟩
      refine Ent.trans (l' := (c :: l) ++ (pt cb (.cells (Value.cells (ptr (β n) 0)) 109) :: pt ob (.cells #[v] 59) :: g)) (Ent.of_perm ?_) (ent_tail _ _)
      simp only [List.flatten_append, List.flatten_cons, List.append_assoc]
      generalize pt cb (.cells (Value.cells (ptr (β n) 0)) 109) = X
      generalize pt ob (.cells #[v] 59) = Y
      generalize g.flatten = Z
      generalize l.flatten = W
      have h1 : (X ++ (W ++ (Y ++ (c ++ Z)))).Perm (W ++ (X ++ (Y ++ (c ++ Z)))) := List.perm_append_comm_assoc _ _ _
      have h2 : (W ++ (X ++ (Y ++ (c ++ Z)))).Perm (W ++ (X ++ (c ++ (Y ++ Z)))) := List.Perm.append_left _ (List.Perm.append_left _ (List.perm_append_comm_assoc _ _ _))
      have h3 : (W ++ (X ++ (c ++ (Y ++ Z)))).Perm (W ++ (c ++ (X ++ (Y ++ Z)))) := List.Perm.append_left _ (List.perm_append_comm_assoc _ _ _)
      exact h1.trans (h2.trans (h3.trans (List.perm_append_comm_assoc _ _ _)))
  · (repeat' (first | refine z0 ?_ | refine z1 ?_ | refine z2 ?_ | refine z3 ?_ | refine z4 ?_ | refine z5 ?_ | refine z6 ?_ | refine z7 (fun hg => ?_) (fun hg => ?_) | refine z8 (fun hg => ?_) (fun hg => ?_) | refine z9 ?_ | refine za ?_ | refine zb ?_ | refine zc ?_ | refine zd ?_ | refine ze ?_ | refine zf ?_ | refine zg ?_ | refine zh ?_ | refine zi (fun _ => ?_) | refine zj (fun _ => ?_) | refine zk ?_ | refine zl ?_ ?_ | refine zm ?_ | refine zn ?_ | refine zo ?_ | exact (rfl : _ = _)))
    have hnm : T.names n = [] := by simp [Tree.names, hd]
    rw [hnm] at h
    exact ⟨[] :: l, Ent.of_perm (by simp), h _ [] (slC_nil 1)⟩
end
end Go.Sl
namespace Go.Sl
variable [Ghost]
open Go Go.Mo
theorem lessS_lt : ∀ a b : Str, lessS a b = true ↔ a < b
  | [], [] => by simp [lessS]
  | a :: xs, [] => by simp [lessS]
  | [], b :: bs => by simp [lessS]
  | a :: xs, b :: bs => by
    have ih := lessS_lt xs bs
    simp only [lessS, List.cons_lt_cons_iff]
    by_cases h1 : a.toNat < b.toNat
    · have : a < b := UInt8.lt_iff_toNat_lt.2 h1
      simp [h1, this]
    · by_cases h2 : b.toNat < a.toNat
      · have h3 : ¬ a < b := fun h => h1 (UInt8.lt_iff_toNat_lt.1 h)
        have h4 : a ≠ b := fun e => by subst e; omega
        simp [h1, h2, h3, h4]
      · have h3 : ¬ a < b := fun h => h1 (UInt8.lt_iff_toNat_lt.1 h)
        have h4 : a = b := UInt8.toNat_inj.1 (by omega)
        simp [h1, h2, h3, h4, ih]
theorem lessS_trans {a b c : Str} (h1 : lessS a b = true) (h2 : lessS b c = true) : lessS a c = true := by
  rw [lessS_lt] at *; exact List.lt_trans h1 h2
theorem lessS_irrefl (a : Str) : lessS a a ≠ true := by
  rw [Ne, lessS_lt]; exact List.lt_irrefl a
theorem lessS_tri : ∀ {a b : Str}, ¬ lessS a b = true → a ≠ b → lessS b a = true
  | [], [], _, h => absurd rfl h
  | [], b :: bs, h, _ => absurd rfl h
  | a :: xs, [], _, _ => rfl
  | a :: xs, b :: bs, h1, h2 => by
    simp only [lessS] at h1 ⊢
    by_cases h3 : a.toNat < b.toNat
    · simp [h3] at h1
    · by_cases h4 : b.toNat < a.toNat
      · simp [h4]
      · have h5 : a = b := UInt8.toNat_inj.1 (by omega)
        subst h5
        simp only [Nat.lt_irrefl, if_false] at h1 ⊢
        exact lessS_tri h1 fun e => h2 (by rw [e])
abbrev RowOk (l : List (Str × Int)) : Prop := l.Pairwise fun a b => lessS a.1 b.1 = true
theorem insS_mem {s : Str} {n : Int} {l : List (Str × Int)} {q : Str × Int} : q ∈ insS s n l ↔ q = (s, n) ∨ q ∈ l := by
  rw [(insS_perm s n l).mem_iff]; simp
theorem insS_row {s : Str} {n : Int} : ∀ {l : List (Str × Int)}, (∀ q ∈ l, q.1 ≠ s) → RowOk l → RowOk (insS s n l)
  | [], _, _ => by simp [insS]
  | (t, m) :: r, hn, h => by
    have h' := List.pairwise_cons.1 h
    unfold insS
    split
    · rename_i hl
      refine List.pairwise_cons.2 ⟨fun q hq => ?_, insS_row (fun q hq => hn q (.tail _ hq)) h'.2⟩
      rcases insS_mem.1 hq with rfl | hq
      · exact hl
      · exact h'.1 q hq
    · rename_i hl
      have hst : lessS s t = true := lessS_tri hl (hn _ (.head _))
      refine List.pairwise_cons.2 ⟨fun q hq => ?_, h⟩
      rcases List.mem_cons.1 hq with rfl | hq
      · exact hst
      · exact lessS_trans hst (h'.1 q hq)
theorem delS_sub (s : Str) : ∀ l : List (Str × Int), (delS s l).Sublist l
  | [] => .refl _
  | (t, m) :: r => by
    unfold delS
    split
    · exact .cons _ (.refl _)
    · exact .cons_cons _ (delS_sub s r)
theorem getS_mem {s : Str} {n : Int} : ∀ {l : List (Str × Int)}, getS s l = some n → (s, n) ∈ l
  | [], h => by cases h
  | (t, m) :: r, h => by
    unfold getS at h
    split at h
    · rename_i e; subst e; cases h; exact .head _
    · exact .tail _ (getS_mem h)
theorem getS_nomem {s : Str} : ∀ {l : List (Str × Int)}, getS s l = none → ∀ q ∈ l, q.1 ≠ s
  | [], _, q, hq => by cases hq
  | (t, m) :: r, h, q, hq => by
    unfold getS at h
    split at h
    · cases h
    · rename_i e
      rcases List.mem_cons.1 hq with rfl | hq
      · exact fun e2 => e e2.symm
      · exact getS_nomem h q hq
def cntN (n : Int) : List (Str × Int) → Nat
  | [] => 0
  | (_, m) :: r => (if m = n then 1 else 0) + cntN n r
theorem cntN_ins (n m : Int) (s : Str) : ∀ l, cntN n (insS s m l) = cntN n l + (if m = n then 1 else 0)
  | [] => by simp [insS, cntN]
  | (t, k) :: r => by
    unfold insS
    split
    · simp only [cntN, cntN_ins n m s r]; omega
    · simp only [cntN]; omega
theorem cntN_del (n m : Int) (s : Str) : ∀ l, getS s l = some m → cntN n (delS s l) + (if m = n then 1 else 0) = cntN n l
  | [], h => by cases h
  | (t, k) :: r, h => by
    unfold getS at h
    unfold delS
    split
    · rename_i e
      rw [if_pos e] at h
      cases h
      simp only [cntN]; omega
    · rename_i e
      rw [if_neg e] at h
      have := cntN_del n m s r h
      simp only [cntN]; omega
theorem cntN_pos {n : Int} {s : Str} : ∀ {l : List (Str × Int)}, (s, n) ∈ l → 0 < cntN n l
  | [], h => by cases h
  | (t, m) :: r, h => by
    unfold cntN
    rcases List.mem_cons.1 h with e | h
    · cases e; rw [if_pos rfl]; omega
    · exact Nat.lt_of_lt_of_le (cntN_pos h) (Nat.le_add_left _ _)
def sumO (f : Nd → Nat) : List (Option Nd) → Nat
  | [] => 0
  | none :: r => sumO f r
  | some x :: r => f x + sumO f r
def opt (f : Nd → Nat) : Option Nd → Nat
  | none => 0
  | some x => f x
theorem sumO_cons (f : Nd → Nat) (o : Option Nd) (r : List (Option Nd)) : sumO f (o :: r) = opt f o + sumO f r := by
  cases o <;> simp [sumO, opt]
theorem sumO_set (f : Nd → Nat) : ∀ (xs : List (Option Nd)) (k : Nat) (o y : Option Nd), nth xs k = some o → sumO f (setNth xs k y) + opt f o = sumO f xs + opt f y
  | [], k, o, y, h => by simp [nth] at h
  | z :: xs, 0, o, y, h => by
    simp only [nth, Option.some.injEq] at h; subst h
    simp only [setNth, sumO_cons]; omega
  | z :: xs, k + 1, o, y, h => by
    have := sumO_set f xs k o y h
    simp only [setNth, sumO_cons]; omega
theorem sumO_app (f : Nd → Nat) : ∀ (xs : List (Option Nd)) (y : Option Nd), sumO f (xs ++ [y]) = sumO f xs + opt f y
  | [], y => by simp [sumO_cons, sumO]
  | z :: xs, y => by
    have := sumO_app f xs y
    simp only [List.cons_append, sumO_cons, this]; omega
theorem sumO_ge (f : Nd → Nat) : ∀ (xs : List (Option Nd)) (k : Nat) (x : Nd), nth xs k = some (some x) → f x ≤ sumO f xs
  | [], k, x, h => by simp [nth] at h
  | z :: xs, 0, x, h => by
    simp only [nth, Option.some.injEq] at h; subst h
    simp only [sumO_cons, opt]; omega
  | z :: xs, k + 1, x, h => by
    have := sumO_ge f xs k x h
    simp only [sumO_cons]; omega
theorem geti_nth {xs : List (Option Nd)} {n : Int} {x : Nd} (h : geti xs n = some x) : ∃ k : Nat, n = ((k + 1 : Nat) : Int) ∧ nth xs k = some (some x) := by
  unfold geti at h
  split at h
  · rename_i k
    refine ⟨k, rfl, ?_⟩
    split at h
    · rename_i o ho
      rw [ho, h]
    · cases h
  · cases h
theorem nth_geti {xs : List (Option Nd)} {k : Nat} {x : Nd} (h : nth xs k = some (some x)) : geti xs ((k + 1 : Nat) : Int) = some x := by
  show geti xs (Int.ofNat (k + 1)) = some x
  unfold geti
  simp only [h]
def Mo.refs (T : Tree) (n : Int) : Nat := sumO (fun x => cntN n x.names) T.all
theorem put_sum (f : Nd → Nat) {T : Tree} {n : Int} {x : Nd} (h : T.at n = some x) (y : Option Nd) : sumO f (T.put n y).all + f x = sumO f T.all + opt f y := by
  obtain ⟨k, rfl, hk⟩ := geti_nth h
  exact sumO_set f T.all k (some x) y hk
theorem refs_ge {T : Tree} {n m : Int} {x : Nd} (h : T.at m = some x) : cntN n x.names ≤ Mo.refs T n := by
  obtain ⟨k, -, hk⟩ := geti_nth h
  exact sumO_ge (fun x => cntN n x.names) T.all k x hk
theorem refs_of {T : Tree} {n m : Int} {x : Nd} {s : Str} (h : T.at m = some x) (hs : (s, n) ∈ x.names) : 0 < Mo.refs T n :=
  Nat.lt_of_lt_of_le (cntN_pos hs) (refs_ge h)
theorem sumO_two (f : Nd → Nat) : ∀ (xs : List (Option Nd)) (k j : Nat) (x y : Nd), nth xs k = some (some x) → nth xs j = some (some y) → k ≠ j → f x + f y ≤ sumO f xs
  | [], k, j, x, y, h, _, _ => by simp [nth] at h
  | z :: xs, 0, 0, x, y, _, _, h => absurd rfl h
  | z :: xs, 0, j + 1, x, y, h1, h2, _ => by
    simp only [nth, Option.some.injEq] at h1; subst h1
    have := sumO_ge f xs j y h2
    simp only [sumO_cons, opt]; omega
  | z :: xs, k + 1, 0, x, y, h1, h2, _ => by
    simp only [nth, Option.some.injEq] at h2; subst h2
    have := sumO_ge f xs k x h1
    simp only [sumO_cons, opt]; omega
  | z :: xs, k + 1, j + 1, x, y, h1, h2, h => by
    have := sumO_two f xs k j x y h1 h2 (by omega)
    simp only [sumO_cons]; omega
theorem refs_two {T : Tree} {n m k : Int} {x y : Nd} (h1 : T.at m = some x) (h2 : T.at k = some y) (hne : m ≠ k) : cntN n x.names + cntN n y.names ≤ Mo.refs T n := by
  obtain ⟨a, rfl, ha⟩ := geti_nth h1
  obtain ⟨b, rfl, hb⟩ := geti_nth h2
  exact sumO_two (fun z => cntN n z.names) T.all a b x y ha hb (by intro e; subst e; exact hne rfl)
structure Good (e : Int) (T : Tree) : Prop where
  row : ∀ n x, T.at n = some x → RowOk x.names
  plain : ∀ n x, T.at n = some x → x.kind ≠ 1 → x.names = []
  kinds : ∀ n x, T.at n = some x → 1 ≤ x.kind ∧ x.kind ≤ 3
  links : ∀ n x, T.at n = some x → x.links = Mo.refs T n
  live : ∀ n, 0 < Mo.refs T n → ∃ x, T.at n = some x
  one : ∀ n x, T.at n = some x → x.kind = 1 → x.links ≤ 1
  root : Mo.refs T 1 = 0 ∧ ∃ x, T.at 1 = some x ∧ x.kind = 1 ∧ x.up = 1
  lone : ∀ n x, T.at n = some x → x.kind = 1 → n ≠ 1 → x.links = 0 → x.up = n ∧ (n ≠ e → x.names = [])
  upd : ∀ n x, T.at n = some x → x.kind = 1 → x.links = 1 → x.up ≠ n ∧ ∃ d s, T.at x.up = some d ∧ (s, n) ∈ d.names
  rank : ∃ rk : Int → Nat, ∀ n x, T.at n = some x → x.kind = 1 → x.up ≠ n → rk x.up < rk n
  holds : ∀ n x, T.at n = some x → 0 ≤ x.holds
theorem namer_dir {e : Int} {T : Tree} (g : Good e T) {m : Int} {d : Nd} {s : Str} {n : Int} (h : T.at m = some d) (hs : (s, n) ∈ d.names) : d.kind = 1 :=
  Classical.byContradiction fun hk => by rw [g.plain m d h hk] at hs; cases hs
theorem namer_up {e : Int} {T : Tree} (g : Good e T) {m n : Int} {d x : Nd} {s : Str} (h : T.at m = some d) (hs : (s, n) ∈ d.names) (hx : T.at n = some x) (hk : x.kind = 1) : x.links = 1 ∧ x.up = m := by
  have hp := refs_of h hs
  have hl := g.links n x hx
  have h1 := g.one n x hx hk
  have hone : x.links = 1 := by omega
  obtain ⟨-, d2, s2, hd2, hs2⟩ := g.upd n x hx hk hone
  refine ⟨hone, Classical.byContradiction fun hne => ?_⟩
  have := refs_two (n := n) hd2 h hne
  have a1 := cntN_pos hs2
  have a2 := cntN_pos hs
  omega
theorem Good.names {e : Int} {T : Tree} (g : Good e T) : Names T where
  live := fun dir d s n hd hs => by
    obtain ⟨hat, -⟩ := dir_at hd
    have hm := getS_mem hs
    have hp := refs_of hat hm
    obtain ⟨x, hx⟩ := g.live n hp
    have hl := g.links n x hx
    refine ⟨x, hx, by omega, fun e => ?_, fun hk => ?_⟩
    · subst e
      have hk := namer_dir g hat hm
      obtain ⟨h1, h2⟩ := namer_up g hat hm hat hk
      exact (g.upd n d hat hk h1).1 h2
    · obtain ⟨h1, -⟩ := namer_up g hat hm hx hk
      refine ⟨fun e => ?_, h1⟩
      subst e
      have := g.root.1
      omega
  plain := g.plain
theorem Good.ordered {e : Int} {T : Tree} (g : Good e T) {n : Int} {x : Nd} (h : T.at n = some x) : Ordered x := by
  have := g.row n x h
  unfold Ordered nms
  rw [List.pairwise_map]
  refine this.imp fun {a b} hab => ?_
  exact List.le_of_lt ((lessS_lt _ _).1 hab)
theorem nodup_len {α : Type} [DecidableEq α] : ∀ (l m : List α), l.Nodup → (∀ a ∈ l, a ∈ m) → l.length ≤ m.length
  | [], m, _, _ => by simp
  | a :: l, m, h, hs => by
    have h' := List.nodup_cons.1 h
    have := nodup_len l (m.erase a) h'.2 fun b hb => by
      have hne : b ≠ a := fun e => by subst e; exact h'.1 hb
      exact (List.mem_erase_of_ne hne).2 (hs b (.tail _ hb))
    have ha : a ∈ m := hs a (.head _)
    rw [List.length_erase_of_mem ha] at this
    have : 0 < m.length := List.length_pos_of_mem ha
    simp only [List.length_cons]; omega
theorem ends_aux {T : Tree} {rk : Int → Nat} (hr : ∀ n x, T.at n = some x → x.kind = 1 → x.up ≠ n → rk x.up < rk n) :
    ∀ (k : Nat) (seen : List Int) (n : Int), seen.Nodup → (∀ m ∈ seen, m ∈ T.live ∧ rk n < rk m) → T.all.length + 1 ≤ k + seen.length → endsIn T k n = true := by
  intro k
  induction k with
  | zero =>
    intro seen n hnd hs hl
    have h1 : seen.length ≤ T.live.length := nodup_len seen T.live hnd fun m hm => (hs m hm).1
    have h2 : T.live.length ≤ T.all.length := by unfold Tree.live Tree.lives; rw [List.length_map]; exact liveFrom_len T.all 1
    omega
  | succ k ih =>
    intro seen n hnd hs hl
    unfold endsIn
    cases hd : T.dir n with
    | none => rfl
    | some x =>
      simp only [Bool.or_eq_true, decide_eq_true_eq]
      by_cases hu : x.up = n
      · exact .inl hu
      · refine .inr ?_
        obtain ⟨hat, hk⟩ := dir_at hd
        have hlt := hr n x hat hk hu
        refine ih (n :: seen) x.up (List.nodup_cons.2 ⟨fun hm => ?_, hnd⟩) (fun m hm => ?_) (by simp only [List.length_cons]; omega)
        · have := (hs n hm).2; omega
        · rcases List.mem_cons.1 hm with rfl | hm
          · exact ⟨List.mem_map.2 ⟨(m, x), (geti_live T.all m x).1 hat, rfl⟩, hlt⟩
          · have := hs m hm; exact ⟨this.1, by omega⟩
theorem Good.ends {e : Int} {T : Tree} (g : Good e T) (n : Int) : endsIn T (T.all.length + 1) n = true := by
  obtain ⟨rk, hr⟩ := g.rank
  exact ends_aux hr _ [] n (by simp) (by simp) (by simp)
end Go.Sl
namespace Go.Sl
variable [Ghost]
open Go Go.Mo
variable {e n m dir to : Int} {T T' : Tree} {x y d : Nd} {s s2 text : Str} {st : Stt}
theorem at_pos (h : T.at n = some x) : 1 ≤ n := by
  obtain ⟨k, rfl, -⟩ := geti_nth h
  omega
theorem Good.congr (g : Good e T) (h1 : ∀ k x', T'.at k = some x' → 0 ≤ x'.holds ∧ ∃ x, T.at k = some x ∧ x'.names = x.names ∧ x'.kind = x.kind ∧ x'.up = x.up ∧ x'.links = x.links)
    (h2 : ∀ k x, T.at k = some x → ∃ x', T'.at k = some x' ∧ x'.names = x.names ∧ x'.kind = x.kind ∧ x'.up = x.up) (h3 : ∀ k, Mo.refs T' k = Mo.refs T k) : Good e T' where
  row := fun k z hz => by obtain ⟨-, x, hx, hn, -⟩ := h1 k z hz; rw [hn]; exact g.row k x hx
  plain := fun k z hz hk => by obtain ⟨-, x, hx, hn, hkk, -⟩ := h1 k z hz; rw [hn]; exact g.plain k x hx (hkk ▸ hk)
  kinds := fun k z hz => by obtain ⟨-, x, hx, -, hkk, -⟩ := h1 k z hz; rw [hkk]; exact g.kinds k x hx
  links := fun k z hz => by obtain ⟨-, x, hx, -, -, -, hl⟩ := h1 k z hz; rw [hl, h3]; exact g.links k x hx
  live := fun k hk => by
    rw [h3] at hk
    obtain ⟨x, hx⟩ := g.live k hk
    obtain ⟨x', hx', -⟩ := h2 k x hx
    exact ⟨x', hx'⟩
  one := fun k z hz hk => by obtain ⟨-, x, hx, -, hkk, -, hl⟩ := h1 k z hz; rw [hl]; exact g.one k x hx (hkk ▸ hk)
  root := by
    obtain ⟨h, x, hx, hk, hu⟩ := g.root
    obtain ⟨x', hx', -, e2, e3⟩ := h2 1 x hx
    exact ⟨by rw [h3]; exact h, x', hx', by rw [e2]; exact hk, by rw [e3]; exact hu⟩
  lone := fun k z hz hk h1' hl => by
    obtain ⟨-, x, hx, hn, hkk, hu, hl'⟩ := h1 k z hz
    rw [hu, hn]; exact g.lone k x hx (hkk ▸ hk) h1' (hl' ▸ hl)
  upd := fun k z hz hk hl => by
    obtain ⟨-, x, hx, hn, hkk, hu, hl'⟩ := h1 k z hz
    obtain ⟨h4, d, s, hd, hs⟩ := g.upd k x hx (hkk ▸ hk) (hl' ▸ hl)
    obtain ⟨d', hd', en, -⟩ := h2 _ d hd
    rw [hu]
    exact ⟨h4, d', s, hd', by rw [en]; exact hs⟩
  rank := by
    obtain ⟨rk, hr⟩ := g.rank
    refine ⟨rk, fun k z hz hk hu => ?_⟩
    obtain ⟨-, x, hx, -, hkk, hu', -⟩ := h1 k z hz
    rw [hu'] at hu ⊢
    exact hr k x hx (hkk ▸ hk) hu
  holds := fun k z hz => (h1 k z hz).1
theorem Good.put (g : Good e T) (hx : T.at n = some x) (e1 : y.names = x.names) (e2 : y.kind = x.kind) (e3 : y.up = x.up) (e4 : y.links = x.links) (e5 : 0 ≤ y.holds) : Good e (T.put n (some y)) := by
  refine g.congr (fun k z hz => ?_) (fun k z hz => ?_) (fun k => ?_)
  · rw [put_at hx] at hz
    split at hz
    · rename_i hkn
      cases hz; subst hkn
      exact ⟨e5, x, hx, e1, e2, e3, e4⟩
    · exact ⟨g.holds k z hz, z, hz, rfl, rfl, rfl, rfl⟩
  · rw [put_at hx]
    split
    · rename_i hkn
      subst hkn
      rw [hx] at hz; cases hz
      exact ⟨y, rfl, e1, e2, e3⟩
    · exact ⟨z, hz, rfl, rfl, rfl⟩
  · have := put_sum (fun x => cntN k x.names) hx (some y)
    simp only [opt, e1] at this
    unfold Mo.refs; omega
theorem Good.void (g : Good n T) (h : ∀ x, T.at n = some x → x.names = []) : Good 0 T :=
  { g with lone := fun k z hz hk h1 hl => ⟨(g.lone k z hz hk h1 hl).1, fun _ => by
      by_cases hkn : k = n
      · subst hkn; exact h z hz
      · exact (g.lone k z hz hk h1 hl).2 hkn⟩ }
theorem delS_keep {k : Int} {s2 : Str} : ∀ {l : List (Str × Int)}, getS s l = some n → (s2, k) ∈ l → k ≠ n → (s2, k) ∈ delS s l
  | [], h, _, _ => by cases h
  | (t, j) :: r, h, hm, hk => by
    unfold getS at h
    unfold delS
    split
    · rename_i e
      rw [if_pos e] at h; cases h
      rcases List.mem_cons.1 hm with e2 | hm
      · cases e2; exact absurd rfl hk
      · exact hm
    · rename_i e
      rw [if_neg e] at h
      rcases List.mem_cons.1 hm with e2 | hm
      · cases e2; exact .head _
      · exact .tail _ (delS_keep h hm hk)
theorem less_at (hd : T.at dir = some d) (hx : T.at n = some x) (hne : n ≠ dir) (k : Int) : (T.less dir s n).at k = if k = n then some { x with links := x.links - 1, up := if x.kind = 1 then n else x.up } else if k = dir then some { d with names := delS s d.names } else T.at k := by
  have hx1 : (T.put dir (some { d with names := delS s d.names })).at n = some x := by rw [put_at hd, if_neg hne]; exact hx
  simp only [Tree.less, hd, hx1]
  rw [put_at hx1]
  split
  · rfl
  · rw [put_at hd]
theorem less_refs (hd : T.at dir = some d) (hx : T.at n = some x) (hne : n ≠ dir) (hg : getS s d.names = some n) (k : Int) : Mo.refs (T.less dir s n) k + (if n = k then 1 else 0) = Mo.refs T k := by
  have hx1 : (T.put dir (some { d with names := delS s d.names })).at n = some x := by rw [put_at hd, if_neg hne]; exact hx
  have h1 := put_sum (fun x => cntN k x.names) hd (some { d with names := delS s d.names })
  have h2 := put_sum (fun x => cntN k x.names) hx1 (some { x with links := x.links - 1, up := if x.kind = 1 then n else x.up })
  have h3 := cntN_del k n s d.names hg
  have e0 : T.less dir s n = (T.put dir (some { d with names := delS s d.names })).put n (some { x with links := x.links - 1, up := if x.kind = 1 then n else x.up }) := by simp only [Tree.less, hd, hx1]
  simp only [opt] at h1 h2
  unfold Mo.refs
  rw [e0]; omega
theorem give_at (hd : T.at dir = some d) (hx : T.at n = some x) (hne : n ≠ dir) (k : Int) : (T.give dir s n).at k = if k = n then some { x with links := x.links + 1, up := if x.kind = 1 then dir else x.up } else if k = dir then some { d with names := insS s n d.names } else T.at k := by
  have hx1 : (T.put dir (some { d with names := insS s n d.names })).at n = some x := by rw [put_at hd, if_neg hne]; exact hx
  simp only [Tree.give, hd, hx1]
  rw [put_at hx1]
  split
  · rfl
  · rw [put_at hd]
theorem give_refs (hd : T.at dir = some d) (hx : T.at n = some x) (hne : n ≠ dir) (k : Int) : Mo.refs (T.give dir s n) k = Mo.refs T k + (if n = k then 1 else 0) := by
  have hx1 : (T.put dir (some { d with names := insS s n d.names })).at n = some x := by rw [put_at hd, if_neg hne]; exact hx
  have h1 := put_sum (fun x => cntN k x.names) hd (some { d with names := insS s n d.names })
  have h2 := put_sum (fun x => cntN k x.names) hx1 (some { x with links := x.links + 1, up := if x.kind = 1 then dir else x.up })
  have h3 := cntN_ins k n s d.names
  have e0 : T.give dir s n = (T.put dir (some { d with names := insS s n d.names })).put n (some { x with links := x.links + 1, up := if x.kind = 1 then dir else x.up }) := by simp only [Tree.give, hd, hx1]
  simp only [opt] at h1 h2
  unfold Mo.refs
  rw [e0]; omega
theorem Good.less (g : Good 0 T) (hd : T.at dir = some d) (hg : getS s d.names = some n) : Good n (T.less dir s n) := by
  have hm := getS_mem hg
  have hp := refs_of hd hm
  obtain ⟨x, hx⟩ := g.live n hp
  have hdk := namer_dir g hd hm
  have hdd : T.dir dir = some d := by simp [Tree.dir, hd, hdk]
  obtain ⟨x', hx', h1l, hne, hx1⟩ := g.names.live dir d s n hdd hg
  rw [hx] at hx'; cases hx'
  have hat := less_at (s := s) hd hx hne
  have href := less_refs hd hx hne hg
  have hlk := g.links n x hx
  have hn1 : n ≠ 1 := fun e => by subst e; have := g.root.1; omega
  have hdp := at_pos hd
  have fwd : ∀ k z, (T.less dir s n).at k = some z → (k = n ∧ z = { x with links := x.links - 1, up := if x.kind = 1 then n else x.up }) ∨ (k ≠ n ∧ k = dir ∧ z = { d with names := delS s d.names }) ∨ (k ≠ n ∧ k ≠ dir ∧ T.at k = some z) := by
    intro k z hz
    rw [hat] at hz
    split at hz
    · rename_i h; cases hz; exact .inl ⟨h, rfl⟩
    · rename_i h
      split at hz
      · rename_i h2; cases hz; exact .inr (.inl ⟨h, h2, rfl⟩)
      · rename_i h2; exact .inr (.inr ⟨h, h2, hz⟩)
  have keep : ∀ k z s2 j, T.at k = some z → (s2, j) ∈ z.names → j ≠ n → ∃ z', (T.less dir s n).at k = some z' ∧ (s2, j) ∈ z'.names := by
    intro k z s2 j hz hs hj
    rw [hat]
    by_cases h : k = n
    · subst h; rw [hx] at hz; cases hz
      rw [if_pos rfl]; exact ⟨_, rfl, hs⟩
    · rw [if_neg h]
      by_cases h2 : k = dir
      · subst h2; rw [hd] at hz; cases hz
        rw [if_pos rfl]; exact ⟨_, rfl, delS_keep hg hs hj⟩
      · rw [if_neg h2]; exact ⟨z, hz, hs⟩
  constructor
  · intro k z hz
    rcases fwd k z hz with ⟨-, rfl⟩ | ⟨-, -, rfl⟩ | ⟨-, -, h⟩
    · exact g.row n x hx
    · exact (g.row dir d hd).sublist (delS_sub s _)
    · exact g.row k z h
  · intro k z hz hk
    rcases fwd k z hz with ⟨-, rfl⟩ | ⟨-, -, rfl⟩ | ⟨-, -, h⟩
    · exact g.plain n x hx hk
    · exact absurd hdk hk
    · exact g.plain k z h hk
  · intro k z hz
    rcases fwd k z hz with ⟨-, rfl⟩ | ⟨-, -, rfl⟩ | ⟨-, -, h⟩
    · exact g.kinds n x hx
    · exact g.kinds dir d hd
    · exact g.kinds k z h
  · intro k z hz
    have hr := href k
    rcases fwd k z hz with ⟨rfl, rfl⟩ | ⟨hk, rfl, rfl⟩ | ⟨hk, -, h⟩
    · rw [if_pos rfl] at hr; show x.links - 1 = _; omega
    · rw [if_neg (fun e => hk e.symm)] at hr
      have := g.links k d hd
      show d.links = _; omega
    · rw [if_neg (fun e => hk e.symm)] at hr
      have := g.links k z h
      omega
  · intro k hk
    have hr := href k
    obtain ⟨z, hz⟩ := g.live k (by omega)
    rw [hat]
    split
    · exact ⟨_, rfl⟩
    · split
      · exact ⟨_, rfl⟩
      · exact ⟨z, hz⟩
  · intro k z hz hk
    rcases fwd k z hz with ⟨-, rfl⟩ | ⟨-, -, rfl⟩ | ⟨-, -, h⟩
    · have := g.one n x hx hk
      show x.links - 1 ≤ 1; omega
    · exact g.one dir d hd hk
    · exact g.one k z h hk
  · obtain ⟨h, r, hr, hk, hu⟩ := g.root
    have hr1 := href 1
    refine ⟨by omega, ?_⟩
    rw [hat, if_neg (fun e => hn1 e.symm)]
    split
    · rename_i h2; subst h2; rw [hd] at hr; cases hr; exact ⟨_, rfl, hk, hu⟩
    · exact ⟨r, hr, hk, hu⟩
  · intro k z hz hk h1 hl
    rcases fwd k z hz with ⟨rfl, rfl⟩ | ⟨hkn, rfl, rfl⟩ | ⟨hkn, -, h⟩
    · exact ⟨if_pos hk, fun h => absurd rfl h⟩
    · have := g.lone k d hd hk h1 hl
      have he := this.2 (by omega)
      rw [he] at hm; cases hm
    · have := g.lone k z h hk h1 hl
      exact ⟨this.1, fun _ => this.2 (by have := at_pos h; omega)⟩
  · intro k z hz hk hl
    rcases fwd k z hz with ⟨rfl, rfl⟩ | ⟨hkn, rfl, rfl⟩ | ⟨hkn, -, h⟩
    · have := g.one k x hx hk
      have h0 : x.links - 1 = 1 := hl
      omega
    · obtain ⟨h4, d2, s2, hd2, hs2⟩ := g.upd k d hd hk hl
      exact ⟨h4, let ⟨z', h5, h6⟩ := keep _ d2 s2 k hd2 hs2 hkn; ⟨z', s2, h5, h6⟩⟩
    · obtain ⟨h4, d2, s2, hd2, hs2⟩ := g.upd k z h hk hl
      exact ⟨h4, let ⟨z', h5, h6⟩ := keep _ d2 s2 k hd2 hs2 hkn; ⟨z', s2, h5, h6⟩⟩
  · obtain ⟨rk, hr⟩ := g.rank
    refine ⟨rk, fun k z hz hk hu => ?_⟩
    rcases fwd k z hz with ⟨rfl, rfl⟩ | ⟨hkn, rfl, rfl⟩ | ⟨hkn, -, h⟩
    · exact absurd (if_pos hk) hu
    · exact hr k d hd hk hu
    · exact hr k z h hk hu
  · intro k z hz
    rcases fwd k z hz with ⟨-, rfl⟩ | ⟨-, -, rfl⟩ | ⟨-, -, h⟩
    · exact g.holds n x hx
    · exact g.holds dir d hd
    · exact g.holds k z h
inductive Bel (T : Tree) (n : Int) : Int → Prop
  | here : Bel T n n
  | step {m : Int} {y : Nd} (h : T.dir m = some y) (b : Bel T n y.up) : Bel T n m
theorem Good.give (g : Good e T) (he : e = 0 ∨ e = n) (hd : T.at dir = some d) (hdk : d.kind = 1) (hnb : namedB dir d = true) (hg : getS s d.names = none) (hx : T.at n = some x) (hne : n ≠ dir) (hn1 : n ≠ 1)
    (hl0 : x.kind = 1 → x.links = 0) (hb : x.kind = 1 → ¬ Bel T n dir) : Good 0 (T.give dir s n) := by
  have hat := give_at (s := s) hd hx hne
  have href := give_refs (s := s) hd hx hne
  have hlk := g.links n x hx
  have fwd : ∀ k z, (T.give dir s n).at k = some z → (k = n ∧ z = { x with links := x.links + 1, up := if x.kind = 1 then dir else x.up }) ∨ (k ≠ n ∧ k = dir ∧ z = { d with names := insS s n d.names }) ∨ (k ≠ n ∧ k ≠ dir ∧ T.at k = some z) := by
    intro k z hz
    rw [hat] at hz
    split at hz
    · rename_i h; cases hz; exact .inl ⟨h, rfl⟩
    · rename_i h
      split at hz
      · rename_i h2; cases hz; exact .inr (.inl ⟨h, h2, rfl⟩)
      · rename_i h2; exact .inr (.inr ⟨h, h2, hz⟩)
  have keep : ∀ k z s2 j, T.at k = some z → (s2, j) ∈ z.names → ∃ z', (T.give dir s n).at k = some z' ∧ (s2, j) ∈ z'.names := by
    intro k z s2 j hz hs
    rw [hat]
    by_cases h : k = n
    · subst h; rw [hx] at hz; cases hz
      rw [if_pos rfl]; exact ⟨_, rfl, hs⟩
    · rw [if_neg h]
      by_cases h2 : k = dir
      · subst h2; rw [hd] at hz; cases hz
        rw [if_pos rfl]; exact ⟨_, rfl, insS_mem.2 (.inr hs)⟩
      · rw [if_neg h2]; exact ⟨z, hz, hs⟩
  constructor
  · intro k z hz
    rcases fwd k z hz with ⟨-, rfl⟩ | ⟨-, -, rfl⟩ | ⟨-, -, h⟩
    · exact g.row n x hx
    · exact insS_row (getS_nomem hg) (g.row dir d hd)
    · exact g.row k z h
  · intro k z hz hk
    rcases fwd k z hz with ⟨-, rfl⟩ | ⟨-, -, rfl⟩ | ⟨-, -, h⟩
    · exact g.plain n x hx hk
    · exact absurd hdk hk
    · exact g.plain k z h hk
  · intro k z hz
    rcases fwd k z hz with ⟨-, rfl⟩ | ⟨-, -, rfl⟩ | ⟨-, -, h⟩
    · exact g.kinds n x hx
    · exact g.kinds dir d hd
    · exact g.kinds k z h
  · intro k z hz
    have hr := href k
    rcases fwd k z hz with ⟨rfl, rfl⟩ | ⟨hk, rfl, rfl⟩ | ⟨hk, -, h⟩
    · rw [if_pos rfl] at hr; show x.links + 1 = _; omega
    · rw [if_neg (fun e => hk e.symm)] at hr
      have := g.links k d hd
      show d.links = _; omega
    · rw [if_neg (fun e => hk e.symm)] at hr
      have := g.links k z h
      omega
  · intro k hk
    have hr := href k
    rw [hat]
    split
    · exact ⟨_, rfl⟩
    · rename_i h
      rw [if_neg (fun e => h e.symm)] at hr
      obtain ⟨z, hz⟩ := g.live k (by omega)
      split
      · exact ⟨_, rfl⟩
      · exact ⟨z, hz⟩
  · intro k z hz hk
    rcases fwd k z hz with ⟨-, rfl⟩ | ⟨-, -, rfl⟩ | ⟨-, -, h⟩
    · have := hl0 hk
      show x.links + 1 ≤ 1; omega
    · exact g.one dir d hd hk
    · exact g.one k z h hk
  · obtain ⟨h, r, hr, hk, hu⟩ := g.root
    have hr1 := href 1
    rw [if_neg hn1] at hr1
    refine ⟨by omega, ?_⟩
    rw [hat, if_neg (fun e => hn1 e.symm)]
    split
    · rename_i h2; subst h2; rw [hd] at hr; cases hr; exact ⟨_, rfl, hk, hu⟩
    · exact ⟨r, hr, hk, hu⟩
  · intro k z hz hk h1 hl
    rcases fwd k z hz with ⟨rfl, rfl⟩ | ⟨hkn, rfl, rfl⟩ | ⟨hkn, -, h⟩
    · have h0 : x.links + 1 = 0 := hl
      omega
    · have h0 : d.links = 0 := hl
      simp [namedB, h1, h0] at hnb
    · have := g.lone k z h hk h1 hl
      refine ⟨this.1, fun _ => this.2 fun hke => ?_⟩
      rcases he with rfl | rfl
      · have := at_pos h; omega
      · exact hkn hke
  · intro k z hz hk hl
    rcases fwd k z hz with ⟨rfl, rfl⟩ | ⟨hkn, rfl, rfl⟩ | ⟨hkn, -, h⟩
    · have e1 : (if x.kind = 1 then dir else x.up) = dir := if_pos hk
      refine ⟨fun h => hne (by rw [← h]; exact e1), ?_⟩
      show ∃ d2 s2, (T.give dir s k).at (if x.kind = 1 then dir else x.up) = some d2 ∧ (s2, k) ∈ d2.names
      rw [e1, hat, if_neg (fun e => hne e.symm), if_pos rfl]
      exact ⟨_, s, rfl, insS_mem.2 (.inl rfl)⟩
    · obtain ⟨h4, d2, s2, hd2, hs2⟩ := g.upd k d hd hk hl
      exact ⟨h4, let ⟨z', h5, h6⟩ := keep _ d2 s2 k hd2 hs2; ⟨z', s2, h5, h6⟩⟩
    · obtain ⟨h4, d2, s2, hd2, hs2⟩ := g.upd k z h hk hl
      exact ⟨h4, let ⟨z', h5, h6⟩ := keep _ d2 s2 k hd2 hs2; ⟨z', s2, h5, h6⟩⟩
  · obtain ⟨rk, hr⟩ := g.rank
    by_cases hxk : x.kind = 1
    · classical
      refine ⟨fun k => if Bel T n k then rk k + rk dir + 1 else rk k, fun k z hz hk hu => ?_⟩
      have other : ∀ y, T.at k = some y → y.kind = 1 → y.up ≠ k → k ≠ n → (if Bel T n y.up then rk y.up + rk dir + 1 else rk y.up) < (if Bel T n k then rk k + rk dir + 1 else rk k) := by
        intro y hy hyk hyu hkn
        have hlt := hr k y hy hyk hyu
        have hdk : T.dir k = some y := by simp [Tree.dir, hy, hyk]
        have hiff : Bel T n k ↔ Bel T n y.up := by
          constructor
          · intro h
            cases h with
            | here => exact absurd rfl hkn
            | step h b => rw [hdk] at h; cases h; exact b
          · exact fun h => .step hdk h
        by_cases hb : Bel T n k
        · rw [if_pos hb, if_pos (hiff.1 hb)]; omega
        · rw [if_neg hb, if_neg (fun h => hb (hiff.2 h))]; omega
      rcases fwd k z hz with ⟨rfl, rfl⟩ | ⟨hkn, rfl, rfl⟩ | ⟨hkn, -, h⟩
      · have e1 : (if x.kind = 1 then dir else x.up) = dir := if_pos hk
        show (if Bel T k (if x.kind = 1 then dir else x.up) then rk (if x.kind = 1 then dir else x.up) + rk dir + 1 else rk (if x.kind = 1 then dir else x.up)) < (if Bel T k k then rk k + rk dir + 1 else rk k)
        rw [e1, if_neg (hb hxk), if_pos (Bel.here : Bel T k k)]; omega
      · exact other d hd hk hu hkn
      · exact other z h hk hu hkn
    · refine ⟨rk, fun k z hz hk hu => ?_⟩
      rcases fwd k z hz with ⟨rfl, rfl⟩ | ⟨hkn, rfl, rfl⟩ | ⟨hkn, -, h⟩
      · exact absurd hk hxk
      · exact hr k d hd hk hu
      · exact hr k z h hk hu
  · intro k z hz
    rcases fwd k z hz with ⟨-, rfl⟩ | ⟨-, -, rfl⟩ | ⟨-, -, h⟩
    · exact g.holds n x hx
    · exact g.holds dir d hd
    · exact g.holds k z h
end Go.Sl
namespace Go.Sl
variable [Ghost]
open Go Go.Mo
variable {e n m dir to : Int} {T T' : Tree} {x y d : Nd} {s s2 text : Str} {st : Stt}
theorem Good.gone (g : Good e T) (hx : T.at n = some x) (hn1 : n ≠ 1) (hl : x.links = 0) (hnm : x.names = []) : Good e (T.put n none) := by
  have hat : ∀ k, (T.put n none).at k = if k = n then none else T.at k := fun k => put_at hx none k
  have href : ∀ k, Mo.refs (T.put n none) k = Mo.refs T k := fun k => by
    have := put_sum (fun x => cntN k x.names) hx none
    simp only [opt, hnm, cntN] at this
    unfold Mo.refs; omega
  have fwd : ∀ k z, (T.put n none).at k = some z → k ≠ n ∧ T.at k = some z := by
    intro k z hz
    rw [hat] at hz
    split at hz
    · cases hz
    · rename_i h; exact ⟨h, hz⟩
  have hr0 : Mo.refs T n = 0 := by have := g.links n x hx; omega
  constructor
  · exact fun k z hz => g.row k z (fwd k z hz).2
  · exact fun k z hz => g.plain k z (fwd k z hz).2
  · exact fun k z hz => g.kinds k z (fwd k z hz).2
  · intro k z hz; rw [href]; exact g.links k z (fwd k z hz).2
  · intro k hk
    rw [href] at hk
    have : k ≠ n := fun e => by subst e; omega
    rw [hat, if_neg this]
    exact g.live k hk
  · exact fun k z hz => g.one k z (fwd k z hz).2
  · obtain ⟨h, r, hr, h2⟩ := g.root
    exact ⟨by rw [href]; exact h, r, by rw [hat, if_neg (fun e => hn1 e.symm)]; exact hr, h2⟩
  · exact fun k z hz => g.lone k z (fwd k z hz).2
  · intro k z hz hk hl
    obtain ⟨hkn, hz'⟩ := fwd k z hz
    obtain ⟨h4, d2, s2, hd2, hs2⟩ := g.upd k z hz' hk hl
    refine ⟨h4, d2, s2, ?_, hs2⟩
    have : z.up ≠ n := fun e => by rw [e, hx] at hd2; cases hd2; rw [hnm] at hs2; cases hs2
    rw [hat, if_neg this]; exact hd2
  · obtain ⟨rk, hr⟩ := g.rank
    exact ⟨rk, fun k z hz => hr k z (fwd k z hz).2⟩
  · exact fun k z hz => g.holds k z (fwd k z hz).2
theorem good_pool {P : Pool} (g : Good e T) : Good e { T with pool := P } := ⟨g.row, g.plain, g.kinds, g.links, g.live, g.one, g.root, g.lone, g.upd, g.rank, g.holds⟩
theorem Good.reap (g : Good e T) (he : ∀ x, T.at n = some x → n = e → x.names = []) : Good e (T.reap n) := by
  unfold Tree.reap
  cases hx : T.at n with
  | none => exact g
  | some x =>
    simp only
    split
    · exact g
    · rename_i h
      simp only [Bool.or_eq_true, decide_eq_true_eq, not_or, namedB] at h
      have hn1 : n ≠ 1 := h.1.1.1
      have hl0 : x.links = 0 := by have := g.links n x hx; omega
      have hnm : x.names = [] := by
        by_cases hk : x.kind = 1
        · by_cases hne : n = e
          · exact he x hx hne
          · exact (g.lone n x hx hk hn1 hl0).2 hne
        · exact g.plain n x hx hk
      exact good_pool (g.gone hx hn1 hl0 hnm)
theorem Good.take (g : Good 0 T) (hd : T.at dir = some d) (hg : getS s d.names = some n) (hx : T.at n = some x) (hnm : x.names = []) : Good 0 (T.take dir s n) := by
  have hl := g.less hd hg
  have hdk := namer_dir g hd (getS_mem hg)
  have hdd : T.dir dir = some d := by simp [Tree.dir, hd, hdk]
  obtain ⟨x', hx', -, hne, -⟩ := g.names.live dir d s n hdd hg
  have hv : ∀ z, (T.less dir s n).at n = some z → z.names = [] := fun z hz => by
    rw [less_at hd hx hne, if_pos rfl] at hz
    cases hz; exact hnm
  exact (hl.void hv).reap fun z hz _ => hv z hz
theorem Good.part (g : Good 0 T) : Good 0 (T.part dir s).1 := by
  unfold Tree.part
  split
  · exact g
  · rename_i d hd
    split
    · exact g
    · rename_i n hg
      split
      · exact g
      · rename_i x hx
        split
        · exact g
        · rename_i h
          obtain ⟨hat, -⟩ := dir_at hd
          exact g.take hat hg hx (by simpa using h)
theorem not_bel_named (g : Good 0 T) (hx : T.at n = some x) (hne : n ≠ dir) (hnm : x.names = []) (hd : T.at dir = some d) : ¬ Bel T n dir := by
  suffices ∀ m, Bel T n m → m = n by exact fun h => hne (this dir h).symm
  intro m hb
  induction hb with
  | here => rfl
  | step h b ih =>
    rename_i m y
    obtain ⟨hat, hk⟩ := dir_at h
    by_cases hu : y.up = m
    · rw [← hu]; exact ih
    · by_cases h1 : m = 1
      · subst h1
        obtain ⟨-, r, hr, -, hru⟩ := g.root
        rw [hat] at hr; cases hr
        exact absurd hru hu
      · have hl := g.links m y hat
        have ho := g.one m y hat hk
        by_cases hl0 : y.links = 0
        · exact absurd (g.lone m y hat hk h1 hl0).1 hu
        · obtain ⟨-, d2, s2, hd2, hs2⟩ := g.upd m y hat hk (by omega)
          rw [ih, hx] at hd2; cases hd2
          rw [hnm] at hs2; cases hs2
theorem Good.join (g : Good 0 T) : Good 0 (T.join dir s n).1 := by
  unfold Tree.join
  split
  · rename_i d x hd hx
    split
    · exact g
    · rename_i h1
      split
      · exact g
      · rename_i h2
        split
        · exact g
        · rename_i h3
          split
          · exact g
          · obtain ⟨hat, hdk⟩ := dir_at hd
            simp only [Bool.or_eq_true, decide_eq_true_eq, not_or] at h1
            have hk : x.kind ≠ 1 := h1.1
            have hnone : getS s d.names = none := by
              cases hh : getS s d.names with
              | none => rfl
              | some q => rw [hh] at h2; simp at h2
            refine g.give (.inl rfl) hat hdk (by simpa using h3) hnone hx (fun e => ?_) (fun e => ?_) (fun h => absurd h hk) (fun h => absurd h hk)
            · subst e; rw [hat] at hx; cases hx; exact hk hdk
            · subst e
              obtain ⟨-, r, hr, hrk, -⟩ := g.root
              rw [hx] at hr; cases hr; exact hk hrk
  · exact g
def newNd (T : Tree) (st : Stt) (text : Str) : Nd :=
  { kind := st.kind, mode := masked st.mode, uid := st.uid, gid := st.gid, text := text, file := (if st.kind = 2 then T.pool.file else (T.pool, 0)).2, up := if st.kind = 1 ∧ ((T.all.length + 1 : Nat) : Int) ≠ 1 then ((T.all.length + 1 : Nat) : Int) else 0 }
theorem add_at (m : Int) : (addT T st text).at m = if m = ((T.all.length + 1 : Nat) : Int) then some (newNd T st text) else T.at m := geti_snoc T.all _ m
theorem add_refs (k : Int) : Mo.refs (addT T st text) k = Mo.refs T k := by
  have := sumO_app (fun x => cntN k x.names) T.all (some (newNd T st text))
  simp only [opt] at this
  have h0 : cntN k (newNd T st text).names = 0 := rfl
  show sumO _ (T.all ++ [some (newNd T st text)]) = sumO _ T.all
  omega
theorem Good.len (g : Good e T) : 1 ≤ T.all.length := by
  obtain ⟨-, r, hr, -⟩ := g.root
  obtain ⟨k, hk, hn⟩ := geti_nth hr
  have := nth_lt _ _ _ hn
  omega
theorem Good.add (g : Good 0 T) (h1 : 1 ≤ st.kind) (h3 : st.kind ≤ 3) : Good 0 (addT T st text) := by
  have hlen := g.len
  generalize hN : ((T.all.length + 1 : Nat) : Int) = N
  have hat : ∀ k, (addT T st text).at k = if k = N then some (newNd T st text) else T.at k := fun k => by rw [← hN]; exact add_at k
  have hnone : T.at N = none := by
    cases h : T.at N with
    | none => rfl
    | some z => exact absurd hN.symm (at_lt h)
  have hr0 : Mo.refs T N = 0 := by
    cases h : Mo.refs T N with
    | zero => rfl
    | succ k => obtain ⟨z, hz⟩ := g.live N (by omega); rw [hnone] at hz; cases hz
  have hup : st.kind = 1 → (newNd T st text).up = N := fun hk => by
    unfold newNd
    simp only
    rw [hN, if_pos ⟨hk, by omega⟩]
  have fwd : ∀ k z, (addT T st text).at k = some z → (k = N ∧ z = newNd T st text) ∨ (k ≠ N ∧ T.at k = some z) := by
    intro k z hz
    rw [hat] at hz
    split at hz
    · rename_i h; cases hz; exact .inl ⟨h, rfl⟩
    · rename_i h; exact .inr ⟨h, hz⟩
  have old : ∀ k z, T.at k = some z → (addT T st text).at k = some z := fun k z hz => by
    rw [hat, if_neg (fun e => by subst e; rw [hnone] at hz; cases hz)]; exact hz
  constructor
  · intro k z hz
    rcases fwd k z hz with ⟨-, rfl⟩ | ⟨-, h⟩
    · exact List.Pairwise.nil
    · exact g.row k z h
  · intro k z hz hk
    rcases fwd k z hz with ⟨-, rfl⟩ | ⟨-, h⟩
    · rfl
    · exact g.plain k z h hk
  · intro k z hz
    rcases fwd k z hz with ⟨-, rfl⟩ | ⟨-, h⟩
    · exact ⟨h1, h3⟩
    · exact g.kinds k z h
  · intro k z hz
    rw [add_refs]
    rcases fwd k z hz with ⟨rfl, rfl⟩ | ⟨-, h⟩
    · rw [hr0]; rfl
    · exact g.links k z h
  · intro k hk
    rw [add_refs] at hk
    obtain ⟨z, hz⟩ := g.live k hk
    exact ⟨z, old k z hz⟩
  · intro k z hz hk
    rcases fwd k z hz with ⟨-, rfl⟩ | ⟨-, h⟩
    · show (0 : Int) ≤ 1; omega
    · exact g.one k z h hk
  · obtain ⟨h, r, hr, h2⟩ := g.root
    exact ⟨by rw [add_refs]; exact h, r, old 1 r hr, h2⟩
  · intro k z hz hk hk1 hl
    rcases fwd k z hz with ⟨rfl, rfl⟩ | ⟨-, h⟩
    · exact ⟨hup hk, fun _ => rfl⟩
    · exact g.lone k z h hk hk1 hl
  · intro k z hz hk hl
    rcases fwd k z hz with ⟨rfl, rfl⟩ | ⟨-, h⟩
    · have : (0 : Int) = 1 := hl
      omega
    · obtain ⟨h4, d2, s2, hd2, hs2⟩ := g.upd k z h hk hl
      exact ⟨h4, d2, s2, old _ d2 hd2, hs2⟩
  · obtain ⟨rk, hr⟩ := g.rank
    refine ⟨rk, fun k z hz hk hu => ?_⟩
    rcases fwd k z hz with ⟨rfl, rfl⟩ | ⟨-, h⟩
    · exact absurd (hup hk) hu
    · exact hr k z h hk hu
  · intro k z hz
    rcases fwd k z hz with ⟨-, rfl⟩ | ⟨-, h⟩
    · show (0 : Int) ≤ 0; omega
    · exact g.holds k z h
theorem make_cases (dir : Int) (s : Str) (st : Stt) (text : Str) : (∃ w, T.make dir s st text = (T, 0, w) ∧ w ≠ 0) ∨
    (∃ d, T.dir dir = some d ∧ rightN s = true ∧ 1 ≤ st.kind ∧ st.kind ≤ 3 ∧ (text = [] ∨ st.kind = 3) ∧ getS s d.names = none ∧ namedB dir d = true ∧ T.make dir s st text = ((addT T st text).give dir s ((T.all.length + 1 : Nat) : Int), ((T.all.length + 1 : Nat) : Int), 0)) := by
  unfold Tree.make
  split
  · exact .inl ⟨1, rfl, by decide⟩
  · rename_i d hd
    split
    · exact .inl ⟨1, rfl, by decide⟩
    · rename_i h1
      split
      · exact .inl ⟨35, rfl, by decide⟩
      · rename_i h2
        split
        · exact .inl ⟨32, rfl, by decide⟩
        · rename_i h3
          split
          · exact .inl ⟨44, rfl, by decide⟩
          · split
            · exact .inl ⟨43, rfl, by decide⟩
            · simp only [Bool.or_eq_true, Bool.not_eq_true', decide_eq_true_eq, not_or, Bool.and_eq_true, bne_iff_ne, ne_eq, not_and, Decidable.not_not] at h1
              refine .inr ⟨d, hd, by simpa using h1.1.1.1, by omega, by omega, ?_, ?_, by simpa using h3, rfl⟩
              · by_cases ht : text = []
                · exact .inl ht
                · exact .inr (h1.2 ht)
              · cases hh : getS s d.names with
                | none => rfl
                | some q => rw [hh] at h2; simp at h2
theorem Good.make (g : Good 0 T) : Good 0 (T.make dir s st text).1 := by
  rcases make_cases (T := T) dir s st text with ⟨w, h, -⟩ | ⟨d, hd, -, h1, h3, -, hg, hnb, h⟩
  · rw [h]; exact g
  · rw [h]
    obtain ⟨hat, hdk⟩ := dir_at hd
    have hne : ((T.all.length + 1 : Nat) : Int) ≠ dir := fun e => at_lt hat e.symm
    have hlen := g.len
    refine (g.add h1 h3).give (.inl rfl) (d := d) ?_ hdk hnb hg (x := newNd T st text) ?_ hne (by omega) (fun _ => rfl) (fun _ => ?_)
    · rw [add_at, if_neg (fun e => hne e.symm)]; exact hat
    · rw [add_at, if_pos rfl]
    · exact not_bel_named (x := newNd T st text) (d := d) (g.add h1 h3) (by rw [add_at, if_pos rfl]) hne rfl (by rw [add_at, if_neg (fun e => hne e.symm)]; exact hat)
theorem within_bel {m : Int} (hb : Bel T n m) : ∀ k, endsIn T k m = true → withinGo T n k m = false → m = n := by
  induction hb with
  | here => intro k _ _; rfl
  | step h b ih =>
    rename_i m y
    intro k he hw
    cases k with
    | zero => simp [endsIn] at he
    | succ k =>
      have he' := he
      have hw' := hw
      simp only [endsIn, h, Bool.or_eq_true, decide_eq_true_eq] at he
      simp only [withinGo, h] at hw
      by_cases hu : y.up = m
      · rw [hu] at ih
        exact ih (k + 1) he' hw'
      · rw [if_neg hu] at hw
        by_cases hn : y.up = n
        · rw [if_pos hn] at hw; cases hw
        · rw [if_neg hn] at hw
          exact absurd (ih k (he.resolve_left hu) hw) hn
end Go.Sl
namespace Go.Sl
variable [Ghost]
open Go Go.Mo
variable {e n m dir to old : Int} {T T' : Tree} {x y d : Nd} {s s2 text : Str} {st : Stt}
theorem reap_at (k : Int) : (T.reap n).at k = if k = n then (T.reap n).at n else T.at k := by
  by_cases hk : k = n
  · rw [if_pos hk, hk]
  · rw [if_neg hk]
    unfold Tree.reap
    cases hx : T.at n with
    | none => rfl
    | some x =>
      simp only
      split
      · rfl
      · show (T.put n none).at k = _
        rw [put_at hx, if_neg hk]
theorem reap_some (k : Int) (h : (T.reap n).at k = some y) : T.at k = some y := by
  unfold Tree.reap at h
  cases hx : T.at n with
  | none => rw [hx] at h; exact h
  | some x =>
    rw [hx] at h
    simp only at h
    split at h
    · exact h
    · have h2 : (T.put n none).at k = some y := h
      rw [put_at hx] at h2
      split at h2
      · cases h2
      · exact h2
theorem bel_reap {k : Int} (h : Bel (T.reap k) n m) : Bel T n m := by
  induction h with
  | here => exact .here
  | step h b ih =>
    obtain ⟨hat, hk⟩ := dir_at h
    refine .step ?_ ih
    simp [Tree.dir, reap_some _ hat, hk]
theorem bel_less {k : Int} (hd : T.at dir = some d) (hx : T.at k = some x) (hne : k ≠ dir) (h : Bel (T.less dir s k) n m) : Bel T n m := by
  induction h with
  | here => exact .here
  | step h b ih =>
    rename_i m y
    obtain ⟨hat, hk⟩ := dir_at h
    rw [less_at hd hx hne] at hat
    split at hat
    · rename_i e
      cases hat
      have : (if x.kind = 1 then k else x.up) = k := if_pos hk
      simp only [this] at ih
      rw [e]; exact ih
    · split at hat
      · rename_i e
        cases hat
        have hk' : d.kind = 1 := hk
        exact .step (y := d) (by simp [Tree.dir, e, hd, hk']) ih
      · refine .step ?_ ih
        simp [Tree.dir, hat, hk]
theorem getS_del_none {l : List (Str × Int)} (h : getS s2 l = none) : getS s2 (delS s l) = none := by
  cases hh : getS s2 (delS s l) with
  | none => rfl
  | some q => exact absurd rfl (getS_nomem h _ ((delS_sub s l).subset (getS_mem hh)))
theorem getS_del_ne : ∀ {l : List (Str × Int)}, s ≠ s2 → getS s (delS s2 l) = getS s l
  | [], _ => rfl
  | (t, k) :: r, h => by
    unfold delS
    split
    · rename_i e
      subst e
      rw [getS, if_neg h]
    · simp only [getS]
      split
      · rfl
      · exact getS_del_ne h
theorem getS_del_self : ∀ {l : List (Str × Int)}, RowOk l → getS s (delS s l) = none
  | [], _ => rfl
  | (t, k) :: r, h => by
    have h' := List.pairwise_cons.1 h
    unfold delS
    split
    · rename_i e
      subst e
      cases hh : getS s r with
      | none => rfl
      | some q => exact absurd (h'.1 _ (getS_mem hh)) (lessS_irrefl s)
    · rename_i e
      rw [getS, if_neg e]; exact getS_del_self h'.2
theorem take_at (hd : T.at dir = some d) (hx : T.at n = some x) (hne : n ≠ dir) (k : Int) (hk : k ≠ n) : (T.take dir s n).at k = if k = dir then some { d with names := delS s d.names } else T.at k := by
  unfold Tree.take
  rw [reap_at, if_neg hk, less_at hd hx hne, if_neg hk]
theorem Good.turn (g : Good 0 T) (hd : T.at dir = some d) (hs : getS s d.names = some n) (hx : T.at n = some x) (ht : T.at to = some y) (hyk : y.kind = 1) (hnb : namedB to y = true) (ha : getS s2 y.names = none) (hnt : n ≠ to) (hb : x.kind = 1 → ¬ Bel T n to) :
    Good 0 ((T.less dir s n).give to s2 n) := by
  have hdk := namer_dir g hd (getS_mem hs)
  have hdd : T.dir dir = some d := by simp [Tree.dir, hd, hdk]
  obtain ⟨x', hx', -, hne, hw⟩ := g.names.live dir d s n hdd hs
  rw [hx] at hx'; cases hx'
  have hat := less_at (s := s) hd hx hne
  have hn1 : n ≠ 1 := fun e => by
    have h1 := refs_of hd (getS_mem hs)
    have h2 := g.root.1
    rw [e] at h1; omega
  have key : ∃ y', (T.less dir s n).at to = some y' ∧ y'.kind = 1 ∧ namedB to y' = true ∧ getS s2 y'.names = none := by
    rw [hat, if_neg (fun e => hnt e.symm)]
    by_cases h : to = dir
    · subst h
      rw [hd] at ht; cases ht
      rw [if_pos rfl]
      exact ⟨_, rfl, hyk, hnb, getS_del_none ha⟩
    · rw [if_neg h]
      exact ⟨y, ht, hyk, hnb, ha⟩
  obtain ⟨y', h1, h2, h3, h4⟩ := key
  refine (g.less hd hs).give (.inr rfl) h1 h2 h3 h4 (x := { x with links := x.links - 1, up := if x.kind = 1 then n else x.up }) (by rw [hat, if_pos rfl]) hnt hn1 (fun hk => ?_) (fun hk hbel => hb hk (bel_less hd hx hne hbel))
  have := (hw hk).2
  show x.links - 1 = 0
  omega
theorem move_cases (dir : Int) (s : Str) (to : Int) (s2 : Str) : (∃ w, T.move dir s to s2 = (T, w)) ∨
    (∃ d y n x, T.at dir = some d ∧ d.kind = 1 ∧ T.at to = some y ∧ y.kind = 1 ∧ rightN s2 = true ∧ getS s d.names = some n ∧ namedB to y = true ∧ T.at n = some x ∧ ¬ (x.kind = 1 ∧ (to = n ∨ T.within to n = true)) ∧
      ((∃ old z, getS s2 y.names = some old ∧ old ≠ n ∧ T.at old = some z ∧ z.names = [] ∧ (x.kind = 1 ↔ z.kind = 1) ∧ T.move dir s to s2 = (((T.take to s2 old).less dir s n).give to s2 n, 0)) ∨
       (getS s2 y.names = none ∧ T.move dir s to s2 = ((T.less dir s n).give to s2 n, 0)))) := by
  unfold Tree.move
  split
  · rename_i d y hd hy
    obtain ⟨hda, hdk⟩ := dir_at hd
    obtain ⟨hya, hyk⟩ := dir_at hy
    split
    · exact .inl ⟨_, rfl⟩
    · rename_i hr
      split
      · exact .inl ⟨_, rfl⟩
      · rename_i n hn
        split
        · exact .inl ⟨_, rfl⟩
        · rename_i hnb
          split
          · exact .inl ⟨_, rfl⟩
          · rename_i x hx
            split
            · exact .inl ⟨_, rfl⟩
            · rename_i hin
              have hin' : ¬ (x.kind = 1 ∧ (to = n ∨ T.within to n = true)) := by
                simpa only [Bool.and_eq_true, Bool.or_eq_true, decide_eq_true_eq] using hin
              split
              · rename_i old ho
                split
                · exact .inl ⟨_, rfl⟩
                · rename_i hon
                  split
                  · exact .inl ⟨_, rfl⟩
                  · rename_i z hz
                    split
                    · exact .inl ⟨_, rfl⟩
                    · rename_i h1
                      split
                      · exact .inl ⟨_, rfl⟩
                      · rename_i h2
                        split
                        · exact .inl ⟨_, rfl⟩
                        · rename_i h3
                          refine .inr ⟨d, y, n, x, hda, hdk, hya, hyk, by simpa using hr, hn, by simpa using hnb, hx, hin', .inl ⟨old, z, ho, hon, hz, by simpa using h3, ?_, rfl⟩⟩
                          simp only [Bool.and_eq_true, decide_eq_true_eq, bne_iff_ne, ne_eq, not_and, Decidable.not_not] at h1 h2
                          constructor
                          · exact fun h => h1 h
                          · exact fun h => Classical.byContradiction fun h4 => h2 h4 h
              · rename_i ho
                split
                · exact .inl ⟨_, rfl⟩
                · exact .inr ⟨d, y, n, x, hda, hdk, hya, hyk, by simpa using hr, hn, by simpa using hnb, hx, hin', .inr ⟨ho, rfl⟩⟩
  · exact .inl ⟨_, rfl⟩
theorem not_bel_within (g : Good 0 T) (hy : T.at to = some y) (hyk : y.kind = 1) (hx : T.at n = some x) (hxk : x.kind = 1) (h : ¬ (to = n ∨ T.within to n = true)) : ¬ Bel T n to := fun hb => by
  have hyd : T.dir to = some y := by simp [Tree.dir, hy, hyk]
  have hxd : T.dir n = some x := by simp [Tree.dir, hx, hxk]
  refine h (.inl ?_)
  refine within_bel hb _ (g.ends to) ?_
  cases hw : withinGo T n (T.all.length + 1) to with
  | false => rfl
  | true => exact absurd (.inr (by simp [Tree.within, hxd, hw])) h
theorem Good.move (g : Good 0 T) : Good 0 (T.move dir s to s2).1 := by
  rcases move_cases (T := T) dir s to s2 with ⟨w, h⟩ | ⟨d, y, n, x, hd, hdk, hy, hyk, hr, hs, hnb, hx, hin, ⟨old, z, ho, hon, hz, hzn, -, h⟩ | ⟨ho, h⟩⟩
  · rw [h]; exact g
  · rw [h]
    have hdd : T.dir dir = some d := by simp [Tree.dir, hd, hdk]
    have hyd : T.dir to = some y := by simp [Tree.dir, hy, hyk]
    obtain ⟨-, -, -, hnd, hw⟩ := g.names.live dir d s n hdd hs
    obtain ⟨-, -, -, hot, -⟩ := g.names.live to y s2 old hyd ho
    have hnt : n ≠ to := fun e => by
      subst e; rw [hy] at hx; cases hx
      exact hin ⟨hyk, .inl rfl⟩
    have gt := g.take hy ho hz hzn
    have hod : dir ≠ old := fun e => by
      subst e; rw [hd] at hz; cases hz
      rw [hzn] at hs; cases hs
    have hat := take_at (s := s2) hy hz hot
    have hsa : s = s2 → dir ≠ to := fun e1 e2 => by
      subst e1; subst e2
      rw [hd] at hy; cases hy
      rw [hs] at ho; cases ho
      exact hon rfl
    have hx2 : (T.take to s2 old).at n = some x := by rw [hat n (fun e => hon e.symm), if_neg hnt]; exact hx
    have ht2 : (T.take to s2 old).at to = some { y with names := delS s2 y.names } := by rw [hat to (fun e => hot e.symm), if_pos rfl]
    obtain ⟨d2, hd2, hs2⟩ : ∃ d2, (T.take to s2 old).at dir = some d2 ∧ getS s d2.names = some n := by
      rw [hat dir hod]
      by_cases e : dir = to
      · rw [if_pos e]
        subst e
        rw [hd] at hy; cases hy
        exact ⟨_, rfl, by rw [getS_del_ne fun e => hsa e rfl]; exact hs⟩
      · rw [if_neg e]; exact ⟨d, hd, hs⟩
    refine gt.turn hd2 hs2 hx2 ht2 hyk hnb (getS_del_self (g.row to y hy)) hnt fun hk hb => ?_
    have hb2 : Bel T n to := by
      unfold Tree.take at hb
      exact bel_less hy hz hot (bel_reap hb)
    exact not_bel_within g hy hyk hx hk (fun h => hin ⟨hk, h⟩) hb2
  · rw [h]
    have hnt : n ≠ to := fun e => by
      subst e; rw [hy] at hx; cases hx
      exact hin ⟨hyk, .inl rfl⟩
    exact g.turn hd hs hx hy hyk hnb ho hnt fun hk hb => not_bel_within g hy hyk hx hk (fun h => hin ⟨hk, h⟩) hb
theorem Good.hold (g : Good e T) : Good e (T.hold n).1 := by
  unfold Tree.hold
  split
  · exact g
  · rename_i x hx
    have := g.holds n x hx
    exact g.put hx rfl rfl rfl rfl (by show 0 ≤ x.holds + 1; omega)
theorem Good.setMode {k : Int} (g : Good e T) : Good e (T.setMode n k).1 := by
  unfold Tree.setMode
  split
  · exact g
  · rename_i x hx
    exact g.put hx rfl rfl rfl rfl (g.holds n x hx)
theorem Good.setOwner {u v : Int} (g : Good e T) : Good e (T.setOwner n u v).1 := by
  unfold Tree.setOwner
  split
  · exact g
  · rename_i x hx
    exact g.put hx rfl rfl rfl rfl (g.holds n x hx)
theorem Good.new {a b : Int} (h : Tree.new a b = some T) : Good 0 T := by
  unfold Tree.new at h
  split at h
  · cases h
  · cases h
    have hat : ∀ (P : Pool) (k : Int) z, ({ most := a, pool := P, all := [some { kind := 1, mode := 493, uid := 0, gid := 0, up := 1 }] } : Tree).at k = some z → k = 1 ∧ z = { kind := 1, mode := 493, uid := 0, gid := 0, up := 1 } := by
      intro P k z hz
      obtain ⟨j, rfl, hj⟩ := geti_nth hz
      cases j with
      | zero => cases hj; exact ⟨rfl, rfl⟩
      | succ j => simp [nth] at hj
    have href : ∀ (P : Pool) (k : Int), Mo.refs ({ most := a, pool := P, all := [some { kind := 1, mode := 493, uid := 0, gid := 0, up := 1 }] } : Tree) k = 0 := fun P k => by simp [Mo.refs, sumO, cntN]
    constructor
    · intro k z hz; obtain ⟨rfl, rfl⟩ := hat _ k z hz; exact .nil
    · intro k z hz hk; obtain ⟨rfl, rfl⟩ := hat _ k z hz; rfl
    · intro k z hz; obtain ⟨rfl, rfl⟩ := hat _ k z hz; decide
    · intro k z hz; obtain ⟨rfl, rfl⟩ := hat _ k z hz; rw [href]; rfl
    · intro k hk; rw [href] at hk; omega
    · intro k z hz hk; obtain ⟨rfl, rfl⟩ := hat _ k z hz; show (0 : Int) ≤ 1; omega
    · exact ⟨href _ 1, _, rfl, rfl, rfl⟩
    · intro k z hz hk hk1; obtain ⟨rfl, rfl⟩ := hat _ k z hz; exact absurd rfl hk1
    · intro k z hz hk hl; obtain ⟨rfl, rfl⟩ := hat _ k z hz; cases hl
    · exact ⟨fun _ => 0, fun k z hz hk hu => by obtain ⟨rfl, rfl⟩ := hat _ k z hz; exact absurd rfl hu⟩
    · intro k z hz; obtain ⟨rfl, rfl⟩ := hat _ k z hz; show (0 : Int) ≤ 0; omega
structure Sz (k : Nat) (T : Tree) : Prop where
  all : T.all.length ≤ k
  files : T.pool.fs.length ≤ k
  node : ∀ n x, T.at n = some x → x.names.length ≤ k ∧ x.links ≤ k ∧ x.holds ≤ k
  blocks : 0 ≤ T.pool.blocks ∧ T.pool.blocks ≤ 2 ^ 30
theorem Sz.mono {k j : Nat} (h : Sz k T) (hk : k ≤ j) : Sz j T := ⟨Nat.le_trans h.all hk, Nat.le_trans h.files hk, fun n x hx => by have := h.node n x hx; omega, h.blocks⟩
theorem Sz.small {k : Nat} (h : Sz k T) (g : Good e T) (hk : k ≤ 2 ^ 29) : Small T where
  all := by have := h.all; omega
  files := by have := h.files; omega
  names := fun n x hx => by have := h.node n x hx; omega
  links := fun n x hx => by have := h.node n x hx; have := g.links n x hx; omega
  holds := fun n x hx => by have := h.node n x hx; have := g.holds n x hx; omega
  blocks := h.blocks
theorem Sz.put {k : Nat} (h : Sz k T) (hx : T.at n = some x) (hy : y.names.length ≤ k ∧ y.links ≤ k ∧ y.holds ≤ k) : Sz k (T.put n (some y)) := by
  refine ⟨by rw [put_len]; exact h.all, h.files, fun m z hz => ?_, h.blocks⟩
  rw [put_at hx] at hz
  split at hz
  · cases hz; exact hy
  · exact h.node m z hz
theorem Sz.give {k : Nat} (h : Sz k T) : Sz (k + 1) (T.give dir s n) := by
  unfold Tree.give
  split
  · exact h.mono (by omega)
  · rename_i d hd
    have hd' := h.node dir d hd
    have h1 : Sz (k + 1) (T.put dir (some { d with names := insS s n d.names })) := (h.mono (by omega)).put hd ⟨by have := (insS_perm s n d.names).length_eq; simp at this; show (insS s n d.names).length ≤ _; omega, by show d.links ≤ _; omega, by show d.holds ≤ _; omega⟩
    simp only
    split
    · exact h1
    · rename_i x hx
      have hx' : x.names.length ≤ k + 1 ∧ x.links ≤ k ∧ x.holds ≤ k := by
        have h2 := hx
        rw [put_at hd] at h2
        split at h2
        · cases h2
          have := (insS_perm s n d.names).length_eq; simp at this
          refine ⟨?_, ?_, ?_⟩
          · show (insS s n d.names).length ≤ _; omega
          · show d.links ≤ _; omega
          · show d.holds ≤ _; omega
        · have := h.node n x h2; omega
      exact h1.put hx ⟨hx'.1, by show x.links + 1 ≤ _; omega, by show x.holds ≤ _; omega⟩
theorem Sz.less {k : Nat} (h : Sz k T) : Sz k (T.less dir s n) := by
  unfold Tree.less
  split
  · exact h
  · rename_i d hd
    have hd' := h.node dir d hd
    have hl := (delS_sub s d.names).length_le
    have h1 : Sz k (T.put dir (some { d with names := delS s d.names })) := h.put hd ⟨by show (delS s d.names).length ≤ _; omega, hd'.2.1, hd'.2.2⟩
    simp only
    split
    · exact h1
    · rename_i x hx
      have hx' := h1.node n x hx
      exact h1.put hx ⟨hx'.1, by show x.links - 1 ≤ _; omega, hx'.2.2⟩
theorem Sz.reap {k : Nat} (h : Sz k T) : Sz k (T.reap n) := by
  refine ⟨?_, ?_, fun m z hz => h.node m z (reap_some m hz), ?_⟩
  · unfold Tree.reap
    split
    · exact h.all
    · split
      · exact h.all
      · show (T.put n none).all.length ≤ k
        rw [put_len]; exact h.all
  · unfold Tree.reap
    split
    · exact h.files
    · split
      · exact h.files
      · simp only
        split
        · show (seti T.pool.fs _ none).length ≤ k
          rw [seti_len]; exact h.files
        · exact h.files
  · unfold Tree.reap
    split
    · exact h.blocks
    · split
      · exact h.blocks
      · simp only
        split
        · exact h.blocks
        · exact h.blocks
theorem Sz.take {k : Nat} (h : Sz k T) : Sz k (T.take dir s n) := h.less.reap
theorem Sz.add {k : Nat} (h : Sz k T) : Sz (k + 1) (addT T st text) := by
  refine ⟨?_, ?_, fun m z hz => ?_, ?_⟩
  · show (T.all ++ [_]).length ≤ _
    have := h.all
    simp; omega
  · have := h.files
    unfold addT
    simp only
    split
    · simp [Pool.file]; omega
    · show T.pool.fs.length ≤ _; omega
  · rw [add_at] at hz
    split at hz
    · cases hz
      refine ⟨Nat.zero_le _, ?_, ?_⟩
      · show (0 : Int) ≤ _; omega
      · show (0 : Int) ≤ _; omega
    · have := h.node m z hz; omega
  · unfold addT
    simp only
    split
    · exact h.blocks
    · exact h.blocks
theorem Sz.make {k : Nat} (h : Sz k T) : Sz (k + 2) (T.make dir s st text).1 := by
  rcases make_cases (T := T) dir s st text with ⟨w, h', -⟩ | ⟨d, -, -, -, -, -, -, -, h'⟩
  · rw [h']; exact h.mono (by omega)
  · rw [h']; exact h.add.give
theorem Sz.join {k : Nat} (h : Sz k T) : Sz (k + 2) (T.join dir s n).1 := by
  unfold Tree.join
  split
  · repeat' split
    all_goals first | exact h.mono (by omega) | exact h.give.mono (by omega)
  · exact h.mono (by omega)
theorem Sz.part {k : Nat} (h : Sz k T) : Sz (k + 2) (T.part dir s).1 := by
  unfold Tree.part
  repeat' split
  all_goals first | exact h.mono (by omega) | exact h.take.mono (by omega)
theorem Sz.move {k : Nat} (h : Sz k T) : Sz (k + 2) (T.move dir s to s2).1 := by
  rcases move_cases (T := T) dir s to s2 with ⟨w, h'⟩ | ⟨d, y, n, x, -, -, -, -, -, -, -, -, -, ⟨old, z, -, -, -, -, -, h'⟩ | ⟨-, h'⟩⟩
  · rw [h']; exact h.mono (by omega)
  · rw [h']; exact h.take.less.give.mono (by omega)
  · rw [h']; exact h.less.give.mono (by omega)
theorem Sz.hold {k : Nat} (h : Sz k T) : Sz (k + 2) (T.hold n).1 := by
  unfold Tree.hold
  split
  · exact h.mono (by omega)
  · rename_i x hx
    have := h.node n x hx
    exact (h.mono (j := k + 2) (by omega)).put hx ⟨by show x.names.length ≤ _; omega, by show x.links ≤ _; omega, by show x.holds + 1 ≤ _; omega⟩
theorem Sz.setMode {k : Nat} {j : Int} (h : Sz k T) : Sz (k + 2) (T.setMode n j).1 := by
  unfold Tree.setMode
  split
  · exact h.mono (by omega)
  · rename_i x hx
    exact (h.put (y := { x with mode := masked j }) hx (h.node n x hx)).mono (by omega)
theorem Sz.setOwner {k : Nat} {u v : Int} (h : Sz k T) : Sz (k + 2) (T.setOwner n u v).1 := by
  unfold Tree.setOwner
  split
  · exact h.mono (by omega)
  · rename_i x hx
    exact (h.put (y := { x with uid := u, gid := v }) hx (h.node n x hx)).mono (by omega)
theorem Sz.new {a b : Int} (h : Tree.new a b = some T) : Sz 1 T := by
  unfold Tree.new at h
  split at h
  · cases h
  · rename_i hb
    cases h
    simp only [Bool.or_eq_true, decide_eq_true_eq, not_or] at hb
    refine ⟨Nat.le_refl _, Nat.zero_le _, fun n x hx => ?_, by show 0 ≤ b ∧ b ≤ 2 ^ 30; omega⟩
    obtain ⟨j, rfl, hj⟩ := geti_nth hx
    cases j with
    | zero =>
      cases hj
      refine ⟨Nat.zero_le _, ?_, ?_⟩
      · show (0 : Int) ≤ _; omega
      · show (0 : Int) ≤ _; omega
    | succ j => simp [nth] at hj
end Go.Sl
