/- Texts that are joined (T34 T35 G4 GA T36 Q0 Q1 Q2 Q3 Q4 Q5 Q6 Q7 Q8 Q9 Q10 Q11 N4). Conditions: none beyond those that each theorem states. -/
import Derived.Test.YtoimajdjjbdhlaaGreatDoorZRD
set_option linter.unusedSectionVars false
set_option linter.unusedSimpArgs false
set_option linter.unusedVariables false
namespace Go.Sl
variable [Ghost]
open Go Go.Mo Go.Proofs
attribute [local irreducible] snil sfa sext sfield sguard sun sbin slen sload sstore snew snewObj sbuildR sbuildSlR smakeMapR smakeSlR slookup smapset srangeMap snext sentry scall scallv sextern sbuiltin sidx sindex sslice sconv srangeX sarg sand sjoin0 sjoin1 sjoin2 sloop0 sloop1 sloop2
def overL2 (w : NWorld) (who : Who) (f g : Fnd) : List Int :=
  [if !f.has then 32 else 0,
   if f.last = [] ∨ g.last = [] then 48 else 0,
   if g.slash && !g.has && !w.isDir f.pl then 37 else 0,
   if f.dir.mount ≠ g.dir.mount then 36 else 0,
   if w.busy f then 48 else 0,
   if g.has && w.busy g then 48 else 0,
   if !w.may who f.dir.node 2 then 34 else 0,
   if !w.may who g.dir.node 2 then 34 else 0,
   if w.sticky who f then 31 else 0,
   if g.has && w.sticky who g then 31 else 0,
   if w.isDir f.pl && f.dir.node != g.dir.node && !w.may who f.pl.node 2 then 34 else 0]
theorem firstE_if {p : Prop} [Decidable p] {e : Int} {r : List Int} (he : e ≠ 0) : firstE ((if p then e else 0) :: r) = if p then e else firstE r := by
  by_cases h : p
  · simp [firstE, h, he]
  · simp [firstE, h]
theorem over_first (w : NWorld) (who : Who) (f g : Fnd) : w.over who f g = firstE (overL2 w who f g) := by
  unfold overL2 NWorld.over
  simp only [firstE_if (show (32 : Int) ≠ 0 by decide), firstE_if (show (48 : Int) ≠ 0 by decide), firstE_if (show (37 : Int) ≠ 0 by decide), firstE_if (show (36 : Int) ≠ 0 by decide), firstE_if (show (34 : Int) ≠ 0 by decide), firstE_if (show (31 : Int) ≠ 0 by decide)]
  rfl
theorem if_not {b : Bool} {e : Int} : (if b then 0 else e) = if !b then e else 0 := by cases b <;> rfl
section
variable {l : St} {db b1 b3 b4 b5 : Nat} {d : DR} {T : Tree} {M : Tab} {β : Int → Nat} {ty t1 t3 t4 t5 : TypeId} {dirB : Bool} {R : Value → SP}
theorem over1_ok (hd : Knows l db (.cells (dC d) ty)) (h3 : Knows l b3 (.cells #[ptr db 18] t3)) (h : R (vi (if !d.f.has then 32 else 0)) l) : scallv Tryz.prog (.func (.func 239) #[] #[ptr b3 0]) #[] R l := by
  refine r_callv (by kernel_rfl) ?_
  refine S239_ok ?_
  unfold S239
  refine r_load1 h3 (by rfl) ?_
  refine r_nil ?_
  refine r_fa ?_
  refine r_load1 (x := .bool d.f.has) hd (by rfl) ?_
  refine r_not ?_
  exact when_ok h
theorem over2_ok (hd : Knows l db (.cells (dC d) ty)) (h3 : Knows l b3 (.cells #[ptr db 18] t3)) (h4 : Knows l b4 (.cells #[ptr db 25] t4)) (h : R (vi (if d.f.last = [] ∨ d.g.last = [] then 48 else 0)) l) : scallv Tryz.prog (.func (.func 240) #[] #[ptr b3 0, ptr b4 0]) #[] R l := by
  refine r_callv (by kernel_rfl) ?_
  refine S240_ok ?_
  unfold S240
  refine r_load1 h3 (by rfl) ?_
  refine r_nil ?_
  refine r_fa ?_
  refine r_load1 (x := vstr' d.f.last) hd (by rfl) ?_
  refine r_streq (b := []) ?_
  by_cases hf : d.f.last = []
  · have : decide (d.f.last = []) = true := by simpa using hf
    rw [this]
    rw [if_pos (.inl hf)] at h
    refine r_guard_t ?_
    exact when_ok h
  · have : decide (d.f.last = []) = false := by simpa using hf
    rw [this]
    refine r_guard_f ?_
    refine r_load1 h4 (by rfl) ?_
    refine r_nil ?_
    refine r_fa ?_
    refine r_load1 (x := vstr' d.g.last) hd (by rfl) ?_
    refine r_streq (b := []) ?_
    refine when_ok ?_
    by_cases hg : d.g.last = []
    · rw [if_pos (.inr hg)] at h
      rw [if_pos (by simpa using hg)]; exact h
    · rw [if_neg (fun h => h.elim hf hg)] at h
      rw [if_neg (by simpa using hg)]; exact h
theorem over3_ok (hd : Knows l db (.cells (dC d) ty)) (h4 : Knows l b4 (.cells #[ptr db 25] t4)) (h5 : Knows l b5 (.cells #[.bool dirB] t5)) (h : R (vi (if d.g.slash && !d.g.has && !dirB then 37 else 0)) l) : scallv Tryz.prog (.func (.func 241) #[] #[ptr b4 0, ptr b5 0]) #[] R l := by
  refine r_callv (by kernel_rfl) ?_
  refine S241_ok ?_
  unfold S241
  refine r_load1 h4 (by rfl) ?_
  refine r_nil ?_
  refine r_fa ?_
  refine r_load1 (x := .bool d.g.slash) hd (by rfl) ?_
  cases hs : d.g.slash with
  | false =>
    rw [hs] at h
    refine r_guard_f ?_
    exact when_ok (b := false) h
  | true =>
    rw [hs] at h
    refine r_guard_t ?_
    refine r_load1 h4 (by rfl) ?_
    refine r_nil ?_
    refine r_fa ?_
    refine r_load1 (x := .bool d.g.has) hd (by rfl) ?_
    refine r_not ?_
    cases hh : d.g.has with
    | true =>
      rw [hh] at h
      refine r_guard_f ?_
      exact when_ok (b := false) h
    | false =>
      rw [hh] at h
      refine r_guard_t ?_
      refine r_load1 (x := .bool dirB) h5 (by rfl) ?_
      refine r_not ?_
      exact when_ok h
theorem over4_ok (hd : Knows l db (.cells (dC d) ty)) (h3 : Knows l b3 (.cells #[ptr db 18] t3)) (h4 : Knows l b4 (.cells #[ptr db 25] t4)) (h : R (vi (if d.f.dir.mount ≠ d.g.dir.mount then 36 else 0)) l) : scallv Tryz.prog (.func (.func 242) #[] #[ptr b3 0, ptr b4 0]) #[] R l := by
  refine r_callv (by kernel_rfl) ?_
  refine S242_ok ?_
  unfold S242
  refine r_load1 h3 (by rfl) ?_
  refine r_nil ?_
  refine r_fa ?_
  refine r_fa ?_
  refine r_load1 (x := vi d.f.dir.mount) hd (by rfl) ?_
  refine r_load1 h4 (by rfl) ?_
  refine r_nil ?_
  refine r_fa ?_
  refine r_fa ?_
  refine r_load1 (x := vi d.g.dir.mount) hd (by rfl) ?_
  refine r_bin (v := .bool (d.f.dir.mount != d.g.dir.mount)) (by rfl) ?_
  refine when_ok ?_
  by_cases hm : d.f.dir.mount = d.g.dir.mount
  · rw [if_neg (fun h => h hm)] at h
    rw [if_neg (by simpa using hm)]; exact h
  · rw [if_pos hm] at h
    rw [if_pos (by simpa using hm)]; exact h
theorem over5_ok (hd : Knows l db (.cells (dC d) ty)) (hC : Cx l d.t d.m T M β) (h1 : Knows l b1 (.cells #[ptr db 0] t1)) (h3 : Knows l b3 (.cells #[ptr db 18] t3)) (h : R (vi (if NWorld.busy ⟨T, M, d.root⟩ d.f then 48 else 0)) l) : scallv Tryz.prog (.func (.func 243) #[] #[ptr b1 0, ptr b3 0]) #[] R l := by
  refine r_callv (by kernel_rfl) ?_
  refine S243_ok ?_
  unfold S243
  refine r_load1 h1 (by rfl) ?_
  refine r_load1 h3 (by rfl) ?_
  refine r_nil ?_
  refine r_loadn hd (by rfl) ?_
  exact dbusy_ok hd hC h
theorem over6_ok (hd : Knows l db (.cells (dC d) ty)) (hC : Cx l d.t d.m T M β) (h1 : Knows l b1 (.cells #[ptr db 0] t1)) (h4 : Knows l b4 (.cells #[ptr db 25] t4)) (h : R (vi (if d.g.has && NWorld.busy ⟨T, M, d.root⟩ d.g then 48 else 0)) l) : scallv Tryz.prog (.func (.func 244) #[] #[ptr b4 0, ptr b1 0]) #[] R l := by
  refine r_callv (by kernel_rfl) ?_
  refine S244_ok ?_
  unfold S244
  refine r_load1 h4 (by rfl) ?_
  refine r_nil ?_
  refine r_fa ?_
  refine r_load1 (x := .bool d.g.has) hd (by rfl) ?_
  cases hh : d.g.has with
  | false =>
    rw [hh] at h
    refine r_guard_f ?_
    exact when_ok (b := false) h
  | true =>
    rw [hh, Bool.true_and] at h
    refine r_guard_t ?_
    refine r_load1 h1 (by rfl) ?_
    refine r_load1 h4 (by rfl) ?_
    refine r_nil ?_
    refine r_loadn hd (by rfl) ?_
    refine dbusy_ok hd hC ?_
    have e : (decide (d.g.pl.mount ≠ d.g.dir.mount) || M.covered d.g.pl.node) = NWorld.busy ⟨T, M, d.root⟩ d.g := rfl
    rw [e]
    cases hb : NWorld.busy ⟨T, M, d.root⟩ d.g with
    | true =>
      rw [hb] at h
      refine r_bin (v := .bool true) (by rfl) ?_
      exact when_ok (b := true) h
    | false =>
      rw [hb] at h
      refine r_bin (v := .bool false) (by rfl) ?_
      exact when_ok (b := false) h
theorem over7_ok (hd : Knows l db (.cells (dC d) ty)) (hC : Cx l d.t d.m T M β) (h1 : Knows l b1 (.cells #[ptr db 0] t1)) (h3 : Knows l b3 (.cells #[ptr db 18] t3)) (h : R (vi (if !NWorld.may ⟨T, M, d.root⟩ d.who d.f.dir.node 2 then 34 else 0)) l) : scallv Tryz.prog (.func (.func 245) #[] #[ptr b1 0, ptr b3 0]) #[] R l := by
  refine r_callv (by kernel_rfl) ?_
  refine S245_ok ?_
  unfold S245
  refine r_load1 h1 (by rfl) ?_
  refine r_load1 h3 (by rfl) ?_
  refine r_nil ?_
  refine r_fa ?_
  refine r_loadn hd (by rfl) ?_
  refine din_ok hd hC ?_
  rw [if_not]; exact h
theorem over8_ok (hd : Knows l db (.cells (dC d) ty)) (hC : Cx l d.t d.m T M β) (h1 : Knows l b1 (.cells #[ptr db 0] t1)) (h4 : Knows l b4 (.cells #[ptr db 25] t4)) (h : R (vi (if !NWorld.may ⟨T, M, d.root⟩ d.who d.g.dir.node 2 then 34 else 0)) l) : scallv Tryz.prog (.func (.func 246) #[] #[ptr b1 0, ptr b4 0]) #[] R l := by
  refine r_callv (by kernel_rfl) ?_
  refine S246_ok ?_
  unfold S246
  refine r_load1 h1 (by rfl) ?_
  refine r_load1 h4 (by rfl) ?_
  refine r_nil ?_
  refine r_fa ?_
  refine r_loadn hd (by rfl) ?_
  refine din_ok hd hC ?_
  rw [if_not]; exact h
theorem over9_ok (hd : Knows l db (.cells (dC d) ty)) (hC : Cx l d.t d.m T M β) (h1 : Knows l b1 (.cells #[ptr db 0] t1)) (h3 : Knows l b3 (.cells #[ptr db 18] t3)) (h : R (vi (if NWorld.sticky ⟨T, M, d.root⟩ d.who d.f then 31 else 0)) l) : scallv Tryz.prog (.func (.func 247) #[] #[ptr b1 0, ptr b3 0]) #[] R l := by
  refine r_callv (by kernel_rfl) ?_
  refine S247_ok ?_
  unfold S247
  refine r_load1 h1 (by rfl) ?_
  refine r_load1 h3 (by rfl) ?_
  refine r_nil ?_
  refine r_loadn hd (by rfl) ?_
  exact dsticky_ok hd hC h
theorem over10_ok (hd : Knows l db (.cells (dC d) ty)) (hC : Cx l d.t d.m T M β) (h1 : Knows l b1 (.cells #[ptr db 0] t1)) (h4 : Knows l b4 (.cells #[ptr db 25] t4)) (h : R (vi (if d.g.has && NWorld.sticky ⟨T, M, d.root⟩ d.who d.g then 31 else 0)) l) : scallv Tryz.prog (.func (.func 248) #[] #[ptr b4 0, ptr b1 0]) #[] R l := by
  refine r_callv (by kernel_rfl) ?_
  refine S248_ok ?_
  unfold S248
  refine r_load1 h4 (by rfl) ?_
  refine r_nil ?_
  refine r_fa ?_
  refine r_load1 (x := .bool d.g.has) hd (by rfl) ?_
  cases hh : d.g.has with
  | false =>
    rw [hh] at h
    refine r_guard_f ?_
    exact when_ok (b := false) h
  | true =>
    rw [hh, Bool.true_and] at h
    refine r_guard_t ?_
    refine r_load1 h1 (by rfl) ?_
    refine r_load1 h4 (by rfl) ?_
    refine r_nil ?_
    refine r_loadn hd (by rfl) ?_
    refine dsticky_ok hd hC ?_
    have e : sticky d.who.cred (T.st d.g.dir.node) (T.st d.g.pl.node) = NWorld.sticky ⟨T, M, d.root⟩ d.who d.g := rfl
    rw [e]
    cases hb : NWorld.sticky ⟨T, M, d.root⟩ d.who d.g with
    | true =>
      rw [hb] at h
      refine r_bin (v := .bool true) (by rfl) ?_
      exact when_ok (b := true) h
    | false =>
      rw [hb] at h
      refine r_bin (v := .bool false) (by rfl) ?_
      exact when_ok (b := false) h
theorem over11_ok (hd : Knows l db (.cells (dC d) ty)) (hC : Cx l d.t d.m T M β) (h1 : Knows l b1 (.cells #[ptr db 0] t1)) (h3 : Knows l b3 (.cells #[ptr db 18] t3)) (h4 : Knows l b4 (.cells #[ptr db 25] t4)) (h5 : Knows l b5 (.cells #[.bool dirB] t5)) (h : R (vi (if dirB && d.f.dir.node != d.g.dir.node && !NWorld.may ⟨T, M, d.root⟩ d.who d.f.pl.node 2 then 34 else 0)) l) : scallv Tryz.prog (.func (.func 249) #[] #[ptr b5 0, ptr b3 0, ptr b4 0, ptr b1 0]) #[] R l := by
  refine r_callv (by kernel_rfl) ?_
  refine S249_ok ?_
  unfold S249
  refine r_load1 (x := .bool dirB) h5 (by rfl) ?_
  cases dirB with
  | false =>
    refine r_guard_f ?_
    exact when_ok (b := false) h
  | true =>
    rw [Bool.true_and] at h
    refine r_guard_t ?_
    refine r_load1 h3 (by rfl) ?_
    refine r_nil ?_
    refine r_fa ?_
    refine r_fa ?_
    refine r_load1 (x := vi d.f.dir.node) hd (by rfl) ?_
    refine r_load1 h4 (by rfl) ?_
    refine r_nil ?_
    refine r_fa ?_
    refine r_fa ?_
    refine r_load1 (x := vi d.g.dir.node) hd (by rfl) ?_
    refine r_bin (v := .bool (d.f.dir.node != d.g.dir.node)) (by rfl) ?_
    cases hn : (d.f.dir.node != d.g.dir.node) with
    | false =>
      rw [hn] at h
      refine r_guard_f ?_
      exact when_ok (b := false) h
    | true =>
      rw [hn, Bool.true_and] at h
      refine r_guard_t ?_
      refine r_load1 h1 (by rfl) ?_
      refine r_load1 h3 (by rfl) ?_
      refine r_nil ?_
      refine r_fa ?_
      refine r_fa ?_
      refine r_load1 (x := vi d.f.pl.node) hd (by rfl) ?_
      refine dmay_ok hd hC (.inr (.inl rfl)) ?_
      refine r_not ?_
      exact when_ok h
theorem dover_ok (hd : Knows l db (.cells (dC d) ty)) (hC : Cx l d.t d.m T M β) (h : R (vi (NWorld.over ⟨T, M, d.root⟩ d.who d.f d.g)) l) : scall Tryz.prog 203 #[ptr db 0] R l := by
  refine scall_post (S203_ok ?_)
  unfold S203
  refine r_new fun b1 => ?_
  refine r_load1 (knows_pt _ _ _) (by rfl) ?_
  refine r_nil ?_
  refine r_fa ?_
  refine r_load1 (knows_pt _ _ _) (by rfl) ?_
  refine r_nil ?_
  refine r_fa ?_
  refine r_new fun b3 => ?_
  refine r_new fun b4 => ?_
  refine r_store (l' := pt b4 (.cells #[.pointer none] 287) :: pt b3 (.cells #[ptr db 18] 287) :: pt b1 (.cells #[ptr db 0] 186) :: l) (knows_there _ (knows_pt _ _ _)) (by rfl) (by rfl) (by rfl) (by rfl) (change_there _ (change_pt _ _ _ _)) ?_
  refine r_and (r_load1 (knows_there _ (knows_there _ (knows_pt _ _ _))) (by rfl) rfl) ?_
  refine r_store (l' := pt b4 (.cells #[ptr db 25] 287) :: pt b3 (.cells #[ptr db 18] 287) :: pt b1 (.cells #[ptr db 0] 186) :: l) (knows_pt _ _ _) (by rfl) (by rfl) (by rfl) (by rfl) (change_pt _ _ _ _) ?_
  have hd1 := knows_there (pt b4 (.cells #[ptr db 25] 287)) (knows_there (pt b3 (.cells #[ptr db 18] 287)) (knows_there (pt b1 (.cells #[ptr db 0] 186)) hd))
  refine r_load1 (knows_there _ (knows_there _ (knows_pt _ _ _))) (by rfl) ?_
  refine r_load1 (knows_there _ (knows_pt _ _ _)) (by rfl) ?_
  refine r_nil ?_
  refine r_fa ?_
  refine r_loadn hd1 (by rfl) ?_
  refine disDir_ok (p := d.f.pl) hd1 (((hC.there _).there _).there _) ?_
  obtain ⟨dirB, hdb⟩ : ∃ b, decide ((T.st d.f.pl.node).kind = 1) = b := ⟨_, rfl⟩
  rw [hdb]
  refine r_new fun b5 => ?_
  refine r_store (l' := pt b5 (.cells #[.bool dirB] 4) :: pt b4 (.cells #[ptr db 25] 287) :: pt b3 (.cells #[ptr db 18] 287) :: pt b1 (.cells #[ptr db 0] 186) :: l) (knows_pt _ _ _) (by rfl) (by rfl) (by rfl) (by rfl) (change_pt _ _ _ _) ?_
  refine r_join1 ?_
  refine r_buildSl (ds := [.func (.func 239) #[] #[ptr b3 0], .func (.func 240) #[] #[ptr b3 0, ptr b4 0], .func (.func 241) #[] #[ptr b4 0, ptr b5 0], .func (.func 242) #[] #[ptr b3 0, ptr b4 0], .func (.func 243) #[] #[ptr b1 0, ptr b3 0], .func (.func 244) #[] #[ptr b4 0, ptr b1 0], .func (.func 245) #[] #[ptr b1 0, ptr b3 0], .func (.func 246) #[] #[ptr b1 0, ptr b4 0], .func (.func 247) #[] #[ptr b1 0, ptr b3 0], .func (.func 248) #[] #[ptr b4 0, ptr b1 0], .func (.func 249) #[] #[ptr b5 0, ptr b3 0, ptr b4 0, ptr b1 0]]) rfl (by omega) rfl (fun e => ?_)
  obtain ⟨ch, hch⟩ : ∃ ch, ch = pt e (.cells (List.toArray [Value.func (.func 239) #[] #[ptr b3 0], .func (.func 240) #[] #[ptr b3 0, ptr b4 0], .func (.func 241) #[] #[ptr b4 0, ptr b5 0], .func (.func 242) #[] #[ptr b3 0, ptr b4 0], .func (.func 243) #[] #[ptr b1 0, ptr b3 0], .func (.func 244) #[] #[ptr b4 0, ptr b1 0], .func (.func 245) #[] #[ptr b1 0, ptr b3 0], .func (.func 246) #[] #[ptr b1 0, ptr b4 0], .func (.func 247) #[] #[ptr b1 0, ptr b3 0], .func (.func 248) #[] #[ptr b4 0, ptr b1 0], .func (.func 249) #[] #[ptr b5 0, ptr b3 0, ptr b4 0, ptr b1 0]]) 189) := ⟨_, rfl⟩
  refine checks_ok (W := overL2 ⟨T, M, d.root⟩ d.who d.f d.g) (K := [.func (.func 239) #[] #[ptr b3 0], .func (.func 240) #[] #[ptr b3 0, ptr b4 0], .func (.func 241) #[] #[ptr b4 0, ptr b5 0], .func (.func 242) #[] #[ptr b3 0, ptr b4 0], .func (.func 243) #[] #[ptr b1 0, ptr b3 0], .func (.func 244) #[] #[ptr b4 0, ptr b1 0], .func (.func 245) #[] #[ptr b1 0, ptr b3 0], .func (.func 246) #[] #[ptr b1 0, ptr b4 0], .func (.func 247) #[] #[ptr b1 0, ptr b3 0], .func (.func 248) #[] #[ptr b4 0, ptr b1 0], .func (.func 249) #[] #[ptr b5 0, ptr b3 0, ptr b4 0, ptr b1 0]])
    (J := fun vs => match vs with | [x] => fun l' => ∃ l2, Ent l' l2 ∧ R x l2 | _ => fun _ => False) ?_ ?_ (by simp) ?_
  · refine .inr ⟨e, 0, _, _, _, _, rfl, by simp, by simp, knows_pt _ _ _, rfl, ?_⟩
    intro u hu
    simp only [List.mem_cons, List.not_mem_nil, or_false] at hu
    rcases hu with rfl | rfl | rfl | rfl | rfl | rfl | rfl | rfl | rfl | rfl | rfl <;> rfl
  · rw [← hch]
    have k1 : Knows (ch :: pt b5 (.cells #[.bool dirB] 4) :: pt b4 (.cells #[ptr db 25] 287) :: pt b3 (.cells #[ptr db 18] 287) :: pt b1 (.cells #[ptr db 0] 186) :: l) b1 (.cells #[ptr db 0] 186) := knows_there _ (knows_there _ (knows_there _ (knows_there _ (knows_pt _ _ _))))
    have k3 : Knows (ch :: pt b5 (.cells #[.bool dirB] 4) :: pt b4 (.cells #[ptr db 25] 287) :: pt b3 (.cells #[ptr db 18] 287) :: pt b1 (.cells #[ptr db 0] 186) :: l) b3 (.cells #[ptr db 18] 287) := knows_there _ (knows_there _ (knows_there _ (knows_pt _ _ _)))
    have k4 : Knows (ch :: pt b5 (.cells #[.bool dirB] 4) :: pt b4 (.cells #[ptr db 25] 287) :: pt b3 (.cells #[ptr db 18] 287) :: pt b1 (.cells #[ptr db 0] 186) :: l) b4 (.cells #[ptr db 25] 287) := knows_there _ (knows_there _ (knows_pt _ _ _))
    have k5 : Knows (ch :: pt b5 (.cells #[.bool dirB] 4) :: pt b4 (.cells #[ptr db 25] 287) :: pt b3 (.cells #[ptr db 18] 287) :: pt b1 (.cells #[ptr db 0] 186) :: l) b5 (.cells #[.bool dirB] 4) := knows_there _ (knows_pt _ _ _)
    have kd : Knows (ch :: pt b5 (.cells #[.bool dirB] 4) :: pt b4 (.cells #[ptr db 25] 287) :: pt b3 (.cells #[ptr db 18] 287) :: pt b1 (.cells #[ptr db 0] 186) :: l) db (.cells (dC d) ty) := knows_there _ (knows_there _ hd1)
    have kC : Cx (ch :: pt b5 (.cells #[.bool dirB] 4) :: pt b4 (.cells #[ptr db 25] 287) :: pt b3 (.cells #[ptr db 18] 287) :: pt b1 (.cells #[ptr db 0] 186) :: l) d.t d.m T M β := ((((hC.there _).there _).there _).there _).there _
    clear hch
    generalize (ch :: pt b5 (.cells #[.bool dirB] 4) :: pt b4 (.cells #[ptr db 25] 287) :: pt b3 (.cells #[ptr db 18] 287) :: pt b1 (.cells #[ptr db 0] 186) :: l) = l9 at *
    refine ⟨fun R h => over1_ok kd k3 h, fun R h => over2_ok kd k3 k4 h, fun R h => over3_ok kd k4 k5 ?_, fun R h => over4_ok kd k3 k4 h, fun R h => over5_ok kd kC k1 k3 h, fun R h => over6_ok kd kC k1 k4 h, fun R h => over7_ok kd kC k1 k3 h, fun R h => over8_ok kd kC k1 k4 h, fun R h => over9_ok kd kC k1 k3 h, fun R h => over10_ok kd kC k1 k4 h, fun R h => over11_ok kd kC k1 k3 k4 k5 ?_, trivial⟩
    · have : NWorld.isDir ⟨T, M, d.root⟩ d.f.pl = dirB := hdb
      rw [this] at h; exact h
    · have : NWorld.isDir ⟨T, M, d.root⟩ d.f.pl = dirB := hdb
      rw [this] at h; exact h
  · refine ⟨l, by exact drp, ?_⟩
    rw [over_first] at h; exact h
end
end Go.Sl
namespace Go.Sl
variable [Ghost]
open Go Go.Mo Go.Proofs
attribute [local irreducible] snil sfa sext sfield sguard sun sbin slen sload sstore snew snewObj sbuildR sbuildSlR smakeMapR smakeSlR slookup smapset srangeMap snext sentry scall scallv sextern sbuiltin sidx sindex sslice sconv srangeX sarg sand sjoin0 sjoin1 sjoin2 sloop0 sloop1 sloop2
structure Cw (t m : Nat) (T : Tree) (M : Tab) (β : Int → Nat) (c : Chunk) (r : St) : Prop where
  tree : PTree t T β c
  tab : TabAt r m M
  good : Good 0 T
  small : Small T
  room : T.all.length + 1 ≤ 2 ^ 30 ∧ T.pool.fs.length + 1 ≤ 2 ^ 30
  msz : M.l.length ≤ 2 ^ 30
  ok : TabOk M
  texts : ∀ n x, T.at n = some x → x.text.length ≤ 2 ^ 30
theorem Cw.cx {t m : Nat} {T : Tree} {M : Tab} {β : Int → Nat} {c : Chunk} {r : St} (h : Cw t m T M β c r) : Cx (c :: r) t m T M β :=
  ⟨tree_at (take_here c r) h.tree, h.tab.there _, h.small, h.msz, h.ok, h.texts⟩
section
variable {l r : St} {c : Chunk} {db : Nat} {d : DR} {T : Tree} {M : Tab} {β : Int → Nat} {ty : TypeId} {f : Fnd} {slash follow : Bool} {kind mode : Int} {R : Value → SP}
theorem dfresh_ok {v0 : Value} (h : R (vi (fresh f slash)) l) : scall Tryz.prog 186 #[v0, fV f, .bool slash] R l := by
  refine scall_post (S186_ok ?_)
  unfold S186
  refine r_new fun b4 => ?_
  have hl : ∀ (p : Prop), (p → R (vi (fresh f slash)) l) := fun _ _ => h
  have close : ∀ (a b : Int), (if a ≠ 0 then a else b) = fresh f slash → (fun v l' => ∃ l2, Ent l' l2 ∧ R v l2) (vi (if a ≠ 0 then a else b)) (pt b4 (.cells (fV f).cells 48) :: l) := fun a b e => ⟨l, Ent.drop _ _, by rw [e]; exact h⟩
  have post : ∀ {v : Value} {σ : St}, (fun v l' => ∃ l2, Ent l' l2 ∧ R v l2) v σ → (fun v l' => ∃ l2, Ent l' l2 ∧ (fun v l' => ∃ l2, Ent l' l2 ∧ R v l2) v l2) v σ := fun h => ⟨_, .refl _, h⟩
  have two : ∀ (a b : Int), (if a ≠ 0 then a else b) = fresh f slash → sbuildSlR 49 1 (.int .i64 0) 2 #[(0, vi a), (1, vi b)] (fun v => scall Tryz.prog 185 #[v] fun v => (fun v l' => ∃ l2, Ent l' l2 ∧ R v l2) v) (pt b4 (.cells (fV f).cells 48) :: l) := fun a b e => by
    refine r_buildSl (ds := [vi a, vi b]) rfl (by omega) rfl (fun eb => ?_)
    refine first_ok (W := [a, b]) (.inr ⟨eb, 0, _, _, _, _, rfl, by simp, by simp, knows_pt _ _ _, rfl, by simp; exact ⟨rfl, rfl⟩⟩) (by simp) ?_
    refine ⟨l, (Ent.drop _ _).trans (Ent.drop _ _), ?_⟩
    have : firstE [a, b] = if a ≠ 0 then a else b := by
      simp only [firstE]
      by_cases ha : a ≠ 0
      · rw [if_pos ha, if_pos ha]
      · rw [if_neg ha, if_neg ha]
        by_cases hb : b ≠ 0
        · rw [if_pos hb]
        · rw [if_neg hb]; omega
    rw [this, e]; exact h
  refine r_fa ?_
  refine r_load1 (x := .bool f.has) (knows_pt _ _ _) (by rfl) ?_
  cases hh : f.has with
  | true =>
    have hf : ∀ b : Int, (if (35 : Int) ≠ 0 then 35 else b) = fresh f slash := fun b => by unfold fresh; simp [hh]
    refine r_guard_t ?_
    refine when_ok ?_
    refine r_not ?_
    cases slash with
    | true =>
      refine r_guard_f ?_
      refine when_ok ?_
      exact two 35 0 (hf 0)
    | false =>
      refine r_guard_t ?_
      refine r_fa ?_
      refine r_load1 (x := .bool f.slash) (knows_pt _ _ _) (by rfl) ?_
      refine when_ok ?_
      exact two 35 _ (hf _)
  | false =>
    refine r_guard_f ?_
    refine r_fa ?_
    refine r_load1 (x := vstr' f.last) (knows_pt _ _ _) (by rfl) ?_
    refine r_streq (b := []) ?_
    refine when_ok ?_
    refine r_not ?_
    have hfr : fresh f slash = if f.last = [] then 35 else if !slash && f.slash then 32 else 0 := by
      unfold fresh
      rw [hh]
      by_cases hl0 : f.last = [] <;> simp [hl0]
    cases slash with
    | true =>
      refine r_guard_f ?_
      refine when_ok ?_
      refine two _ 0 ?_
      rw [hfr]
      by_cases hl0 : f.last = [] <;> simp [hl0]
    | false =>
      refine r_guard_t ?_
      refine r_fa ?_
      refine r_load1 (x := .bool f.slash) (knows_pt _ _ _) (by rfl) ?_
      refine when_ok ?_
      refine two _ _ ?_
      rw [hfr]
      by_cases hl0 : f.last = [] <;> simp [hl0]
theorem dmade_ok (hd : Knows l db (.cells (dC d) ty)) (h : R (sttV (NWorld.made d.who kind mode)) l) : scall Tryz.prog 188 #[ptr db 0, vi kind, vi mode] R l := by
  refine scall_post (S188_ok ?_)
  unfold S188
  refine r_new fun b6 => ?_
  refine r_nil ?_
  refine r_fa ?_
  refine r_fa ?_
  refine r_fa ?_
  refine r_load1 (x := vi d.who.cred.uid) (knows_there _ hd) (by rfl) ?_
  refine r_nil ?_
  refine r_fa ?_
  refine r_fa ?_
  refine r_fa ?_
  refine r_load1 (x := vi d.who.cred.gid) (knows_there _ hd) (by rfl) ?_
  (repeat' (first | refine z0 ?_ | refine z1 ?_ | refine z2 ?_ | refine z3 ?_ | refine z4 ?_ | refine z5 ?_ | refine z6 ?_ | refine z7 (fun hg => ?_) (fun hg => ?_) | refine z8 (fun hg => ?_) (fun hg => ?_) | refine z9 ?_ | refine za ?_ | refine zb ?_ | refine zc ?_ | refine zd ?_ | refine ze ?_ | refine zf ?_ | refine zg ?_ | refine zh ?_ | refine zi (fun _ => ?_) | refine zj (fun _ => ?_) | refine zk ?_ | refine zl ?_ ?_ | refine zm ?_ | refine zn ?_ | refine zo ?_ | exact (rfl : _ = _)))
  exact ⟨l, Ent.drop _ _, h⟩
theorem dtarget_ok (hC : Cx l d.t d.m T M β) (hp : d.c.to.length ≤ 2 ^ 40) (h : R (vi (walkM T M d.root d.who.cwd d.who.cred d.c.to follow).2) (pt db (.cells (dC { d with g := (walkM T M d.root d.who.cwd d.who.cred d.c.to follow).1 }) ty) :: l)) : scall Tryz.prog 201 #[ptr db 0, .bool follow] R (pt db (.cells (dC d) ty) :: l) := by
  refine S201_ok ?_
  unfold S201
  refine r_nil ?_
  refine r_fa ?_
  refine r_fa ?_
  refine r_load1 (x := vstr' d.c.to) (knows_pt _ _ _) (by rfl) ?_
  refine dwalk_ok (knows_pt _ _ _) (hC.there _) hp ?_
  obtain ⟨W, hW⟩ : ∃ W, walkM T M d.root d.who.cwd d.who.cred d.c.to follow = W := ⟨_, rfl⟩
  rw [hW] at h ⊢
  (repeat' (first | refine z0 ?_ | refine z1 ?_ | refine z2 ?_ | refine z3 ?_ | refine z4 ?_ | refine z5 ?_ | refine z6 ?_ | refine z7 (fun hg => ?_) (fun hg => ?_) | refine z8 (fun hg => ?_) (fun hg => ?_) | refine z9 ?_ | refine za ?_ | refine zb ?_ | refine zc ?_ | refine zd ?_ | refine ze ?_ | refine zf ?_ | refine zg ?_ | refine zh ?_ | refine zi (fun _ => ?_) | refine zj (fun _ => ?_) | refine zk ?_ | refine zl ?_ ?_ | refine zm ?_ | refine zn ?_ | refine zo ?_ | exact (rfl : _ = _)))
  exact h
theorem drename_ok (hW : Cw d.t d.m T M β c r) (hp : d.c.path.length ≤ 2 ^ 40) (hp2 : d.c.to.length ≤ 2 ^ 40)
    (h : ∀ c' f g, PTree d.t (NWorld.rename ⟨T, M, d.root⟩ d.who d.c).T β c' → R (vi (NWorld.rename ⟨T, M, d.root⟩ d.who d.c).why) (pt db (.cells (dC { d with f := f, g := g }) ty) :: c' :: r)) :
    scall Tryz.prog 145 #[ptr db 0] R (pt db (.cells (dC d) ty) :: c :: r) := by
  refine scall_post (S145_ok ?_)
  unfold S145
  have hC := hW.cx
  refine r_nil ?_
  refine r_fa ?_
  refine r_fa ?_
  refine r_load1 (x := vstr' d.c.path) (knows_pt _ _ _) (by rfl) ?_
  refine dwalk_ok (knows_pt _ _ _) (hC.there _) hp ?_
  obtain ⟨F, hF⟩ : ∃ W, walkM T M d.root d.who.cwd d.who.cred d.c.path false = W := ⟨_, rfl⟩
  obtain ⟨G, hG⟩ : ∃ W, walkM T M d.root d.who.cwd d.who.cred d.c.to false = W := ⟨_, rfl⟩
  have hren : NWorld.rename ⟨T, M, d.root⟩ d.who d.c = if F.2 ≠ 0 then NWorld.no ⟨T, M, d.root⟩ F.2 else if G.2 ≠ 0 then NWorld.no ⟨T, M, d.root⟩ G.2
      else if NWorld.over ⟨T, M, d.root⟩ d.who F.1 G.1 ≠ 0 then NWorld.no ⟨T, M, d.root⟩ (NWorld.over ⟨T, M, d.root⟩ d.who F.1 G.1)
      else NWorld.tree ⟨T, M, d.root⟩ (T.move F.1.dir.node F.1.last G.1.dir.node G.1.last) := by
    unfold NWorld.rename NWorld.walk
    simp only [hF, hG]
  rw [hF]
  refine r_ext (by rfl) ?_
  refine r_ext (by rfl) ?_
  refine r_nil ?_
  refine r_fa ?_
  refine r_store (l' := pt db (.cells (dC { d with f := F.1 }) ty) :: c :: r) (knows_pt _ _ _) (by rfl) (by rfl) (by rfl) (by rfl) (change_pt _ _ _ _) ?_
  refine r_bin (v := .bool (F.2 != 0)) (by rfl) ?_
  by_cases h1 : F.2 ≠ 0
  · rw [if_pos h1] at hren
    have : (F.2 != 0) = true := bne_iff_ne.2 h1
    rw [this]
    refine r_guard_t ?_
    rw [hren] at h
    exact ⟨_, .refl _, h c _ _ hW.tree⟩
  rw [if_neg h1] at hren
  have : (F.2 != 0) = false := by simpa using h1
  rw [this]
  refine r_guard_f ?_
  refine dtarget_ok (d := { d with f := F.1 }) (follow := false) hC hp2 ?_
  simp only
  rw [hG]
  refine r_bin (v := .bool (G.2 != 0)) (by rfl) ?_
  by_cases h2 : G.2 ≠ 0
  · rw [if_pos h2] at hren
    have : (G.2 != 0) = true := bne_iff_ne.2 h2
    rw [this]
    refine r_guard_t ?_
    rw [hren] at h
    exact ⟨_, .refl _, h c _ _ hW.tree⟩
  rw [if_neg h2] at hren
  have : (G.2 != 0) = false := by simpa using h2
  rw [this]
  refine r_guard_f ?_
  refine dover_ok (d := { d with f := F.1, g := G.1 }) (knows_pt _ _ _) (hC.there _) ?_
  refine r_bin (v := .bool (NWorld.over ⟨T, M, d.root⟩ d.who F.1 G.1 != 0)) (by rfl) ?_
  by_cases h3 : NWorld.over ⟨T, M, d.root⟩ d.who F.1 G.1 ≠ 0
  · rw [if_pos h3] at hren
    have : (NWorld.over ⟨T, M, d.root⟩ d.who F.1 G.1 != 0) = true := bne_iff_ne.2 h3
    rw [this]
    refine r_guard_t ?_
    rw [hren] at h
    exact ⟨_, .refl _, h c _ _ hW.tree⟩
  rw [if_neg h3] at hren
  have : (NWorld.over ⟨T, M, d.root⟩ d.who F.1 G.1 != 0) = false := by simpa using h3
  rw [this]
  refine r_guard_f ?_
  (repeat' (first | refine z0 ?_ | refine z1 ?_ | refine z2 ?_ | refine z3 ?_ | refine z4 ?_ | refine z5 ?_ | refine z6 ?_ | refine z7 (fun hg => ?_) (fun hg => ?_) | refine z8 (fun hg => ?_) (fun hg => ?_) | refine z9 ?_ | refine za ?_ | refine zb ?_ | refine zc ?_ | refine zd ?_ | refine ze ?_ | refine zf ?_ | refine zg ?_ | refine zh ?_ | refine zi (fun _ => ?_) | refine zj (fun _ => ?_) | refine zk ?_ | refine zl ?_ ?_ | refine zm ?_ | refine zn ?_ | refine zo ?_ | exact (rfl : _ = _)))
  refine tmove_ok (take_there _ (take_here c r)) hW.tree hW.good hW.small (fun c' hc' => ?_)
  rw [hren] at h
  exact ⟨_, Ent.of_perm (by simp only [List.flatten_cons]; exact List.perm_append_comm_assoc _ _ _), h c' _ _ hc'⟩
theorem dmkdir_ok (hW : Cw d.t d.m T M β c r) (hp : d.c.path.length ≤ 2 ^ 40)
    (h : ∀ c' β', PTree d.t (NWorld.mkdir ⟨T, M, d.root⟩ d.who d.c).T β' c' → R (vi (NWorld.mkdir ⟨T, M, d.root⟩ d.who d.c).why) (pt db (.cells (dC d) ty) :: c' :: r)) :
    scall Tryz.prog 138 #[ptr db 0] R (pt db (.cells (dC d) ty) :: c :: r) := by
  refine scall_post (S138_ok ?_)
  unfold S138
  have hC := hW.cx
  refine r_nil ?_
  refine r_fa ?_
  refine r_fa ?_
  refine r_load1 (x := vstr' d.c.path) (knows_pt _ _ _) (by rfl) ?_
  refine dwalk_ok (knows_pt _ _ _) (hC.there _) hp ?_
  obtain ⟨F, hF⟩ : ∃ W, walkM T M d.root d.who.cwd d.who.cred d.c.path false = W := ⟨_, rfl⟩
  have hmk : NWorld.mkdir ⟨T, M, d.root⟩ d.who d.c = if F.2 ≠ 0 then NWorld.no ⟨T, M, d.root⟩ F.2 else if fresh F.1 true ≠ 0 then NWorld.no ⟨T, M, d.root⟩ (fresh F.1 true)
      else if !may d.who.cred (T.st F.1.dir.node) 2 then NWorld.no ⟨T, M, d.root⟩ 34
      else NWorld.tree ⟨T, M, d.root⟩ ((T.make F.1.dir.node F.1.last (NWorld.made d.who 1 (d.c.mode % 1024)) []).1, (T.make F.1.dir.node F.1.last (NWorld.made d.who 1 (d.c.mode % 1024)) []).2.2) := by
    unfold NWorld.mkdir NWorld.walk
    simp only [hF]
    rfl
  rw [hF]
  refine r_ext (by rfl) ?_
  refine r_ext (by rfl) ?_
  refine r_new fun b3 => ?_
  refine r_store (l' := pt b3 (.cells (fV F.1).cells 48) :: pt db (.cells (dC d) ty) :: c :: r) (knows_pt _ _ _) (by rfl) (by rfl) (by rfl) (by rfl) (change_pt _ _ _ _) ?_
  have k3 : ∀ σ : St, Knows (pt b3 (.cells (fV F.1).cells 48) :: σ) b3 (.cells #[vi F.1.dir.mount, vi F.1.dir.node, vstr' F.1.last, vi F.1.pl.mount, vi F.1.pl.node, .bool F.1.has, .bool F.1.slash] 48) := fun σ => knows_pt _ _ _
  have kd : Knows (pt b3 (.cells (fV F.1).cells 48) :: pt db (.cells (dC d) ty) :: c :: r) db (.cells (dC d) ty) := knows_there _ (knows_pt _ _ _)
  refine r_loadn (k3 _) (by rfl) ?_
  refine dfresh_ok (f := F.1) (slash := true) ?_
  refine r_buildSl (ds := [vi F.2, vi (fresh F.1 true)]) rfl (by omega) rfl (fun eb => ?_)
  refine first_ok (W := [F.2, fresh F.1 true]) (.inr ⟨eb, 0, _, _, _, _, rfl, by simp, by simp, knows_pt _ _ _, rfl, by simp; exact ⟨rfl, rfl⟩⟩) (by simp) ?_
  refine r_bin (v := .bool (firstE [F.2, fresh F.1 true] != 0)) (by rfl) ?_
  have hfe : firstE [F.2, fresh F.1 true] = if F.2 ≠ 0 then F.2 else fresh F.1 true := by
    simp only [firstE]
    by_cases ha : F.2 ≠ 0
    · rw [if_pos ha, if_pos ha]
    · rw [if_neg ha, if_neg ha]
      by_cases hb : fresh F.1 true ≠ 0
      · rw [if_pos hb]
      · rw [if_neg hb]; omega
  rw [hfe]
  have kde := knows_there (pt eb (.cells (List.toArray [vi F.2, vi (fresh F.1 true)]) 49)) kd
  by_cases h1 : F.2 ≠ 0
  · rw [if_pos h1] at hmk ⊢
    have : (F.2 != 0) = true := bne_iff_ne.2 h1
    rw [this]
    refine r_guard_t ?_
    rw [hmk] at h
    exact ⟨_, (Ent.drop _ _).trans (Ent.drop _ _), h c β hW.tree⟩
  rw [if_neg h1] at hmk ⊢
  by_cases h2 : fresh F.1 true ≠ 0
  · rw [if_pos h2] at hmk
    have : (fresh F.1 true != 0) = true := bne_iff_ne.2 h2
    rw [this]
    refine r_guard_t ?_
    rw [hmk] at h
    exact ⟨_, (Ent.drop _ _).trans (Ent.drop _ _), h c β hW.tree⟩
  rw [if_neg h2] at hmk
  have : (fresh F.1 true != 0) = false := by simpa using h2
  rw [this]
  refine r_guard_f ?_
  refine r_fa ?_
  refine r_loadn (knows_there _ (k3 _)) (by rfl) ?_
  refine din_ok (p := F.1.dir) kde (((hC.there _).there _).there _) ?_
  cases hm : may d.who.cred (T.st F.1.dir.node) 2 with
  | false =>
    rw [hm] at hmk
    refine r_bin (v := .bool true) (by rfl) ?_
    refine r_guard_t ?_
    rw [hmk] at h
    exact ⟨_, (Ent.drop _ _).trans (Ent.drop _ _), h c β hW.tree⟩
  | true =>
  rw [hm] at hmk
  simp only [Bool.not_true, Bool.false_eq_true, if_false] at hmk
  refine r_bin (v := .bool false) (by rfl) ?_
  refine r_guard_f ?_
  refine r_nil ?_
  refine r_fa ?_
  refine r_fa ?_
  refine r_load1 (x := ptr d.t 0) kde (by rfl) ?_
  refine r_fa ?_
  refine r_fa ?_
  refine r_load1 (x := vi F.1.dir.node) (knows_there _ (k3 _)) (by rfl) ?_
  refine r_fa ?_
  refine r_load1 (x := vstr' F.1.last) (knows_there _ (k3 _)) (by rfl) ?_
  refine r_nil ?_
  refine r_fa ?_
  refine r_fa ?_
  refine r_load1 (x := vi d.c.mode) kde (by rfl) ?_
  refine r_bin (by rfl) ?_
  have hmode : IntKind.i64.wrap ((BitVec.ofInt IntKind.i64.bits d.c.mode &&& BitVec.ofInt IntKind.i64.bits 1023).toNat : Int) = d.c.mode % 1024 := bits_mask d.c.mode 10 (by omega)
  rw [hmode]
  refine dmade_ok kde ?_
  refine r_and (r_load1 (x := vstr' F.1.last) (knows_there _ (k3 _)) (by rfl) rfl) ?_
  refine r_and (r_load1 (x := vi F.1.dir.node) (knows_there _ (k3 _)) (by rfl) rfl) ?_
  refine r_and (r_load1 (x := ptr d.t 0) kde (by rfl) rfl) ?_
  refine tmake_ok (text := []) (take_there _ (take_there _ (take_there _ (take_here c r)))) hW.tree hW.small hW.room.1 hW.room.2 (fun c' β' hc' => ?_)
  rw [hmk] at h
  refine r_ext (by rfl) ?_
  refine r_ext (by rfl) ?_
  refine ⟨_, ?_, h c' β' hc'⟩
  exact (ent_mid [_] _ _).trans ((ent_mid [_] _ _).trans (Ent.of_perm (by simp only [List.flatten_cons, List.singleton_append, List.flatten_append]; exact List.perm_append_comm_assoc _ _ _)))
end
end Go.Sl
namespace Go.Sl
variable [Ghost]
open Go Go.Proofs
def S105 (c : Value) (R : Value → SP) : SP := snew (Value.cells c) 186 fun a => sload none a fun d => snil d fun e => sfa 8 e fun f => sfa 0 f fun g => sload none g fun b => sbin Tryz.prog .none 3 .eql b (.int .i64 1) fun h => sguard h ( sload none a fun i => R (.func (.func 138) #[i] #[])) ( sbin Tryz.prog .none 3 .eql b (.int .i64 2) fun j => sguard j ( R (.func (.func 139) #[] #[a])) ( sbin Tryz.prog .none 3 .eql b (.int .i64 10) fun k => sguard k ( R (.func (.func 141) #[] #[a])) ( sbin Tryz.prog .none 3 .eql b (.int .i64 9) fun l => sguard l ( sload none a fun m => R (.func (.func 142) #[m] #[])) ( sbin Tryz.prog .none 3 .eql b (.int .i64 11) fun n => sguard n ( sload none a fun o => R (.func (.func 143) #[o] #[])) ( sbin Tryz.prog .none 3 .eql b (.int .i64 12) fun p => sguard p ( sload none a fun q => R (.func (.func 144) #[q] #[])) ( sbin Tryz.prog .none 3 .eql b (.int .i64 13) fun r => sguard r ( sload none a fun t => R (.func (.func 145) #[t] #[])) ( sbin Tryz.prog .none 3 .eql b (.int .i64 14) fun u => sguard u ( sload none a fun w => R (.func (.func 146) #[w] #[])) ( sbin Tryz.prog .none 3 .eql b (.int .i64 15) fun x => sguard x ( sload none a fun y => R (.func (.func 147) #[y] #[])) ( sbin Tryz.prog .none 3 .eql b (.int .i64 16) fun z => sguard z ( sload none a fun A => R (.func (.func 148) #[A] #[])) ( sbin Tryz.prog .none 3 .eql b (.int .i64 8) fun B => sguard B ( sload none a fun C => R (.func (.func 149) #[C] #[])) ( sbin Tryz.prog .none 3 .eql b (.int .i64 18) fun D => sguard D ( sload none a fun E => R (.func (.func 150) #[E] #[])) ( sbin Tryz.prog .none 3 .eql b (.int .i64 17) fun F => sguard F ( sload none a fun G => R (.func (.func 151) #[G] #[])) ( sbin Tryz.prog .none 3 .eql b (.int .i64 19) fun H => sguard H ( sload none a fun K => R (.func (.func 152) #[K] #[])) ( sload none a fun L => R (.func (.func 153) #[L] #[])))))))))))))))
theorem S105_ok {v0 : Value} {R : Value → SP} {l : St} (h : S105 v0 R l) : scall Tryz.prog 105 #[v0] R l := sok [v0] (.seq .leaf (.seq (.seq .leaf (.one (.seq .leaf (.cond (.seq .leaf .leaf) (.seq .leaf (.cond (.seq .leaf .leaf) (.seq .leaf (.cond (.seq .leaf .leaf) (.seq .leaf (.cond (.seq .leaf .leaf) (.seq .leaf (.cond (.seq .leaf .leaf) (.seq .leaf (.cond (.seq .leaf .leaf) (.seq .leaf (.cond (.seq .leaf .leaf) (.seq .leaf (.cond (.seq .leaf .leaf) (.seq .leaf (.cond (.seq .leaf .leaf) (.seq .leaf (.cond (.seq .leaf .leaf) (.seq .leaf (.cond (.seq .leaf .leaf) (.seq .leaf (.cond (.seq .leaf .leaf) (.seq .leaf (.cond (.seq .leaf .leaf) (.seq .leaf (.cond (.seq .leaf .leaf) .leaf)))))))))))))))))))))))))))))) (.seq .leaf .leaf))) Tryz.func105 (by kernel_rfl) (by kernel_rfl) h
end Go.Sl
namespace Go.Sl
variable [Ghost]
open Go Go.Proofs
def S3 (w T U : Value) (R : Value → SP) : SP := scall Tryz.prog 9 #[] fun x => sext x 0 fun V => sext x 1 fun W => snew #[.pointer none, .pointer none, .int .i64 0, .int .i64 0, .pointer none, .pointer none, .int .i64 0, .int .i64 0, .slice none 0 0] 35 fun a => sstore 9 a V <| sun .not W fun X => sguard X ( R (.bool false)) ( sfa 0 a fun Y => sfa 0 Y fun Z => sload none Z fun a0 => sfa 0 a fun a1 => sfa 1 a1 fun a2 => sload none a2 fun a3 => sfa 4 a fun a4 => sfa 0 a4 fun a5 => sload none a5 fun a6 => sfa 4 a fun a7 => sfa 1 a7 fun a8 => sload none a8 fun a9 => sbuildR [(0, 1), (1, 1), (2, 1), (3, 1)] #[.pointer none, .pointer none, .pointer none, .pointer none] #[(0, a0), (1, a3), (2, a6), (3, a9)] fun a10 => snew #[.pointer none, .pointer none, .pointer none, .pointer none] 39 fun i => sstore 4 i a10 <| sloop1 (.int .i64 0) fun a11 f => sjoin1 (fun a12 => sguard a12 ( sload (some 4) i fun y => sidx none 15 w f fun a13 => sload (some 15) a13 fun a14 => scall Tryz.prog 11 #[a14] fun a15 => sand (sload (some 4) i fun v' _ => v' = y) <| scall Tryz.prog 10 #[y, a15] fun _ => sbin Tryz.prog .none 3 .add f (.int .i64 1) fun a16 => a11 [a16]) ( scall Tryz.prog 12 #[T] fun z => scall Tryz.prog 12 #[U] fun A => sfa 0 a fun a17 => sfa 0 a17 fun j => sload none j fun k => sfa 0 a fun a18 => sfa 1 a18 fun l => sload none l fun m => sbuildR [(0, 1), (1, 1)] #[.int .i64 0, .int .i64 0] #[] fun a19 => scall Tryz.prog 14 #[] fun a20 => sand (sload none l fun v' _ => v' = m) <| sand (sload none j fun v' _ => v' = k) <| scall Tryz.prog 14 #[] fun a21 => sand (sload none l fun v' _ => v' = m) <| sand (sload none j fun v' _ => v' = k) <| scall Tryz.prog 13 #[k, m, a20, a21, a19, z, .bool false] fun B => sext B 0 fun a22 => sext B 1 fun a23 => snew #[.int .i64 0, .int .i64 0, .string ⟨#[]⟩, .int .i64 0, .int .i64 0, .bool false, .bool false] 48 fun d => sstore 7 d a22 <| sfa 0 a fun a24 => sfa 0 a24 fun n => sload none n fun o => sfa 0 a fun a25 => sfa 1 a25 fun p => sload none p fun q => sbuildR [(0, 1), (1, 1)] #[.int .i64 0, .int .i64 0] #[] fun a26 => scall Tryz.prog 14 #[] fun a27 => sand (sload none p fun v' _ => v' = q) <| sand (sload none n fun v' _ => v' = o) <| scall Tryz.prog 14 #[] fun a28 => sand (sload none p fun v' _ => v' = q) <| sand (sload none n fun v' _ => v' = o) <| scall Tryz.prog 13 #[o, q, a27, a28, a26, A, .bool false] fun C => sext C 0 fun a29 => sext C 1 fun a30 => snew #[.int .i64 0, .int .i64 0, .string ⟨#[]⟩, .int .i64 0, .int .i64 0, .bool false, .bool false] 48 fun e => sstore 7 e a29 <| sfa 0 a fun a31 => sfa 0 a31 fun a32 => sload none a32 fun a33 => sfa 0 d fun a34 => sfa 1 a34 fun a35 => sload none a35 fun a36 => sfa 2 d fun a37 => sload none a37 fun a38 => scall Tryz.prog 15 #[a33, a36, a38] fun D => sext D 0 fun b => sext D 1 fun _ => sfa 0 a fun a39 => sfa 0 a39 fun a40 => sload none a40 fun a41 => scall Tryz.prog 16 #[a41, b] fun E => sext E 0 fun a42 => sext E 1 fun _ => snew #[.int .i64 0, .int .i64 0, .int .i64 0, .int .i64 0, .int .i64 0, .int .i64 0, .int .i64 0] 42 fun g => sstore 7 g a42 <| sfa 0 a fun a43 => sfa 0 a43 fun a44 => sload none a44 fun b0 => scall Tryz.prog 17 #[b0, b] fun b1 => sfa 0 a fun b2 => sfa 0 b2 fun b3 => sload none b3 fun b4 => sfa 0 e fun b5 => sfa 1 b5 fun b6 => sload none b6 fun b7 => sfa 2 e fun b8 => sload none b8 fun b9 => scall Tryz.prog 15 #[b4, b7, b9] fun F => sext F 0 fun b10 => sext F 1 fun b11 => sfa 0 a fun r => sload (some 4) r fun t => scall Tryz.prog 14 #[] fun b12 => sand (sload (some 4) r fun v' _ => v' = t) <| sbuildR [(0, 2), (2, 2)] #[.int .i64 0, .int .i64 0, .int .i64 0, .int .i64 0] #[(0, b12)] fun b13 => scall Tryz.prog 19 #[.int .i64 13, z, A] fun b14 => sand (sload (some 4) r fun v' _ => v' = t) <| scall Tryz.prog 18 #[t, b13, b14] fun G => sext G 0 fun b15 => sext G 1 fun b16 => snew #[.int .i64 0, .int .i64 0, .slice none 0 0, .slice none 0 0, .int .i64 0, .int .i64 0, .int .i64 0, .int .i64 0, .int .i64 0, .int .i64 0, .int .i64 0] 63 fun H => snew #[.int .i64 0, .int .i64 0] 27 fun b17 => sstore 11 H b15 <| sstore 2 b17 b16 <| sfa 0 H fun b18 => sload none b18 fun b19 => sbin Tryz.prog .none 49 .neq b19 (.int .i64 0) fun b20 => sguard b20 ( scall Tryz.prog 20 #[] fun b21 => R b21) ( sfa 0 a fun b22 => sfa 0 b22 fun b23 => sload none b23 fun b24 => sfa 0 e fun b25 => sfa 1 b25 fun b26 => sload none b26 fun b27 => sfa 2 e fun b28 => sload none b28 fun b29 => scall Tryz.prog 15 #[b24, b27, b29] fun K => sext K 0 fun b30 => sext K 1 fun b31 => sfa 0 a fun b32 => sfa 0 b32 fun b33 => sload none b33 fun b34 => scall Tryz.prog 16 #[b34, b] fun L => sext L 0 fun b35 => sext L 1 fun _ => snew #[.int .i64 0, .int .i64 0, .int .i64 0, .int .i64 0, .int .i64 0, .int .i64 0, .int .i64 0] 42 fun h => sstore 7 h b35 <| sjoin1 (fun b36 => sguard b36 ( R (.bool false)) ( sjoin1 (fun b37 => sguard b37 ( scall Tryz.prog 20 #[] fun b38 => R b38) ( sfa 0 a fun b39 => sfa 0 b39 fun b40 => sload none b40 fun b41 => sfa 0 d fun b42 => sfa 1 b42 fun b43 => sload none b43 fun b44 => sfa 2 d fun c0 => sload none c0 fun c1 => scall Tryz.prog 15 #[b41, b44, c1] fun M => sext M 0 fun N => sext M 1 fun u => sun .not u fun c2 => sguard c2 ( sun .not u fun c3 => sguard c3 ( scall Tryz.prog 20 #[] fun c4 => R c4) ( sbin Tryz.prog .none 3 .eql N b fun c5 => sguard c5 ( scall Tryz.prog 20 #[] fun c6 => R c6) ( R (.bool false)))) ( sfa 0 d fun c7 => sfa 1 c7 fun c8 => sload none c8 fun c9 => sfa 0 e fun c10 => sfa 1 c10 fun c11 => sload none c11 fun c12 => sbin Tryz.prog .none 3 .eql c9 c12 fun c13 => sguard c13 ( sfa 2 d fun c14 => sload none c14 fun c15 => sfa 2 e fun c16 => sload none c16 fun c17 => sbin Tryz.prog .none 9 .eql c15 c17 fun c18 => sguard c18 ( sun .not u fun c19 => sguard c19 ( scall Tryz.prog 20 #[] fun c20 => R c20) ( sbin Tryz.prog .none 3 .eql N b fun c21 => sguard c21 ( scall Tryz.prog 20 #[] fun c22 => R c22) ( R (.bool false)))) ( R (.bool false))) ( R (.bool false))))) fun O => sguard b11 ( sbin Tryz.prog .none 3 .eql b10 b fun c23 => O [c23]) ( O [.bool false]))) fun c => sbin Tryz.prog .none 49 .neq a23 (.int .i64 0) fun c24 => sguard c24 ( c [.bool true]) ( sbin Tryz.prog .none 49 .neq a30 (.int .i64 0) fun c25 => sguard c25 ( c [.bool true]) ( sun .not b31 fun c26 => sguard c26 ( c [.bool true]) ( sbin Tryz.prog .none 3 .neq b30 b fun c27 => sguard c27 ( c [.bool true]) ( sfa 1 h fun c28 => sload none c28 fun c29 => sfa 1 g fun c30 => sload none c30 fun c31 => sbin Tryz.prog .none 3 .neq c29 c31 fun c32 => sguard c32 ( c [.bool true]) ( sfa 2 h fun c33 => sload none c33 fun c34 => sfa 2 g fun c35 => sload none c35 fun c36 => sbin Tryz.prog .none 3 .neq c34 c36 fun c37 => sguard c37 ( c [.bool true]) ( sfa 5 h fun c38 => sload none c38 fun c39 => sfa 5 g fun c40 => sload none c40 fun c41 => sbin Tryz.prog .none 3 .neq c39 c41 fun c42 => sguard c42 ( c [.bool true]) ( sfa 0 a fun c43 => sfa 0 c43 fun c44 => sload none c44 fun d0 => scall Tryz.prog 17 #[d0, b] fun d1 => scall Tryz.prog 21 #[b1, d1] fun d2 => sun .not d2 fun d3 => c [d3])))))))))) fun Q => slen .slice w fun d4 => sbin Tryz.prog .none 3 .lss f d4 fun d5 => sguard d5 ( sbin Tryz.prog .none 3 .lss f (.int .i64 40) fun d6 => Q [d6]) ( Q [.bool false]))
theorem S3_ok {v0 v1 v2 : Value} {R : Value → SP} {l : St} (h : S3 v0 v1 v2 R l) : scall Tryz.prog 3 #[v0, v1, v2] R l := sok [v0, v1, v2] (.seq .leaf (.seq .leaf (.seq (.seq .leaf (.cond (.seq .leaf .leaf) .leaf)) (.seq .leaf (.seq (.seq .leaf (.one (.loop [10, 51, 52, 53, 54, 55, 56, 57, 58, 59, 60, 61, 62, 63, 64, 65, 66, 67] [10] (.seq (.join [51, 52, 53, 54, 55, 56, 57, 58] [58] .leaf (.cond .leaf .leaf)) (.seq (.one (.draw [(0, []), (1, []), (2, []), (3, []), (4, []), (5, [0]), (6, [])])) .leaf))))) (.seq .leaf (.seq .leaf (.seq (.draw [(0, []), (1, []), (2, []), (3, []), (4, []), (5, []), (8, []), (9, []), (6, [2, 5]), (7, [2, 5]), (10, []), (11, []), (12, []), (13, []), (14, []), (15, []), (16, [])]) (.seq (.draw [(0, []), (1, []), (2, []), (3, []), (4, []), (5, []), (8, []), (9, []), (6, [2, 5]), (7, [2, 5]), (10, []), (11, []), (12, []), (13, []), (14, []), (15, []), (16, [])]) (.seq .leaf (.seq .leaf (.seq .leaf (.seq .leaf (.seq (.draw [(0, []), (1, []), (4, []), (5, []), (2, [1]), (3, []), (6, [1]), (7, []), (8, []), (9, []), (10, []), (11, []), (12, []), (13, []), (14, [])]) (.seq (.seq .leaf (.cond (.seq .leaf .leaf) .leaf)) (.seq .leaf (.seq .leaf (.seq (.join [172, 173, 174, 175, 176, 177, 178, 179, 180, 181, 182, 183, 184, 185, 186, 187, 188, 189, 190, 191, 192, 193, 194, 195, 196, 197, 198, 199, 200, 201, 202, 203, 204, 205, 206, 207, 208, 209, 210, 211, 212, 213, 214, 215, 216, 217] [217] .leaf (.cond (.seq .leaf .leaf) .leaf)) (.seq (.join [218, 219, 220, 221, 222, 223] [223] .leaf (.cond (.seq .leaf .leaf) .leaf)) (.seq .leaf (.seq .leaf .leaf))))))))))))))))))))) Tryz.func3 (by kernel_rfl) (by kernel_rfl) h
end Go.Sl
namespace Go.Sl
variable [Ghost]
open Go Go.Mo Go.Proofs
attribute [local irreducible] snil sfa sext sfield sguard sun sbin slen sload sstore snew snewObj sbuildR sbuildSlR smakeMapR smakeSlR slookup smapset srangeMap snext sentry scall scallv sextern sbuiltin sidx sindex sslice sconv srangeX sarg sand sjoin0 sjoin1 sjoin2 sloop0 sloop1 sloop2
abbrev wV (t m : Nat) (root : Plc) : Value := .agg #[ptr t 0, ptr m 0, vi root.mount, vi root.node]
abbrev whoV (w : Who) : Value := .agg #[vi w.cwd.mount, vi w.cwd.node, vi w.cred.uid, vi w.cred.gid]
abbrev callV' (c : NCall) (dv : Value) : Value := .agg #[vi c.op, vstr' c.path, vstr' c.to, vi c.fd, vi c.flags, vi c.mode, vi c.n, vi c.m, dv]
abbrev resV (why n : Int) (rd rn : Value) (s : Stt) : Value := .agg #[vi why, vi n, rd, rn, vi s.node, vi s.kind, vi s.mode, vi s.uid, vi s.gid, vi s.links, vi s.size]
abbrev nilV : Value := .slice none 0 0
section
variable {l r : St} {c : Chunk} {t m : Nat} {root : Plc} {who : Who} {nc : NCall} {dv : Value} {T : Tree} {M : Tab} {β : Int → Nat} {op : Int} {R : Value → SP}
theorem is_ok (h : R (.bool (isOp op)) l) : scall Tryz.prog 29 #[vi op] R l := by
  refine S29_ok ?_
  unfold S29
  have yes : isOp op = true → R (.bool true) l := fun e => e ▸ h
  have no : isOp op = false → R (.bool false) l := fun e => e ▸ h
  have step : ∀ (k : Int) (A B : SP), (op = k → A l) → (op ≠ k → B l) → sguard (.bool (op == k)) A B l := fun k A B h1 h2 => by
    by_cases hk : op = k
    · have : (op == k) = true := by simpa using hk
      rw [this]; exact r_guard_t (h1 hk)
    · have : (op == k) = false := by simpa using hk
      rw [this]; exact r_guard_f (h2 hk)
  refine r_join1 ?_
  have eqv : ∀ (k : Int) (kk : Value → SP), kk (.bool (op == k)) l → sbin Tryz.prog .none 3 .eql (vi op) (.int .i64 k) kk l := fun k kk h => r_bin (v := .bool (op == k)) (by rfl) h
  have hit : ∀ k : Int, op = k → isOp k = true → sguard (.bool (op == k)) (R (.bool true)) (R (.bool false)) l := fun k hk hi => by
    have : (op == k) = true := by simpa using hk
    rw [this]; exact r_guard_t (yes (hk ▸ hi))
  refine eqv 1 _ (step 1 _ _ (fun h => hit 1 h rfl) fun h1 => ?_)
  refine eqv 2 _ (step 2 _ _ (fun h => hit 2 h rfl) fun h2 => ?_)
  refine eqv 8 _ (step 8 _ _ (fun h => hit 8 h rfl) fun h8 => ?_)
  refine eqv 9 _ (step 9 _ _ (fun h => hit 9 h rfl) fun h9 => ?_)
  refine eqv 10 _ (step 10 _ _ (fun h => hit 10 h rfl) fun h10 => ?_)
  refine eqv 11 _ (step 11 _ _ (fun h => hit 11 h rfl) fun h11 => ?_)
  refine eqv 12 _ (step 12 _ _ (fun h => hit 12 h rfl) fun h12 => ?_)
  refine eqv 13 _ (step 13 _ _ (fun h => hit 13 h rfl) fun h13 => ?_)
  refine eqv 14 _ (step 14 _ _ (fun h => hit 14 h rfl) fun h14 => ?_)
  refine eqv 15 _ (step 15 _ _ (fun h => hit 15 h rfl) fun h15 => ?_)
  refine eqv 16 _ (step 16 _ _ (fun h => hit 16 h rfl) fun h16 => ?_)
  refine eqv 17 _ (step 17 _ _ (fun h => hit 17 h rfl) fun h17 => ?_)
  refine eqv 18 _ (step 18 _ _ (fun h => hit 18 h rfl) fun h18 => ?_)
  refine eqv 19 _ (step 19 _ _ (fun h => hit 19 h rfl) fun h19 => ?_)
  refine eqv 20 _ (step 20 _ _ (fun h => yes (h ▸ rfl)) fun h20 => ?_)
  refine no ?_
  unfold isOp
  simp only [Bool.or_eq_false_iff, Bool.and_eq_false_iff, decide_eq_false_iff_not]
  omega
theorem act2_ok {uf : Value} (huf : ∃ f a b, uf = .func f a b) (hdv : ∃ p n k, dv = .slice p n k) (hop : nc.op = 1 ∨ nc.op = 13) (hW : Cw t m T M β c r) (hp : nc.path.length ≤ 2 ^ 40) (hp2 : nc.to.length ≤ 2 ^ 40)
    (h : ∀ c' β', PTree t (NWorld.call ⟨T, M, root⟩ who nc).T β' c' → R (.tuple #[resV (NWorld.call ⟨T, M, root⟩ who nc).why 0 nilV nilV {}, plV {}]) (c' :: r)) :
    scall Tryz.prog 55 #[wV t m root, whoV who, callV' nc dv, uf] R (c :: r) := by
  obtain ⟨uff, ufa, ufb, rfl⟩ := huf
  obtain ⟨dp, dn, dk, rfl⟩ := hdv
  refine scall_post (S55_ok ?_)
  unfold S55
  refine r_new fun b4 => ?_
  refine r_new fun b5 => ?_
  refine r_new fun b6 => ?_
  refine r_new fun b8 => ?_
  refine r_new fun b9 => ?_
  obtain ⟨O, hO⟩ : ∃ O, NWorld.call ⟨T, M, root⟩ who nc = O := ⟨_, rfl⟩
  rw [hO] at h
  refine r_join1 ?_
  refine r_fa ?_
  refine r_load1 (x := ptr t 0) (by exact kn) (by rfl) ?_
  refine r_bin (v := .bool false) (by rfl) ?_
  refine r_guard_f ?_
  refine r_fa ?_
  refine r_load1 (x := ptr m 0) (by exact kn) (by rfl) ?_
  refine r_bin (v := .bool false) (by rfl) ?_
  refine r_guard_f ?_
  refine r_fa ?_
  refine r_load1 (x := vi nc.op) (knows_there _ (knows_there _ (knows_pt _ _ _))) (by rfl) ?_
  refine is_ok ?_
  have his : isOp nc.op = true := by rcases hop with e | e <;> rw [e] <;> rfl
  rw [his]
  refine r_not ?_
  refine r_guard_f ?_
  refine r_loadn (by exact kn) (by rfl) ?_
  refine r_loadn (by exact kn) (by rfl) ?_
  refine r_loadn (by exact kn) (by rfl) ?_
  refine r_build (by rfl) ?_
  refine r_new fun db => ?_
  obtain ⟨d, hd⟩ : ∃ d : DR, d = { t := t, m := m, root := root, who := who, c := nc, dv := .slice dp dn dk, uf := .func uff ufa ufb } := ⟨_, rfl⟩
  obtain ⟨rr, hrr⟩ : ∃ rr : St, rr = pt b9 (.cells #[.int .i64 0, .int .i64 0] 27) :: pt b8 (.cells #[.int .i64 0, .int .i64 0, .slice none 0 0, .slice none 0 0, .int .i64 0, .int .i64 0, .int .i64 0, .int .i64 0, .int .i64 0, .int .i64 0, .int .i64 0] 63) :: pt b6 (.cells (callV' nc (.slice dp dn dk)).cells 69) :: pt b5 (.cells (whoV who).cells 67) :: pt b4 (.cells (wV t m root).cells 29) :: r := ⟨_, rfl⟩
  have main : ∀ (c' : Chunk) (β' : Int → Nat) (b1 : Nat) (f g : Fnd), PTree t O.T β' c' → (sbin Tryz.prog .none 49 .neq (vi O.why) (.int .i64 0) fun v38 =>
  sguard v38 (
    sbuildR [(0, 1), (1, 1), (2, 1), (3, 1), (4, 7)] #[.int .i64 0, .int .i64 0, .slice none 0 0, .slice none 0 0, .int .i64 0, .int .i64 0, .int .i64 0, .int .i64 0, .int .i64 0, .int .i64 0, .int .i64 0] #[(0, (vi O.why))] fun v40 =>
    sbuildR [(0, 1), (1, 1)] #[.int .i64 0, .int .i64 0] #[] fun v41 =>
    sstore 11 (ptr b8 0) v40 <|
    sstore 2 (ptr b9 0) v41 <|
  sload (some 11) (ptr b8 0) fun vr_2 =>
  sload (some 2) (ptr b9 0) fun vr_3 =>
  (fun v l' => ∃ l2, Ent l' l2 ∧ R v l2) (.tuple #[vr_2, vr_3])) (
  snil (ptr db 0) fun v43 =>
  sfa 32 v43 fun v44 =>
  sload (some 11) v44 fun v45 =>
  snil (ptr db 0) fun v47 =>
  sfa 43 v47 fun v48 =>
  sload (some 2) v48 fun v49 =>
  sstore 11 (ptr b8 0) v45 <|
  sand (sload (some 2) v48 fun v' _ => v' = v49) <|
  sstore 2 (ptr b9 0) v49 <|
  sload (some 11) (ptr b8 0) fun vr_4 =>
  sload (some 2) (ptr b9 0) fun vr_5 =>
  (fun v l' => ∃ l2, Ent l' l2 ∧ R v l2) (.tuple #[vr_4, vr_5]))) (pt b1 (.cells #[ptr db 0] 186) :: pt db (.cells (dC { d with f := f, g := g }) 188) :: c' :: rr) := by
    intro c' β' b1 f g hc'
    have hh := h c' β' hc'
    subst hrr
    subst hd
    refine r_bin (v := .bool (O.why != 0)) (by rfl) ?_
    have k9 : ∀ {X Y Z : Chunk} {σ : St} {o : Obj}, Change (X :: Y :: Z :: pt b9 (.cells #[.int .i64 0, .int .i64 0] 27) :: σ) b9 o (X :: Y :: Z :: pt b9 o :: σ) := change_there _ (change_there _ (change_there _ (change_pt _ _ _ _)))
    by_cases hw : O.why = 0
    · have : (O.why != 0) = false := by simpa using hw
      rw [this]
      refine r_guard_f ?_
      refine r_nil ?_
      refine r_fa ?_
      refine r_loadn (knows_there _ (knows_pt _ _ _)) (by rfl) ?_
      refine r_nil ?_
      refine r_fa ?_
      refine r_loadn (knows_there _ (knows_pt _ _ _)) (by rfl) ?_
      refine r_store (knows_there _ (knows_there _ (knows_there _ (knows_there _ (knows_pt _ _ _))))) (by rfl) (by rfl) (by rfl) (by rfl) (change_there _ (change_there _ (change_there _ (change_there _ (change_pt _ _ _ _))))) ?_
      refine r_and (r_loadn (knows_there _ (knows_pt _ _ _)) (by rfl) rfl) ?_
      refine r_store (knows_there _ (knows_there _ (knows_there _ (knows_pt _ _ _)))) (by rfl) (by rfl) (by rfl) (by rfl) (change_there _ (change_there _ (change_there _ (change_pt _ _ _ _)))) ?_
      refine r_loadn (knows_there _ (knows_there _ (knows_there _ (knows_there _ (knows_pt _ _ _))))) (by rfl) ?_
      refine r_loadn (knows_there _ (knows_there _ (knows_there _ (knows_pt _ _ _)))) (by rfl) ?_
      refine ⟨c' :: r, ?_, by rw [hw] at hh; exact hh⟩
      exact (Ent.drop _ _).trans ((Ent.drop _ _).trans ((ent_mid [_] _ _).trans ((ent_mid [_] _ _).trans ((ent_mid [_] _ _).trans ((ent_mid [_] _ _).trans (ent_mid [_] _ _))))))
    · have : (O.why != 0) = true := bne_iff_ne.2 hw
      rw [this]
      refine r_guard_t ?_
      refine r_build (by rfl) ?_
      refine r_build (by rfl) ?_
      refine r_store (knows_there _ (knows_there _ (knows_there _ (knows_there _ (knows_pt _ _ _))))) (by rfl) (by rfl) (by rfl) (by rfl) (change_there _ (change_there _ (change_there _ (change_there _ (change_pt _ _ _ _))))) ?_
      refine r_store (knows_there _ (knows_there _ (knows_there _ (knows_pt _ _ _)))) (by rfl) (by rfl) (by rfl) (by rfl) (change_there _ (change_there _ (change_there _ (change_pt _ _ _ _)))) ?_
      refine r_loadn (knows_there _ (knows_there _ (knows_there _ (knows_there _ (knows_pt _ _ _))))) (by rfl) ?_
      refine r_loadn (knows_there _ (knows_there _ (knows_there _ (knows_pt _ _ _)))) (by rfl) ?_
      refine ⟨c' :: r, ?_, hh⟩
      exact (Ent.drop _ _).trans ((Ent.drop _ _).trans ((ent_mid [_] _ _).trans ((ent_mid [_] _ _).trans ((ent_mid [_] _ _).trans ((ent_mid [_] _ _).trans (ent_mid [_] _ _))))))
  have hW2 : Cw t m T M β c rr := ⟨hW.tree, by subst hrr; exact ((((hW.tab.there _).there _).there _).there _).there _, hW.good, hW.small, hW.room, hW.msz, hW.ok, hW.texts⟩
  show scall Tryz.prog 105 #[ptr db 0] _ (pt db (.cells (dC { t := t, m := m, root := root, who := who, c := nc, dv := .slice dp dn dk, uf := .func uff ufa ufb }) 188) :: _)
  refine scall_perm (l' := pt db (.cells (dC d) 188) :: c :: rr) (by
    subst hrr; subst hd
    refine perm_of_ct fun a => ?_
    simp only [List.flatten_cons, ct_append, Value.cells]
    omega) ?_
  refine S105_ok ?_
  unfold S105
  refine r_new fun b1 => ?_
  have k1 : Knows (pt b1 (.cells (Value.cells (ptr db 0)) 186) :: pt db (.cells (dC d) 188) :: c :: rr) b1 (.cells #[ptr db 0] 186) := knows_pt _ _ _
  refine r_load1 k1 (by rfl) ?_
  refine r_nil ?_
  refine r_fa ?_
  refine r_fa ?_
  refine r_load1 (x := vi d.c.op) (knows_there _ (knows_pt _ _ _)) (by rfl) ?_
  have hdc : d.c.op = nc.op := by rw [hd]
  have eqv : ∀ (k : Int) (kk : Value → SP) (σ : St), kk (.bool (d.c.op == k)) σ → sbin Tryz.prog .none 3 .eql (vi d.c.op) (.int .i64 k) kk σ := fun k kk σ h => r_bin (v := .bool (d.c.op == k)) (by rfl) h
  have hcall : ∀ k : Int, nc.op = k → NWorld.call ⟨T, M, root⟩ who nc = O := fun _ _ => hO
  have hdW : Cw d.t d.m T M β c rr := by subst hd; exact hW2
  rcases hop with e | e
  · have hO1 : NWorld.mkdir ⟨T, M, d.root⟩ d.who d.c = O := by
      rw [← hO, hd]
      unfold NWorld.call
      rw [if_pos e]
    refine eqv 1 _ _ ?_
    have : (d.c.op == 1) = true := by rw [hdc, e]; rfl
    rw [this]
    refine r_guard_t ?_
    refine r_load1 k1 (by rfl) ?_
    refine r_callv (by kernel_rfl) ?_
    refine scall_swap ?_
    refine scall_perm (l' := pt db (.cells (dC d) 188) :: c :: pt b1 (.cells (Value.cells (ptr db 0)) 186) :: rr) (by
      refine perm_of_ct fun a => ?_
      simp only [List.flatten_cons, ct_append]; omega) ?_
    refine scall_post ?_
    refine dmkdir_ok (d := d) ⟨hdW.tree, hdW.tab.there _, hdW.good, hdW.small, hdW.room, hdW.msz, hdW.ok, hdW.texts⟩ (by rw [hd]; exact hp) (fun c' β' hc' => ?_)
    rw [hO1] at hc' ⊢
    refine ⟨pt b1 (.cells #[ptr db 0] 186) :: pt db (.cells (dC d) 188) :: c' :: rr, Ent.of_perm (by
      refine perm_of_ct fun a => ?_
      simp only [List.flatten_cons, ct_append, Value.cells]; omega), ?_⟩
    have := main c' β' b1 {} {} (by rw [hd] at hc'; exact hc')
    have hdd : { d with f := {}, g := {} } = d := by rw [hd]
    rw [hdd] at this
    exact this
  · have hO1 : NWorld.rename ⟨T, M, d.root⟩ d.who d.c = O := by
      rw [← hO, hd]
      unfold NWorld.call
      rw [if_neg (by rw [e]; decide), if_neg (by rw [e]; decide), if_neg (by rw [e]; decide), if_neg (by rw [e]; decide), if_neg (by rw [e]; decide), if_pos e]
    have skip : ∀ (k : Int) (A B : SP) (σ : St), k ≠ 13 → B σ → sguard (.bool (d.c.op == k)) A B σ := fun k A B σ hk hB => by
      have : (d.c.op == k) = false := by rw [hdc, e]; simpa using fun h => hk h.symm
      rw [this]; exact r_guard_f hB
    refine eqv 1 _ _ (skip 1 _ _ _ (by decide) ?_)
    refine eqv 2 _ _ (skip 2 _ _ _ (by decide) ?_)
    refine eqv 10 _ _ (skip 10 _ _ _ (by decide) ?_)
    refine eqv 9 _ _ (skip 9 _ _ _ (by decide) ?_)
    refine eqv 11 _ _ (skip 11 _ _ _ (by decide) ?_)
    refine eqv 12 _ _ (skip 12 _ _ _ (by decide) ?_)
    refine eqv 13 _ _ ?_
    have : (d.c.op == 13) = true := by rw [hdc, e]; rfl
    rw [this]
    refine r_guard_t ?_
    refine r_load1 k1 (by rfl) ?_
    refine r_callv (by kernel_rfl) ?_
    refine scall_swap ?_
    refine scall_perm (l' := pt db (.cells (dC d) 188) :: c :: pt b1 (.cells (Value.cells (ptr db 0)) 186) :: rr) (by
      refine perm_of_ct fun a => ?_
      simp only [List.flatten_cons, ct_append]; omega) ?_
    refine scall_post ?_
    refine drename_ok (d := d) ⟨hdW.tree, hdW.tab.there _, hdW.good, hdW.small, hdW.room, hdW.msz, hdW.ok, hdW.texts⟩ (by rw [hd]; exact hp) (by rw [hd]; exact hp2) (fun c' f g hc' => ?_)
    rw [hO1] at hc' ⊢
    refine ⟨pt b1 (.cells #[ptr db 0] 186) :: pt db (.cells (dC { d with f := f, g := g }) 188) :: c' :: rr, Ent.of_perm (by
      refine perm_of_ct fun a => ?_
      simp only [List.flatten_cons, ct_append, Value.cells]; omega), ?_⟩
    exact main c' β b1 f g (by rw [hd] at hc'; exact hc')
theorem do2_ok (hdv : ∃ p n k, dv = .slice p n k) (hop : nc.op = 1 ∨ nc.op = 13) (hW : Cw t m T M β c r) (hp : nc.path.length ≤ 2 ^ 40) (hp2 : nc.to.length ≤ 2 ^ 40)
    (h : ∀ c' β', PTree t (NWorld.call ⟨T, M, root⟩ who nc).T β' c' → R (.tuple #[resV (NWorld.call ⟨T, M, root⟩ who nc).why 0 nilV nilV {}, plV {}]) (c' :: r)) :
    scall Tryz.prog 18 #[wV t m root, whoV who, callV' nc dv] R (c :: r) := by
  obtain ⟨dp, dn, dk, rfl⟩ := hdv
  refine scall_post (S18_ok ?_)
  unfold S18
  refine r_new fun b3 => ?_
  refine r_new fun b4 => ?_
  refine r_new fun b5 => ?_
  refine r_new fun b6 => ?_
  refine r_new fun b7 => ?_
  refine r_loadn (by exact kn) (by rfl) ?_
  refine r_loadn (by exact kn) (by rfl) ?_
  refine r_loadn (by exact kn) (by rfl) ?_
  obtain ⟨O, hO⟩ : ∃ O, NWorld.call ⟨T, M, root⟩ who nc = O := ⟨_, rfl⟩
  refine scall_perm (l' := c :: pt b7 (.cells #[.int .i64 0, .int .i64 0] 27) :: pt b6 (.cells #[.int .i64 0, .int .i64 0, .slice none 0 0, .slice none 0 0, .int .i64 0, .int .i64 0, .int .i64 0, .int .i64 0, .int .i64 0, .int .i64 0, .int .i64 0] 63) :: pt b5 (.cells (callV' nc (.slice dp dn dk)).cells 69) :: pt b4 (.cells (whoV who).cells 67) :: pt b3 (.cells (wV t m root).cells 29) :: r) (by
      refine perm_of_ct fun a => ?_
      simp only [List.flatten_cons, ct_append]; omega) ?_
  refine act2_ok (root := root) (who := who) ⟨_, _, _, rfl⟩ ⟨_, _, _, rfl⟩ hop ⟨hW.tree, ((((hW.tab.there _).there _).there _).there _).there _, hW.good, hW.small, hW.room, hW.msz, hW.ok, hW.texts⟩ hp hp2 (fun c' β' hc' => ?_)
  have hh := h c' β' hc'
  rw [hO] at hh ⊢
  refine r_ext (by rfl) ?_
  refine r_ext (by rfl) ?_
  refine r_store (knows_there _ (knows_there _ (knows_pt _ _ _))) (by rfl) (by rfl) (by rfl) (by rfl) (change_there _ (change_there _ (change_pt _ _ _ _))) ?_
  refine r_store (knows_there _ (knows_pt _ _ _)) (by rfl) (by rfl) (by rfl) (by rfl) (change_there _ (change_pt _ _ _ _)) ?_
  refine r_loadn (knows_there _ (knows_there _ (knows_pt _ _ _))) (by rfl) ?_
  refine r_loadn (knows_there _ (knows_pt _ _ _)) (by rfl) ?_
  exact ⟨c' :: r, (ent_mid [_] _ _).trans ((ent_mid [_] _ _).trans ((ent_mid [_] _ _).trans ((ent_mid [_] _ _).trans (ent_mid [_] _ _)))), hh⟩
end
end Go.Sl
namespace Go.Sl
variable [Ghost]
open Go Go.Mo Go.Proofs
attribute [local irreducible] snil sfa sext sfield sguard sun sbin slen sload sstore snew snewObj sbuildR sbuildSlR smakeMapR smakeSlR slookup smapset srangeMap snext sentry scall scallv sextern sbuiltin sidx sindex sslice sconv srangeX sarg sand sjoin0 sjoin1 sjoin2 sloop0 sloop1 sloop2
def ents (L : List (Str × Int)) : List Value := L.flatMap fun p => [vstr' p.1, vi p.2]
theorem ents_len : ∀ L : List (Str × Int), (ents L).length = L.length * 2
  | [] => rfl
  | p :: L => by have := ents_len L; simp only [ents, List.flatMap_cons, List.length_append, List.length_cons, List.length_nil] at *; omega
theorem ents_app (A B : List (Str × Int)) : ents (A ++ B) = ents A ++ ents B := by simp [ents]
theorem ents_cons (p : Str × Int) (L : List (Str × Int)) : ents (p :: L) = [vstr' p.1, vi p.2] ++ ents L := by simp [ents]
theorem ents_get : ∀ (L : List (Str × Int)) (i : Nat) (p : Str × Int), L[i]? = some p → (ents L)[i * 2 + 0]? = some (vstr' p.1) ∧ (ents L)[i * 2 + 1]? = some (vi p.2)
  | [], i, p, h => by simp at h
  | q :: L, 0, p, h => by
    simp only [List.getElem?_cons_zero, Option.some.injEq] at h
    subst h
    rw [ents_cons]; exact ⟨rfl, rfl⟩
  | q :: L, i + 1, p, h => by
    have := ents_get L i p (by simpa using h)
    rw [ents_cons]
    have e0 : (i + 1) * 2 + 0 = i * 2 + 0 + 1 + 1 := by omega
    have e1 : (i + 1) * 2 + 1 = i * 2 + 1 + 1 + 1 := by omega
    rw [e0, e1]
    simp only [List.cons_append, List.nil_append, List.getElem?_cons_succ]
    exact this
abbrev rCells (n : Int) (x : Nd) (lv : Value) : Array Value := #[vi n, vi x.kind, vi x.mode, vi x.uid, vi x.gid, vi 0, vi 0, vstr' x.text, lv, vi x.up, vi x.links, vi x.holds, vi x.file]
def RNode (n : Int) (x : Nd) (b : Nat) (c : Chunk) : Prop := ∃ ty lv lc, c = (b, .cells (rCells n x lv) ty) :: lc ∧ SlC 2 lv x.names.length (ents x.names) lc
inductive RNodes (γ : Int → Nat) : List (Int × Nd) → Chunk → Prop
  | nil : RNodes γ [] []
  | cons {n x c xs cs} : RNode n x (γ n) c → RNodes γ xs cs → RNodes γ ((n, x) :: xs) (c ++ cs)
def ptrsR {α : Type} (γ : Int → Nat) : Nat → List (Option α) → List Value
  | _, [] => []
  | i, none :: r => .pointer none :: ptrsR γ (i + 1) r
  | i, some _ :: r => ptr (γ i) 0 :: ptrsR γ (i + 1) r
theorem ptrsR_get {α : Type} (γ : Int → Nat) : ∀ (i : Nat) (xs : List (Option α)) (k : Nat) (o : Option α), nth xs k = some o → (ptrsR γ i xs)[k]? = some (match o with | none => .pointer none | some _ => ptr (γ ((i + k : Nat) : Int)) 0)
  | i, [], k, o, h => by simp [nth] at h
  | i, y :: r, 0, o, h => by
    simp only [nth, Option.some.injEq] at h
    subst h
    cases y <;> rfl
  | i, y :: r, k + 1, o, h => by
    have := ptrsR_get γ (i + 1) r k o h
    have e : i + (k + 1) = i + 1 + k := by omega
    rw [e]
    cases y <;> simpa [ptrsR] using this
def RFile (s : Int) (b : Nat) (c : Chunk) : Prop := ∃ ty bv hs bc bytes, c = (b, .cells (bv :: hs).toArray ty) :: bc ∧ hs.length = 64 ∧ SlC 1 bv s.toNat bytes bc ∧ 0 ≤ s
inductive RFiles (φ : Int → Nat) : List (Int × Int) → Chunk → Prop
  | nil : RFiles φ [] []
  | cons {n s c xs cs} : RFile s (φ n) c → RFiles φ xs cs → RFiles φ ((n, s) :: xs) (c ++ cs)
def RPool (p : Nat) (P : Pool) (c : Chunk) : Prop :=
  ∃ ty lv lc xs cs φ, c.Perm ((p, .cells #[vi P.blocks, lv] ty) :: (lc ++ cs)) ∧ SlC 1 lv P.fs.length (ptrsR φ 1 P.fs) lc ∧ xs.Perm (liveFrom 1 P.fs) ∧ RFiles φ xs cs
def RTree (t : Nat) (T : Tree) (γ : Int → Nat) (c : Chunk) : Prop :=
  ∃ ty p nv nc xs cs pc, c.Perm ((t, .cells #[vi T.most, ptr p 0, nv] ty) :: (nc ++ (pc ++ cs))) ∧ SlC 1 nv T.all.length (ptrsR γ 1 T.all) nc ∧ xs.Perm T.lives ∧ RNodes γ xs cs ∧ RPool p T.pool pc
def RAt (l : St) (t : Nat) (T : Tree) (γ : Int → Nat) : Prop := ∃ c, In l c ∧ RTree t T γ c
theorem RAt.mono {l l' : St} {t : Nat} {T : Tree} {γ : Int → Nat} (h : RAt l t T γ) (hl : ∀ b o, Knows l b o → Knows l' b o) : RAt l' t T γ := let ⟨c, h1, h2⟩ := h; ⟨c, fun b o hb => hl b o (h1 b o hb), h2⟩
theorem RAt.there {l : St} {t : Nat} {T : Tree} {γ : Int → Nat} (h : RAt l t T γ) (d : Chunk) : RAt (d :: l) t T γ := h.mono fun _ _ => knows_there d
theorem r_at {l r : St} {t : Nat} {T : Tree} {γ : Int → Nat} {c : Chunk} (hk : Take l c r) (h : RTree t T γ c) : RAt l t T γ := ⟨c, .of_take hk, h⟩
def RNodeAt (l : St) (b : Nat) (n : Int) (x : Nd) : Prop := ∃ ty lv, Knows l b (.cells (rCells n x lv) ty) ∧ SlAt l 2 lv x.names.length (ents x.names)
theorem SlAt.mono {l l' : St} {sz n : Nat} {v : Value} {xs : List Value} (h : SlAt l sz v n xs) (hl : ∀ b o, Knows l b o → Knows l' b o) : SlAt l' sz v n xs := by
  obtain ⟨h1, h2, h3 | ⟨b, o, cap, cs, ty, fz, h4, h5, h6⟩⟩ := h
  · exact ⟨h1, h2, .inl h3⟩
  · exact ⟨h1, h2, .inr ⟨b, o, cap, cs, ty, fz, h4, hl _ _ h5, h6⟩⟩
theorem rnodes_at {γ : Int → Nat} {xs : List (Int × Nd)} {cs : Chunk} (h : RNodes γ xs cs) : ∀ {n : Int} {x : Nd}, (n, x) ∈ xs → ∃ c, RNode n x (γ n) c ∧ ∀ p ∈ c, p ∈ cs := by
  induction h with
  | nil => intro n x h; cases h
  | @cons m y c xs cs hp hr ih =>
    intro n x hx
    rcases List.mem_cons.1 hx with e | hx2
    · simp only [Prod.mk.injEq] at e
      obtain ⟨rfl, rfl⟩ := e
      exact ⟨c, hp, fun p hp => List.mem_append_left _ hp⟩
    · obtain ⟨c', h1, h3⟩ := ih hx2
      exact ⟨c', h1, fun p hp => List.mem_append_right _ (h3 p hp)⟩
theorem rfiles_at {φ : Int → Nat} {xs : List (Int × Int)} {cs : Chunk} (h : RFiles φ xs cs) : ∀ {n s : Int}, (n, s) ∈ xs → ∃ c, RFile s (φ n) c ∧ ∀ p ∈ c, p ∈ cs := by
  induction h with
  | nil => intro n x h; cases h
  | @cons m y c xs cs hp hr ih =>
    intro n x hx
    rcases List.mem_cons.1 hx with e | hx2
    · simp only [Prod.mk.injEq] at e
      obtain ⟨rfl, rfl⟩ := e
      exact ⟨c, hp, fun p hp => List.mem_append_left _ hp⟩
    · obtain ⟨c', h1, h3⟩ := ih hx2
      exact ⟨c', h1, fun p hp => List.mem_append_right _ (h3 p hp)⟩
theorem RNode.at {l : St} {n : Int} {x : Nd} {b : Nat} {c : Chunk} (h : RNode n x b c) (hin : ∀ p ∈ c, Knows l p.1 p.2) : RNodeAt l b n x := by
  obtain ⟨ty, lv, lc, rfl, hs⟩ := h
  exact ⟨ty, lv, hin _ (.head _), hs.at fun b o hb => hin (b, o) (.tail _ hb)⟩
def RPoolAt (l : St) (p : Nat) (P : Pool) : Prop := ∃ c, In l c ∧ RPool p P c
theorem RAt.open {l : St} {t : Nat} {T : Tree} {γ : Int → Nat} (h : RAt l t T γ) : ∃ ty p nv, Knows l t (.cells #[vi T.most, ptr p 0, nv] ty) ∧ SlAt l 1 nv T.all.length (ptrsR γ 1 T.all) ∧
    (∀ n x, T.at n = some x → RNodeAt l (γ n) n x) ∧ RPoolAt l p T.pool := by
  obtain ⟨c, hin, ty, p, nv, nc, xs, cs, pc, hc, hs, hxs, hn, hp⟩ := h
  have hin : In l ((t, .cells #[vi T.most, ptr p 0, nv] ty) :: (nc ++ (pc ++ cs))) := fun b o hb => hin b o ((hc.mem_iff).2 hb)
  refine ⟨ty, p, nv, hin _ _ (.head _), hs.at fun b o hb => hin b o (by simp [hb]), fun n x ha => ?_, pc, fun b o hb => hin b o (by simp [hb]), hp⟩
  obtain ⟨c', h3, h5⟩ := rnodes_at hn (hxs.mem_iff.2 ((geti_live T.all n x).1 ha))
  exact h3.at fun q hq => hin q.1 q.2 (by have := h5 q hq; simp [this])
section
variable {l : St} {t p b : Nat} {T : Tree} {γ : Int → Nat} {n dir : Int} {x : Nd} {s : Str} {P : Pool} {R : Value → SP}
theorem rat_ok2 (hT : RAt l t T γ) (hlen : T.all.length ≤ 2 ^ 30) (h1 : ∀ x, T.at n = some x → RNodeAt l (γ n) n x → R (ptr (γ n) 0) l) (h2 : T.at n = none → R (.pointer none) l) : scall Tryz.prog 58 #[ptr t 0, vi n] R l := by
  refine S58_ok ?_
  unfold S58
  obtain ⟨ty, pp, nv, hk, hs, hn, -⟩ := hT.open
  refine r_join1 ?_
  refine r_bin (by rfl) ?_
  refine r_guard_d (fun hg => ?_) (fun hg => ?_)
  · refine r_guard_t ?_
    refine h2 ?_
    cases ha : T.at n with
    | none => rfl
    | some x =>
      obtain ⟨k, hk1, hk2⟩ := geti_nth ha
      omega
  refine r_nil ?_
  refine r_fa ?_
  refine r_load1 (x := nv) hk (by rfl) ?_
  refine r_slen hs ?_
  refine r_bin (by rfl) ?_
  refine r_guard_d (fun hg2 => ?_) (fun hg2 => ?_)
  · refine h2 ?_
    cases ha : T.at n with
    | none => rfl
    | some x =>
      obtain ⟨k, hk1, hk2⟩ := geti_nth ha
      have := nth_lt _ _ _ hk2
      omega
  refine r_nil ?_
  refine r_fa ?_
  refine r_load1 (x := nv) hk (by rfl) ?_
  refine r_bin (by rfl) ?_
  obtain ⟨k, rfl⟩ : ∃ k : Nat, n = ((k + 1 : Nat) : Int) := ⟨(n - 1).toNat, by omega⟩
  have hw : IntKind.i64.wrap (((k + 1 : Nat) : Int) - 1) = (k : Int) := by rw [wrap_id (by omega) (by omega)]; omega
  rw [hw]
  have hkl : k < T.all.length := by omega
  obtain ⟨o, ho⟩ : ∃ o, nth T.all k = some o := by rw [nth_eq]; exact ⟨_, List.getElem?_eq_getElem hkl⟩
  have hg3 := ptrsR_get γ 1 T.all k o ho
  refine r_elem1 hs hg3 ?_
  have e1 : ((1 + k : Nat) : Int) = ((k + 1 : Nat) : Int) := by omega
  cases o with
  | none =>
    refine h2 ?_
    show geti T.all (Int.ofNat (k + 1)) = none
    unfold geti; simp only [ho]
  | some x =>
    have hx : T.at ((k + 1 : Nat) : Int) = some x := nth_geti ho
    show R (ptr (γ ((1 + k : Nat) : Int)) 0) l
    rw [e1]
    exact h1 x hx (hn _ x hx)
theorem rat_ok (hT : RAt l t T γ) (hS : Small T) (h1 : ∀ x, T.at n = some x → RNodeAt l (γ n) n x → R (ptr (γ n) 0) l) (h2 : T.at n = none → R (.pointer none) l) : scall Tryz.prog 58 #[ptr t 0, vi n] R l := rat_ok2 hT hS.all h1 h2
theorem rdir_ok (hT : RAt l t T γ) (hS : Small T) (h1 : ∀ x, T.dir n = some x → T.at n = some x → x.kind = 1 → RNodeAt l (γ n) n x → R (ptr (γ n) 0) l) (h2 : T.dir n = none → R (.pointer none) l) : scall Tryz.prog 78 #[ptr t 0, vi n] R l := by
  refine S78_ok ?_
  unfold S78
  refine rat_ok hT hS (fun x hx hn => ?_) (fun hx => ?_)
  · obtain ⟨ty, lv, hk, hs⟩ := hn
    refine r_join1 ?_
    refine r_bin (v := .bool false) (by rfl) ?_
    refine r_guard_f ?_
    refine r_nil ?_
    refine r_fa ?_
    refine r_fa ?_
    refine r_load1 (x := vi x.kind) hk (by rfl) ?_
    refine r_bin (v := .bool (x.kind != 1)) (by rfl) ?_
    by_cases hxk : x.kind = 1
    · have : (x.kind != 1) = false := by simpa using hxk
      rw [this]
      refine r_guard_f ?_
      exact h1 x (by simp [Tree.dir, hx, hxk]) hx hxk ⟨ty, lv, hk, hs⟩
    · have : (x.kind != 1) = true := bne_iff_ne.2 hxk
      rw [this]
      refine r_guard_t ?_
      exact h2 (by simp [Tree.dir, hx, hxk])
  · refine r_join1 ?_
    refine r_bin (v := .bool true) (by rfl) ?_
    refine r_guard_t ?_
    refine r_guard_t ?_
    exact h2 (by simp [Tree.dir, hx])
def posS (s : Str) : List (Str × Int) → Option Nat
  | [] => none
  | (t, _) :: r => if s = t then some 0 else (posS s r).map (· + 1)
theorem posS_get : ∀ (s : Str) (L : List (Str × Int)), getS s L = match posS s L with | none => none | some i => L[i]?.map (·.2)
  | s, [] => rfl
  | s, (t, m) :: r => by
    have ih := posS_get s r
    simp only [getS, posS]
    by_cases h : s = t
    · simp [h]
    · simp only [h, if_false, ih]
      cases posS s r with
      | none => rfl
      | some i => simp
theorem posS_lt : ∀ {s : Str} {L : List (Str × Int)} {i : Nat}, posS s L = some i → i < L.length
  | s, [], i, h => by cases h
  | s, (t, m) :: r, i, h => by
    simp only [posS] at h
    split at h
    · cases h; simp
    · cases hp : posS s r with
      | none => rw [hp] at h; cases h
      | some j =>
        rw [hp] at h; cases h
        have := posS_lt hp
        simp; omega
theorem posS_split : ∀ {s : Str} {L : List (Str × Int)} {i : Nat}, (∀ j < i, ∀ q, L[j]? = some q → q.1 ≠ s) → (∃ q, L[i]? = some q ∧ q.1 = s) → posS s L = some i
  | s, [], i, _, ⟨q, h, _⟩ => by simp at h
  | s, (t, m) :: r, 0, _, ⟨q, h, hq⟩ => by
    simp at h; subst h
    have hq' : s = t := hq.symm
    simp [posS, hq']
  | s, (t, m) :: r, i + 1, h0, ⟨q, h, hq⟩ => by
    have ht : s ≠ t := fun e => h0 0 (by omega) (t, m) rfl e.symm
    have := posS_split (s := s) (L := r) (i := i) (fun j hj q hq => h0 (j + 1) (by omega) q (by simpa using hq)) ⟨q, by simpa using h, hq⟩
    simp [posS, ht, this]
theorem posS_no : ∀ {s : Str} {L : List (Str × Int)}, (∀ j < L.length, ∀ q, L[j]? = some q → q.1 ≠ s) → posS s L = none
  | s, [], _ => rfl
  | s, (t, m) :: r, h0 => by
    have ht : s ≠ t := fun e => h0 0 (by simp) (t, m) rfl e.symm
    have := posS_no (s := s) (L := r) (fun j hj q hq => h0 (j + 1) (by simp; omega) q (by simpa using hq))
    simp [posS, ht, this]
def posI (s : Str) (L : List (Str × Int)) : Int := match posS s L with
  | none => -1
  | some i => (i : Int)
theorem rnfind_ok (hn : RNodeAt l b n x) (hb : x.names.length ≤ 2 ^ 30) (h : R (vi (posI s x.names)) l) : scall Tryz.prog 80 #[ptr b 0, vstr' s] R l := by
  refine S80_ok ?_
  unfold S80
  obtain ⟨ty, lv, hk, hs⟩ := hn
  refine r_loop1 (fun k w σ => ∃ i : Nat, σ = l ∧ w = vi i ∧ i ≤ x.names.length ∧ k = x.names.length - i ∧ ∀ j < i, ∀ q, x.names[j]? = some q → q.1 ≠ s) x.names.length ⟨0, rfl, rfl, Nat.zero_le _, rfl, fun j hj => absurd hj (by omega)⟩ ?_
  rintro k w σ ⟨i, hσ, rfl, hi, rfl, h0⟩
  have hσ' := hσ.symm
  subst hσ'
  refine r_nil ?_
  refine r_fa ?_
  refine r_load1 (x := lv) hk (by rfl) ?_
  refine r_slen hs ?_
  refine r_bin (by rfl) ?_
  refine r_guard_d (fun hg => ?_) (fun hg => ?_)
  · have hlt : i < x.names.length := by omega
    obtain ⟨q, hq⟩ : ∃ q, x.names[i]? = some q := ⟨_, List.getElem?_eq_getElem hlt⟩
    refine r_nil ?_
    refine r_fa ?_
    refine r_load1 (x := lv) hk (by rfl) ?_
    refine r_fld hs hlt (by omega) (ents_get _ i q hq).1 ?_
    refine r_streq (a := q.1) (b := s) ?_
    by_cases he : q.1 = s
    · have : decide (q.1 = s) = true := by simpa using he
      rw [this]
      refine r_guard_t ?_
      have : posI s x.names = (i : Int) := by unfold posI; rw [posS_split h0 ⟨q, hq, he⟩]
      rw [this] at h; exact h
    · have : decide (q.1 = s) = false := by simpa using he
      rw [this]
      refine r_guard_f ?_
      refine r_bin (by rfl) ?_
      have hw : IntKind.i64.wrap ((i : Int) + 1) = ((i + 1 : Nat) : Int) := by rw [wrap_id (by omega) (by omega)]; simp
      rw [hw]
      refine ⟨x.names.length - (i + 1), by omega, i + 1, rfl, rfl, by omega, rfl, fun j hj q2 hq2 => ?_⟩
      by_cases hji : j = i
      · subst hji; rw [hq] at hq2; cases hq2; exact he
      · exact h0 j (by omega) q2 hq2
  · have hiL : i = x.names.length := by omega
    have : posI s x.names = -1 := by unfold posI; rw [posS_no (fun j hj q hq => h0 j (by omega) q hq)]
    rw [this] at h; exact h
theorem rgone_ok (hT : RAt l t T γ) (hS : Small T) (hx : T.at n = some x) (h : R (.bool (!namedB n x)) l) (hl : 0 ≤ x.links) : scall Tryz.prog 81 #[ptr t 0, vi n] R l := by
  refine S81_ok ?_
  unfold S81
  refine r_bin (v := .bool (n != 1)) (by rfl) ?_
  by_cases h1 : n = 1
  · have : (n != 1) = false := by simpa using h1
    rw [this]
    refine r_guard_f ?_
    have : (!namedB n x) = false := by simp [namedB, h1]
    rw [this] at h; exact h
  · have : (n != 1) = true := bne_iff_ne.2 h1
    rw [this]
    refine r_guard_t ?_
    refine rat_ok hT hS (fun y hy hn => ?_) (fun hy => by rw [hx] at hy; cases hy)
    rw [hx] at hy; cases hy
    obtain ⟨ty, lv, hk, hs⟩ := hn
    refine r_nil ?_
    refine r_fa ?_
    refine r_load1 (x := vi x.links) hk (by rfl) ?_
    refine r_bin (v := .bool (x.links == 0)) (by rfl) ?_
    have : (!namedB n x) = (x.links == 0) := by
      by_cases h0 : x.links = 0
      · simp [namedB, h1, h0]
      · have : 0 < x.links := by omega
        simp [namedB, h0, this]
    rw [this] at h; exact h
theorem rfind_ok (hT : RAt l t T γ) (hS : Small T) (h : R (.tuple #[vi ((T.find n s).getD 0), .bool (T.find n s).isSome]) l) : scall Tryz.prog 87 #[ptr t 0, vi n, vstr' s] R l := by
  refine S87_ok ?_
  unfold S87
  refine rdir_ok hT hS (fun x hd hx hxk hn => ?_) (fun hd => ?_)
  · have hb := hS.names n x hx
    have hf : T.find n s = getS s x.names := by simp [Tree.find, hd]
    have hp := posS_get s x.names
    refine r_join1 ?_
    refine r_bin (v := .bool false) (by rfl) ?_
    refine r_guard_f ?_
    refine rnfind_ok hn hb ?_
    obtain ⟨ty, lv, hk, hs⟩ := hn
    cases hpp : posS s x.names with
    | none =>
      have e : posI s x.names = -1 := by unfold posI; rw [hpp]
      rw [e]
      refine r_bin (v := .bool true) (by rfl) ?_
      refine r_guard_t ?_
      rw [hpp] at hp
      rw [hf, hp] at h; exact h
    | some i =>
      have e : posI s x.names = (i : Int) := by unfold posI; rw [hpp]
      rw [e]
      have hlt := posS_lt hpp
      obtain ⟨q, hq⟩ : ∃ q, x.names[i]? = some q := ⟨_, List.getElem?_eq_getElem hlt⟩
      refine r_bin (by rfl) ?_
      refine r_guard_d (fun hg => absurd hg (by omega)) (fun _ => ?_)
      refine r_nil ?_
      refine r_fa ?_
      refine r_load1 (x := lv) hk (by rfl) ?_
      refine rnfind_ok ⟨ty, lv, hk, hs⟩ hb ?_
      rw [e]
      refine r_and (r_load1 (x := lv) hk (by rfl) rfl) ?_
      refine r_fld hs hlt (by omega) (ents_get _ i q hq).2 ?_
      rw [hpp] at hp
      simp only [hq, Option.map_some] at hp
      rw [hf, hp] at h; exact h
  · have hf : T.find n s = none := by simp [Tree.find, hd]
    refine r_join1 ?_
    refine r_bin (v := .bool true) (by rfl) ?_
    refine r_guard_t ?_
    refine r_guard_t ?_
    rw [hf] at h; exact h
end
end Go.Sl
namespace Go.Sl
variable [Ghost]
open Go Go.Mo Go.Proofs
attribute [local irreducible] snil sfa sext sfield sguard sun sbin slen sload sstore snew snewObj sbuildR sbuildSlR smakeMapR smakeSlR slookup smapset srangeMap snext sentry scall scallv sextern sbuiltin sidx sindex sslice sconv srangeX sarg sand sjoin0 sjoin1 sjoin2 sloop0 sloop1 sloop2
section
variable {l : St} {t p b : Nat} {T : Tree} {γ : Int → Nat} {n dir f e : Int} {x : Nd} {s : Str} {P : Pool} {R : Value → SP}
theorem dirCount_app (A B : List (Str × Int)) : dirCount T (A ++ B) = dirCount T A + dirCount T B := by
  induction A with
  | nil => simp [dirCount]
  | cons p A ih => obtain ⟨a, b⟩ := p; simp only [List.cons_append, dirCount, ih]; omega
theorem dirCount_bound (A : List (Str × Int)) : 0 ≤ dirCount T A ∧ dirCount T A ≤ A.length := by
  induction A with
  | nil => simp [dirCount]
  | cons p A ih => obtain ⟨a, b⟩ := p; simp only [dirCount, List.length_cons]; split <;> omega
theorem rlinks_ok (hT : RAt l t T γ) (hS : Small T) (g : Good e T) (hx : T.at n = some x) (h : R (vi (if x.kind = 1 then T.dirs n x else x.links)) l) : scall Tryz.prog 82 #[ptr t 0, vi n] R l := by
  refine S82_ok ?_
  unfold S82
  have hlk := g.links n x hx
  refine rat_ok hT hS (fun y hy hn => ?_) (fun hy => by rw [hx] at hy; cases hy)
  rw [hx] at hy; cases hy
  obtain ⟨ty, lv, hk, hs⟩ := hn
  have hb := hS.names n x hx
  refine r_nil ?_
  refine r_fa ?_
  refine r_fa ?_
  refine r_load1 (x := vi x.kind) hk (by rfl) ?_
  refine r_bin (v := .bool (x.kind != 1)) (by rfl) ?_
  by_cases hxk : x.kind = 1
  · have : (x.kind != 1) = false := by simpa using hxk
    rw [this]
    refine r_guard_f ?_
    rw [if_pos hxk] at h
    unfold sjoin1
    refine ⟨fun vs σ => vs = [.bool (!namedB n x)] ∧ σ = l, ?_, ?_⟩
    rotate_left
    · refine r_bin (v := .bool (n != 1)) (by rfl) ?_
      by_cases h1 : n = 1
      · have : (n != 1) = false := by simpa using h1
        rw [this]
        refine r_guard_f ?_
        refine ⟨?_, rfl⟩
        have : (!namedB n x) = false := by simp [namedB, h1]
        rw [this]
      · have : (n != 1) = true := bne_iff_ne.2 h1
        rw [this]
        refine r_guard_t ?_
        refine r_nil ?_
        refine r_fa ?_
        refine r_load1 (x := vi x.links) hk (by rfl) ?_
        refine r_bin (v := .bool (x.links == 0)) (by rfl) ?_
        refine ⟨?_, rfl⟩
        have : (!namedB n x) = (x.links == 0) := by
          by_cases h0 : x.links = 0
          · simp [namedB, h1, h0]
          · have : 0 < x.links := by omega
            simp [namedB, h0, this]
        rw [this]
    · rintro v σ ⟨hv, hσ⟩
      have hσ' := hσ.symm
      subst hσ'
      cases hv
      cases hnb : namedB n x with
      | false =>
        refine r_guard_t ?_
        have : T.dirs n x = 0 := by simp [Tree.dirs, hnb]
        rw [this] at h; exact h
      | true =>
        have hdd : T.dirs n x = 2 + dirCount T x.names := by simp [Tree.dirs, hnb]
        rw [hdd] at h
        refine r_guard_f ?_
        refine r_loop2 (fun k u w σ => ∃ i : Nat, σ = l ∧ u = vi (2 + dirCount T (x.names.take i)) ∧ w = vi i ∧ i ≤ x.names.length ∧ k = x.names.length - i) x.names.length ⟨0, rfl, rfl, rfl, Nat.zero_le _, rfl⟩ ?_
        rintro k u w σ ⟨i, hσ, rfl, rfl, hi, rfl⟩
        have hσ' := hσ.symm
        subst hσ'
        refine r_nil ?_
        refine r_fa ?_
        refine r_load1 (x := lv) hk (by rfl) ?_
        refine r_slen hs ?_
        refine r_bin (by rfl) ?_
        refine r_guard_d (fun hg => ?_) (fun hg => ?_)
        · have hlt : i < x.names.length := by omega
          obtain ⟨q, hq⟩ : ∃ q, x.names[i]? = some q := ⟨_, List.getElem?_eq_getElem hlt⟩
          have htk : dirCount T (x.names.take (i + 1)) = dirCount T (x.names.take i) + (if (T.dir q.2).isSome then 1 else 0) := by
            rw [List.take_add_one, hq, dirCount_app]
            obtain ⟨qa, qb⟩ := q
            simp [dirCount]
          have hbd := dirCount_bound (T := T) (x.names.take i)
          have hbl : (x.names.take i).length ≤ 2 ^ 30 := Nat.le_trans (List.length_take_le _ _) (by omega)
          have hw : IntKind.i64.wrap ((i : Int) + 1) = ((i + 1 : Nat) : Int) := by rw [wrap_id (by omega) (by omega)]; simp
          obtain ⟨y, hy⟩ := g.live q.2 (refs_of hx (List.mem_of_getElem? hq) : 0 < Mo.refs T q.2)
          refine ⟨fun vs σ => vs = [vi (2 + dirCount T (x.names.take (i + 1)))] ∧ σ = l, ?_, ?_⟩
          · rintro v σ ⟨hv, hσ⟩
            have hσ' := hσ.symm
            subst hσ'
            cases hv
            refine r_bin (by rfl) ?_
            rw [hw]
            exact ⟨x.names.length - (i + 1), by omega, i + 1, rfl, rfl, rfl, by omega, rfl⟩
          · refine r_nil ?_
            refine r_fa ?_
            refine r_load1 (x := lv) hk (by rfl) ?_
            refine r_fld hs hlt (by omega) (ents_get _ i q hq).2 ?_
            refine rat_ok hT hS (fun y2 hy2 hn2 => ?_) (fun hy2 => by rw [hy] at hy2; cases hy2)
            rw [hy] at hy2; cases hy2
            obtain ⟨ty2, lv2, hk2, -⟩ := hn2
            refine r_nil ?_
            refine r_fa ?_
            refine r_fa ?_
            refine r_load1 (x := vi y.kind) hk2 (by rfl) ?_
            refine r_bin (v := .bool (y.kind == 1)) (by rfl) ?_
            by_cases hyk : y.kind = 1
            · have : (y.kind == 1) = true := by simpa using hyk
              rw [this]
              refine r_guard_t ?_
              refine r_bin (by rfl) ?_
              have hw2 : IntKind.i64.wrap (2 + dirCount T (x.names.take i) + 1) = 2 + dirCount T (x.names.take (i + 1)) := by
                rw [wrap_id (by omega) (by omega), htk]
                have : (T.dir q.2).isSome = true := by simp [Tree.dir, hy, hyk]
                rw [if_pos this]; omega
              rw [hw2]
              exact ⟨rfl, rfl⟩
            · have : (y.kind == 1) = false := by simpa using hyk
              rw [this]
              refine r_guard_f ?_
              have : (T.dir q.2).isSome = false := by simp [Tree.dir, hy, hyk]
              rw [this] at htk
              refine ⟨?_, rfl⟩
              rw [htk]; simp
        · have hiL : i = x.names.length := by omega
          rw [hiL, List.take_length]; exact h
  · have : (x.kind != 1) = true := bne_iff_ne.2 hxk
    rw [this]
    refine r_guard_t ?_
    refine r_nil ?_
    refine r_fa ?_
    refine r_load1 (x := vi x.links) hk (by rfl) ?_
    rw [if_neg hxk] at h; exact h
theorem rof_ok (hP : RPoolAt l p P) (hS : P.fs.length ≤ 2 ^ 30) (h1 : ∀ (s : Int) (b : Nat) (ty : TypeId) (bv : Value) (hs : List Value) (bytes : List Value), geti P.fs f = some s → Knows l b (.cells (bv :: hs).toArray ty) → SlAt l 1 bv s.toNat bytes → 0 ≤ s → R (ptr b 0) l) (h2 : geti P.fs f = none → R (.pointer none) l) :
    scall Tryz.prog 172 #[ptr p 0, vi f] R l := by
  refine S172_ok ?_
  unfold S172
  obtain ⟨c, hin, ty, lv, lc, xs, cs, φ, hc, hs, hxs, hf⟩ := hP
  have hin : In l ((p, .cells #[vi P.blocks, lv] ty) :: (lc ++ cs)) := fun b o hb => hin b o ((hc.mem_iff).2 hb)
  have hk := hin _ _ (.head _)
  have hsa := hs.at (l := l) fun b o hb => hin b o (by simp [hb])
  refine r_join1 ?_
  refine r_bin (by rfl) ?_
  refine r_guard_d (fun hg => ?_) (fun hg => ?_)
  · refine r_guard_t ?_
    refine h2 ?_
    cases ha : geti P.fs f with
    | none => rfl
    | some x =>
      obtain ⟨k, hk1, hk2⟩ := geti_nth' ha
      omega
  refine r_nil ?_
  refine r_fa ?_
  refine r_load1 (x := lv) hk (by rfl) ?_
  refine r_slen hsa ?_
  refine r_bin (by rfl) ?_
  refine r_guard_d (fun hg2 => ?_) (fun hg2 => ?_)
  · refine h2 ?_
    cases ha : geti P.fs f with
    | none => rfl
    | some x =>
      obtain ⟨k, hk1, hk2⟩ := geti_nth' ha
      have := nth_lt _ _ _ hk2
      omega
  refine r_nil ?_
  refine r_fa ?_
  refine r_load1 (x := lv) hk (by rfl) ?_
  refine r_bin (by rfl) ?_
  obtain ⟨k, rfl⟩ : ∃ k : Nat, f = ((k + 1 : Nat) : Int) := ⟨(f - 1).toNat, by omega⟩
  have hw : IntKind.i64.wrap (((k + 1 : Nat) : Int) - 1) = (k : Int) := by rw [wrap_id (by omega) (by omega)]; omega
  rw [hw]
  have hkl : k < P.fs.length := by omega
  obtain ⟨o, ho⟩ : ∃ o, nth P.fs k = some o := by rw [nth_eq]; exact ⟨_, List.getElem?_eq_getElem hkl⟩
  have hg3 := ptrsR_get φ 1 P.fs k o ho
  refine r_elem1 hsa hg3 ?_
  have e1 : ((1 + k : Nat) : Int) = ((k + 1 : Nat) : Int) := by omega
  cases o with
  | none =>
    refine h2 ?_
    show geti P.fs (Int.ofNat (k + 1)) = none
    unfold geti; simp only [ho]
  | some x =>
    have hx : geti P.fs ((k + 1 : Nat) : Int) = some x := nth_geti' ho
    show R (ptr (φ ((1 + k : Nat) : Int)) 0) l
    rw [e1]
    obtain ⟨c', ⟨ty2, bv, hs2, bc, bytes, rfl, -, hsb, h0⟩, h4⟩ := rfiles_at hf (hxs.mem_iff.2 ((geti_live P.fs _ x).1 hx))
    exact h1 x _ ty2 bv hs2 bytes hx (hin _ _ (List.mem_cons_of_mem _ (List.mem_append_right _ (h4 _ (.head _))))) (hsb.at fun b o hb => hin b o (List.mem_cons_of_mem _ (List.mem_append_right _ (h4 _ (.tail _ hb))))) h0
theorem rpsize_ok (hP : RPoolAt l p P) (hS : P.fs.length ≤ 2 ^ 30) (h : R (vi (P.size f)) l) : scall Tryz.prog 114 #[ptr p 0, vi f] R l := by
  refine S114_ok ?_
  unfold S114
  refine rof_ok hP hS (fun s b ty bv hs bytes hg hk hsa h0 => ?_) (fun hg => ?_)
  · refine r_bin (v := .bool false) (by rfl) ?_
    refine r_guard_f ?_
    refine r_nil ?_
    refine r_fa ?_
    refine r_load1 (x := bv) hk (by rfl) ?_
    refine r_slen hsa ?_
    have : P.size f = s := by simp [Pool.size, hg]
    rw [this] at h
    have e : ((s.toNat : Nat) : Int) = s := by omega
    rw [e]; exact h
  · refine r_bin (v := .bool true) (by rfl) ?_
    refine r_guard_t ?_
    have : P.size f = 0 := by simp [Pool.size, hg]
    rw [this] at h; exact h
theorem RPoolAt.mono {l l' : St} {p : Nat} {P : Pool} (h : RPoolAt l p P) (hl : ∀ b o, Knows l b o → Knows l' b o) : RPoolAt l' p P := let ⟨c, h1, h2⟩ := h; ⟨c, fun b o hb => hl b o (h1 b o hb), h2⟩
theorem rstat_ok (hT : RAt l t T γ) (hS : Small T) (g : Good e T) (h : R (.tuple #[sttV (T.st n), .bool (T.stat n).isSome]) l) : scall Tryz.prog 66 #[ptr t 0, vi n] R l := by
  refine scall_post (S66_ok ?_)
  unfold S66
  refine r_new fun b4 => ?_
  refine rat_ok (hT.there _) hS (fun x hx hn => ?_) (fun hx => ?_)
  · obtain ⟨ty, lv, hk, hs⟩ := hn
    have hkd := g.kinds n x hx
    refine r_bin (v := .bool false) (by rfl) ?_
    refine r_guard_f ?_
    refine r_nil ?_
    refine r_fa ?_
    refine r_loadn hk (by rfl) ?_
    refine r_new fun b7 => ?_
    refine r_store (l' := pt b7 (.cells #[vi n, vi x.kind, vi x.mode, vi x.uid, vi x.gid, vi 0, vi 0] 42) :: pt b4 (.cells #[vi 0, vi 0, vi 0, vi 0, vi 0, vi 0, vi 0] 42) :: l) (knows_pt _ _ _) (by rfl) (by rfl) (by rfl) (by rfl) (change_pt _ _ _ _) ?_
    refine rlinks_ok ((hT.there _).there _) hS g hx ?_
    obtain ⟨L, hL⟩ : ∃ L, (if x.kind = 1 then T.dirs n x else x.links) = L := ⟨_, rfl⟩
    rw [hL]
    refine r_fa ?_
    refine r_store (l' := pt b7 (.cells #[vi n, vi x.kind, vi x.mode, vi x.uid, vi x.gid, vi L, vi 0] 42) :: pt b4 (.cells #[vi 0, vi 0, vi 0, vi 0, vi 0, vi 0, vi 0] 42) :: l) (knows_pt _ _ _) (by rfl) (by rfl) (by rfl) (by rfl) (change_pt _ _ _ _) ?_
    obtain ⟨ty0, pp, nv, hkt, -, hat, hpool⟩ := hT.open
    obtain ⟨ty1, lv1, hk1, hs1⟩ := hat n x hx
    have up2 : ∀ {q : Nat} {o : Obj} (A B : Chunk), Knows l q o → Knows (A :: B :: l) q o := fun A B h => knows_there _ (knows_there _ h)
    obtain ⟨Z, hZ⟩ : ∃ Z : Int, (if x.kind = 1 then (x.names.length : Int) else if x.kind = 2 then T.pool.size x.file else (x.text.length : Int)) = Z := ⟨_, rfl⟩
    have hst : T.stat n = some { node := n, kind := x.kind, mode := x.mode, uid := x.uid, gid := x.gid, links := L, size := Z } := by
      rw [← hL, ← hZ]
      unfold Tree.stat
      rw [hx]
      simp only
      by_cases h1 : x.kind = 1
      · simp [h1]
      · by_cases h2 : x.kind = 2
        · simp [h2]
        · simp [h1, h2]
    have hst2 : T.st n = { node := n, kind := x.kind, mode := x.mode, uid := x.uid, gid := x.gid, links := L, size := Z } := by unfold Tree.st; rw [hst]; rfl
    rw [hst, hst2] at h
    unfold sjoin0
    refine ⟨fun _ σ => σ = pt b7 (.cells #[vi n, vi x.kind, vi x.mode, vi x.uid, vi x.gid, vi L, vi Z] 42) :: pt b4 (.cells #[vi 0, vi 0, vi 0, vi 0, vi 0, vi 0, vi 0] 42) :: l, ?_, ?_⟩
    · rintro σ rfl
      (repeat' (first | refine z0 ?_ | refine z1 ?_ | refine z2 ?_ | refine z3 ?_ | refine z4 ?_ | refine z5 ?_ | refine z6 ?_ | refine z7 (fun hg => ?_) (fun hg => ?_) | refine z8 (fun hg => ?_) (fun hg => ?_) | refine z9 ?_ | refine za ?_ | refine zb ?_ | refine zc ?_ | refine zd ?_ | refine ze ?_ | refine zf ?_ | refine zg ?_ | refine zh ?_ | refine zi (fun _ => ?_) | refine zj (fun _ => ?_) | refine zk ?_ | refine zl ?_ ?_ | refine zm ?_ | refine zn ?_ | refine zo ?_ | exact (rfl : _ = _)))
      exact ⟨l, by exact drp, h⟩
    · have sizeTo : ∀ z : Int, z = Z → sstore 1 (ptr b7 (0 + 6)) (vi z) ((fun (_ : List Value) (σ : St) => σ = pt b7 (.cells #[vi n, vi x.kind, vi x.mode, vi x.uid, vi x.gid, vi L, vi Z] 42) :: pt b4 (.cells #[vi 0, vi 0, vi 0, vi 0, vi 0, vi 0, vi 0] 42) :: l) []) (pt b7 (.cells #[vi n, vi x.kind, vi x.mode, vi x.uid, vi x.gid, vi L, vi 0] 42) :: pt b4 (.cells #[vi 0, vi 0, vi 0, vi 0, vi 0, vi 0, vi 0] 42) :: l) := fun z hz => by
        subst hz
        exact r_store (knows_pt _ _ _) (by rfl) (by rfl) (by rfl) (by rfl) (change_pt _ _ _ _) rfl
      refine r_fa ?_
      refine r_load1 (x := vi x.kind) (knows_pt _ _ _) (by rfl) ?_
      refine r_bin (v := .bool (x.kind == 1)) (by rfl) ?_
      by_cases hx1 : x.kind = 1
      · have : (x.kind == 1) = true := by simpa using hx1
        rw [this]
        refine r_guard_t ?_
        refine r_nil ?_
        refine r_fa ?_
        refine r_load1 (x := lv1) (up2 _ _ hk1) (by rfl) ?_
        refine r_slen ((hs1.there _).there _) ?_
        refine r_fa ?_
        refine sizeTo _ ?_
        rw [← hZ, if_pos hx1]
      · have : (x.kind == 1) = false := by simpa using hx1
        rw [this]
        refine r_guard_f ?_
        refine r_bin (v := .bool (x.kind == 2)) (by rfl) ?_
        by_cases hx2 : x.kind = 2
        · have : (x.kind == 2) = true := by simpa using hx2
          rw [this]
          refine r_guard_t ?_
          refine r_nil ?_
          refine r_fa ?_
          refine r_load1 (x := ptr pp 0) (up2 _ _ hkt) (by rfl) ?_
          refine r_nil ?_
          refine r_fa ?_
          refine r_load1 (x := vi x.file) (up2 _ _ hk1) (by rfl) ?_
          refine rpsize_ok (P := T.pool) (hpool.mono fun _ _ h => up2 _ _ h) hS.files ?_
          refine r_fa ?_
          refine sizeTo _ ?_
          rw [← hZ, if_neg hx1, if_pos hx2]
        · have : (x.kind == 2) = false := by simpa using hx2
          rw [this]
          refine r_guard_f ?_
          have hx3 : x.kind = 3 := by omega
          refine r_bin (v := .bool (x.kind == 3)) (by rfl) ?_
          have : (x.kind == 3) = true := by simpa using hx3
          rw [this]
          refine r_guard_t ?_
          refine r_nil ?_
          refine r_fa ?_
          refine r_load1 (x := vstr' x.text) (up2 _ _ hk1) (by rfl) ?_
          refine r_strlen ?_
          refine r_fa ?_
          refine sizeTo _ ?_
          rw [← hZ, if_neg hx1, if_neg hx2]
  · refine r_bin (v := .bool true) (by rfl) ?_
    refine r_guard_t ?_
    have h1 : T.stat n = none := by simp [Tree.stat, hx]
    have h2 : T.st n = {} := by unfold Tree.st; rw [h1]; rfl
    rw [h1, h2] at h
    (repeat' (first | refine z0 ?_ | refine z1 ?_ | refine z2 ?_ | refine z3 ?_ | refine z4 ?_ | refine z5 ?_ | refine z6 ?_ | refine z7 (fun hg => ?_) (fun hg => ?_) | refine z8 (fun hg => ?_) (fun hg => ?_) | refine z9 ?_ | refine za ?_ | refine zb ?_ | refine zc ?_ | refine zd ?_ | refine ze ?_ | refine zf ?_ | refine zg ?_ | refine zh ?_ | refine zi (fun _ => ?_) | refine zj (fun _ => ?_) | refine zk ?_ | refine zl ?_ ?_ | refine zm ?_ | refine zn ?_ | refine zo ?_ | exact (rfl : _ = _)))
    exact ⟨l, by exact drp, h⟩
theorem liveFrom_take {α : Type} : ∀ (xs : List (Option α)) (i k : Nat) (o : Option α), nth xs k = some o → (liveFrom i (xs.take (k + 1))).map (·.1) = (liveFrom i (xs.take k)).map (·.1) ++ (match o with | none => [] | some _ => [((i + k : Nat) : Int)])
  | [], i, k, o, h => by simp [nth] at h
  | y :: r, i, 0, o, h => by
    simp only [nth, Option.some.injEq] at h
    subst h
    cases y <;> simp [liveFrom]
  | y :: r, i, k + 1, o, h => by
    have := liveFrom_take r (i + 1) k o h
    have e : i + (k + 1) = i + 1 + k := by omega
    rw [e]
    cases y with
    | none => simpa [liveFrom] using this
    | some x => simpa [liveFrom] using this
theorem ent_behind (c : Chunk) (g m : St) : Ent (c :: (g ++ m)) (c :: m) :=
  (Ent.of_perm (l' := g ++ (c :: m)) (by
    refine perm_of_ct fun a => ?_
    simp only [List.flatten_cons, List.flatten_append, ct_append]; omega)).trans (ent_front g _)
theorem rlive_ok (hT : RAt l t T γ) (hS : Small T) (h : ∀ v c, SlC 1 v T.live.length (T.live.map vi) c → R v (c :: l)) : scall Tryz.prog 63 #[ptr t 0] R l := by
  refine scall_perm (l' := [] :: l) (by simp) (scall_post (S63_ok ?_))
  unfold S63
  obtain ⟨ty0, pp, nv, hkt, hs, hat, -⟩ := hT.open
  have hlen := hS.all
  refine r_loop2 (fun k u w σ => ∃ (i : Nat) (c : Chunk) (g : St), σ = c :: (g ++ l) ∧ SlC 1 u ((liveFrom 1 (T.all.take i)).map (·.1)).length (((liveFrom 1 (T.all.take i)).map (·.1)).map vi) c ∧ w = vi i ∧ i ≤ T.all.length ∧ k = T.all.length - i) T.all.length ⟨0, [], [], rfl, by simpa [liveFrom] using slC_nil 1, rfl, Nat.zero_le _, rfl⟩ ?_
  rintro k u w σ ⟨i, c, g, rfl, hsc, rfl, hi, rfl⟩
  have kup : ∀ {q : Nat} {o : Obj}, Knows l q o → Knows (c :: (g ++ l)) q o := fun h => knows_there _ (knows_right g h)
  refine r_nil ?_
  refine r_fa ?_
  refine r_load1 (x := nv) (kup hkt) (by rfl) ?_
  refine r_slen (hs.mono fun _ _ => kup) ?_
  refine r_bin (by rfl) ?_
  refine r_guard_d (fun hg => ?_) (fun hg => ?_)
  · have hlt : i < T.all.length := by omega
    obtain ⟨o, ho⟩ : ∃ o, nth T.all i = some o := by rw [nth_eq]; exact ⟨_, List.getElem?_eq_getElem hlt⟩
    have htk := liveFrom_take T.all 1 i o ho
    have hw : IntKind.i64.wrap ((i : Int) + 1) = ((i + 1 : Nat) : Int) := by rw [wrap_id (by omega) (by omega)]; simp
    have hll : ((liveFrom 1 (T.all.take i)).map (·.1)).length ≤ 2 ^ 30 := by
      rw [List.length_map]
      have h1 := liveFrom_len (T.all.take i) 1
      have h2 := List.length_take_le i T.all
      omega
    refine r_join1 ?_
    refine r_nil ?_
    refine r_fa ?_
    refine r_load1 (x := nv) (kup hkt) (by rfl) ?_
    refine r_elem1 (hs.mono fun _ _ => kup) (ptrsR_get γ 1 T.all i o ho) ?_
    cases o with
    | none =>
      refine r_bin (v := .bool false) (by rfl) ?_
      refine r_guard_f ?_
      refine r_bin (by rfl) ?_
      rw [hw]
      refine ⟨T.all.length - (i + 1), by omega, i + 1, c, g, rfl, ?_, rfl, by omega, rfl⟩
      rw [htk]; simpa using hsc
    | some x =>
      refine r_bin (v := .bool true) (by rfl) ?_
      refine r_guard_t ?_
      refine r_bin (by rfl) ?_
      rw [hw]
      refine r_buildSl (ds := [vi ((i + 1 : Nat) : Int)]) rfl (by omega) rfl (fun e => ?_)
      refine r_append (e := 3) (i := Tryz.t3) (z := .int .i64 0) (m := 1) (news := [vi ((i + 1 : Nat) : Int)]) (by kernel_rfl) (by kernel_rfl) (by kernel_rfl) (by kernel_rfl) rfl hsc (r := pt e (.cells #[vi ((i + 1 : Nat) : Int)] 3) :: (g ++ l)) (take_there _ (take_here _ _))
        (srcAt_row (e' := 3) (by kernel_rfl) (knows_pt _ _ _) rfl rfl (by simp; rfl)) ?_ (by omega) (fun v' c' hs' => ?_)
      · have : Tryz.t3.bytes = 8 := by kernel_rfl
        rw [this]; omega
      · refine r_bin (by rfl) ?_
        rw [hw]
        refine ⟨T.all.length - (i + 1), by omega, i + 1, c', pt e (.cells #[vi ((i + 1 : Nat) : Int)] 3) :: g, rfl, ?_, rfl, by omega, rfl⟩
        rw [htk]
        have e1 : ((1 + i : Nat) : Int) = ((i + 1 : Nat) : Int) := by omega
        simp only [e1, List.map_append, List.map_cons, List.map_nil, List.length_append, List.length_cons, List.length_nil]
        simpa [Value.cells] using hs'
  · have hiL : i = T.all.length := by omega
    rw [hiL, List.take_length] at hsc
    exact ⟨c :: l, ent_behind c g l, h u c (by simpa [Tree.live, Tree.lives] using hsc)⟩
def Full (T : Tree) : Prop := T.live.length ≤ T.most ∧ T.most ≤ 64
theorem rleft_ok (hT : RAt l t T γ) (hS : Small T) (hf : Full T) (h : R (vi (T.most - T.live.length)) l) : scall Tryz.prog 83 #[ptr t 0] R l := by
  refine scall_post (S83_ok ?_)
  unfold S83
  obtain ⟨ty0, pp, nv, hkt, hs, hat, -⟩ := hT.open
  refine r_nil ?_
  refine r_fa ?_
  refine r_load1 (x := vi T.most) hkt (by rfl) ?_
  refine rlive_ok hT hS (fun v c hc => ?_)
  refine r_and (r_load1 (x := vi T.most) (knows_there _ hkt) (by rfl) rfl) ?_
  refine r_slen (hc.at fun b o hb => knows_in hb _) ?_
  refine r_bin (by rfl) ?_
  have hf2 : (T.live.length : Int) ≤ T.most ∧ T.most ≤ 64 := hf
  rw [wrap_id (by omega) (by omega)]
  exact ⟨l, Ent.drop _ _, h⟩
end
end Go.Sl
namespace Go.Sl
variable [Ghost]
open Go Go.Mo Go.Proofs
attribute [local irreducible] snil sfa sext sfield sguard sun sbin slen sload sstore snew snewObj sbuildR sbuildSlR smakeMapR smakeSlR slookup smapset srangeMap snext sentry scall scallv sextern sbuiltin sidx sindex sslice sconv srangeX sarg sand sjoin0 sjoin1 sjoin2 sloop0 sloop1 sloop2
theorem rnodes_pick {γ : Int → Nat} {xs : List (Int × Nd)} {cs : Chunk} (h : RNodes γ xs cs) : ∀ {n : Int} {x : Nd}, (n, x) ∈ xs →
    ∃ nc xs' cs', RNode n x (γ n) nc ∧ RNodes γ xs' cs' ∧ xs.Perm ((n, x) :: xs') ∧ cs.Perm (nc ++ cs') := by
  induction h with
  | nil => intro n x h; cases h
  | @cons m y c xs cs hp hr ih =>
    intro n x hm
    rcases List.mem_cons.1 hm with e | hm
    · simp only [Prod.mk.injEq] at e
      obtain ⟨rfl, rfl⟩ := e
      exact ⟨c, xs, cs, hp, hr, .refl _, .refl _⟩
    · obtain ⟨nc, xs', cs', h1, h2, h3, h5⟩ := ih hm
      refine ⟨nc, (m, y) :: xs', c ++ cs', h1, .cons hp h2, (h3.cons _).trans (.swap _ _ _), ?_⟩
      exact (h5.append_left c).trans (by rw [← List.append_assoc, ← List.append_assoc]; exact List.perm_append_comm.append_right _)
theorem rfiles_pick {φ : Int → Nat} {xs : List (Int × Int)} {cs : Chunk} (h : RFiles φ xs cs) : ∀ {n s : Int}, (n, s) ∈ xs →
    ∃ nc xs' cs', RFile s (φ n) nc ∧ RFiles φ xs' cs' ∧ xs.Perm ((n, s) :: xs') ∧ cs.Perm (nc ++ cs') := by
  induction h with
  | nil => intro n x h; cases h
  | @cons m y c xs cs hp hr ih =>
    intro n x hm
    rcases List.mem_cons.1 hm with e | hm
    · simp only [Prod.mk.injEq] at e
      obtain ⟨rfl, rfl⟩ := e
      exact ⟨c, xs, cs, hp, hr, .refl _, .refl _⟩
    · obtain ⟨nc, xs', cs', h1, h2, h3, h5⟩ := ih hm
      refine ⟨nc, (m, y) :: xs', c ++ cs', h1, .cons hp h2, (h3.cons _).trans (.swap _ _ _), ?_⟩
      exact (h5.append_left c).trans (by rw [← List.append_assoc, ← List.append_assoc]; exact List.perm_append_comm.append_right _)
theorem ptrsR_set {α : Type} (γ : Int → Nat) : ∀ (i : Nat) (xs : List (Option α)) (k : Nat) (x y : α), nth xs k = some (some x) → ptrsR γ i (setNth xs k (some y)) = ptrsR γ i xs
  | i, [], k, x, y, h => by simp [nth] at h
  | i, o :: r, 0, x, y, h => by
    simp only [nth, Option.some.injEq] at h
    subst h; rfl
  | i, o :: r, k + 1, x, y, h => by
    have := ptrsR_set γ (i + 1) r k x y h
    cases o <;> simp [setNth, ptrsR, this]
theorem ptrsR_none {α : Type} (γ : Int → Nat) : ∀ (i : Nat) (xs : List (Option α)) (k : Nat), ptrsR γ i (setNth xs k none) = (ptrsR γ i xs).set k (.pointer none)
  | i, [], k => by cases k <;> simp [setNth, ptrsR]
  | i, o :: r, 0 => by cases o <;> simp [setNth, ptrsR]
  | i, o :: r, k + 1 => by
    have := ptrsR_none γ (i + 1) r k
    cases o <;> simp [setNth, ptrsR, this]
theorem ptrsR_put (γ : Int → Nat) {T : Tree} {n : Int} {x y : Nd} (h : T.at n = some x) : ptrsR γ 1 (T.put n (some y)).all = ptrsR γ 1 T.all := by
  obtain ⟨k, rfl, hk⟩ := geti_nth h
  exact ptrsR_set γ 1 T.all k x y hk
theorem rtree_open1 {l r : St} {t : Nat} {T : Tree} {γ : Int → Nat} {c : Chunk} {n : Int} {x : Nd} (hk : Take l c r) (hP : RTree t T γ c) (hx : T.at n = some x) :
    ∃ tt tn p nv lv nc lc xs cs pc, l.flatten.Perm (pt (γ n) (.cells (rCells n x lv) tn) :: lc :: pt t (.cells #[vi T.most, ptr p 0, nv] tt) :: nc :: pc :: cs :: r).flatten ∧
      SlC 2 lv x.names.length (ents x.names) lc ∧ SlC 1 nv T.all.length (ptrsR γ 1 T.all) nc ∧ ((n, x) :: xs).Perm T.lives ∧ RNodes γ xs cs ∧ RPool p T.pool pc := by
  obtain ⟨tt, p, nv, nc, xs0, cs0, pc, hc, hs, hxs, hn, hp⟩ := hP
  obtain ⟨nc2, xs, cs, ⟨tn, lv, lc, rfl, hls⟩, h2, h3, h5⟩ := rnodes_pick hn (hxs.mem_iff.2 ((geti_live T.all n x).1 hx))
  refine ⟨tt, tn, p, nv, lv, nc, lc, xs, cs, pc, hk.trans (perm_of_ct fun a => ?_), hls, hs, h3.symm.trans hxs, h2, hp⟩
  have e1 := ct_of_perm hc a
  have e2 := ct_of_perm h5 a
  simp only [List.flatten_cons, ct_append, ct_cons, ct_nil, pt] at e1 e2 ⊢
  omega
theorem rtree_shut1 {t : Nat} {T : Tree} {n : Int} {x x' : Nd} {tt tn : TypeId} {γ : Int → Nat} {p : Nat} {nv lv : Value} {nc lc pc cs : Chunk} {xs : List (Int × Nd)} {P' : Pool}
    (hx : T.at n = some x) (hls : SlC 2 lv x'.names.length (ents x'.names) lc) (hs : SlC 1 nv T.all.length (ptrsR γ 1 T.all) nc) (h1 : ((n, x) :: xs).Perm T.lives) (h2 : RNodes γ xs cs) (h4 : RPool p P' pc) :
    RTree t { T.put n (some x') with pool := P' } γ [pt (γ n) (.cells (rCells n x' lv) tn), lc, pt t (.cells #[vi T.most, ptr p 0, nv] tt), nc, pc, cs].flatten := by
  refine ⟨tt, p, nv, nc, (n, x') :: xs, ((γ n, .cells (rCells n x' lv) tn) :: lc) ++ cs, pc, perm_of_ct fun a => ?_, ?_, put_lives hx h1 x', .cons ⟨tn, lv, lc, rfl, hls⟩ h2, h4⟩
  · simp only [List.flatten_cons, List.flatten_nil, ct_append, ct_cons, ct_nil, pt]
    show _ = c1 a (t, Obj.cells #[vi T.most, ptr p 0, nv] tt) + _
    omega
  · show SlC 1 nv (T.put n (some x')).all.length (ptrsR γ 1 (T.put n (some x')).all) nc
    rw [put_len, ptrsR_put γ hx]; exact hs
theorem setNth_same {α : Type} : ∀ (xs : List (Option α)) (k : Nat), nth xs k = some none → setNth xs k none = xs
  | [], k, h => by simp [nth] at h
  | o :: r, 0, h => by
    simp only [nth, Option.some.injEq] at h
    subst h; rfl
  | o :: r, k + 1, h => by simp only [setNth, setNth_same r k h]
theorem setNth_far {α : Type} : ∀ (xs : List (Option α)) (k : Nat), nth xs k = none → setNth xs k none = xs
  | [], k, h => by cases k <;> rfl
  | o :: r, 0, h => by simp [nth] at h
  | o :: r, k + 1, h => by simp only [setNth, setNth_far r k h]
theorem seti_none_same {α : Type} {xs : List (Option α)} {n : Int} (h : geti xs n = none) : seti xs n none = xs := by
  unfold geti at h
  unfold seti
  split at h
  · rename_i k
    split at h
    · rename_i o ho
      subst h; exact setNth_same xs k ho
    · rename_i ho; exact setNth_far xs k ho
  · rfl
section
variable {l r : St} {t p : Nat} {T : Tree} {γ : Int → Nat} {c : Chunk} {n dir mode uid gid f : Int} {x : Nd} {P : Pool} {R : Value → SP}
theorem rmasked_ok {m : Int} (h : R (vi (masked m)) l) : scall Tryz.prog 59 #[vi m] R l := by
  refine S59_ok ?_
  unfold S59
  (repeat' (first | refine z0 ?_ | refine z1 ?_ | refine z2 ?_ | refine z3 ?_ | refine z4 ?_ | refine z5 ?_ | refine z6 ?_ | refine z7 (fun hg => ?_) (fun hg => ?_) | refine z8 (fun hg => ?_) (fun hg => ?_) | refine z9 ?_ | refine za ?_ | refine zb ?_ | refine zc ?_ | refine zd ?_ | refine ze ?_ | refine zf ?_ | refine zg ?_ | refine zh ?_ | refine zi (fun _ => ?_) | refine zj (fun _ => ?_) | refine zk ?_ | refine zl ?_ ?_ | refine zm ?_ | refine zn ?_ | refine zo ?_ | exact (rfl : _ = _)))
  have := bits_mask m 12 (by omega)
  have e : masked m = IntKind.i64.wrap ((BitVec.ofInt IntKind.i64.bits m &&& BitVec.ofInt IntKind.i64.bits 4095).toNat : Int) := this.symm
  rw [e] at h; exact h
theorem rsetMode_ok (hk : Take l c r) (hP : RTree t T γ c) (hS : Small T) (h : ∀ c', RTree t (T.setMode n mode).1 γ c' → R (vi (T.setMode n mode).2) (c' :: r)) : scall Tryz.prog 23 #[ptr t 0, vi n, vi mode] R l := by
  cases hx : T.at n with
  | none =>
    have hm : T.setMode n mode = (T, 1) := by simp [Tree.setMode, hx]
    rw [hm] at h
    refine scall_perm (l' := c :: r) (by rw [List.flatten_cons]; exact hk) (S23_ok ?_)
    unfold S23
    refine rat_ok (r_at (take_here c r) hP) hS (fun y hy _ => by rw [hx] at hy; cases hy) (fun _ => ?_)
    refine r_bin (v := .bool true) (by rfl) ?_
    refine r_guard_t ?_
    exact h c hP
  | some x =>
    have hm : T.setMode n mode = (T.put n (some { x with mode := masked mode }), 0) := by simp [Tree.setMode, hx]
    rw [hm] at h
    have hA := r_at hk hP
    obtain ⟨tt, tn, pp, nv, lv, nc, lc, xs, cs, pc, hpm, hls, hs, hxs, hns, hpp⟩ := rtree_open1 hk hP hx
    refine scall_perm hpm (scall_post (S23_ok ?_))
    unfold S23
    refine rat_ok (hA.mono fun b o hb => by unfold Knows at hb ⊢; exact hpm.mem_iff.1 hb) hS (fun y hy _ => ?_) (fun hy => by rw [hx] at hy; cases hy)
    refine r_bin (v := .bool false) (by rfl) ?_
    refine r_guard_f ?_
    refine rmasked_ok ?_
    refine r_nil ?_
    refine r_fa ?_
    refine r_fa ?_
    refine r_store (knows_pt _ _ _) (by rfl) (by rfl) (by rfl) (by rfl) (change_pt _ _ _ _) ?_
    exact ⟨_, ent_close [_, _, _, _, _, _] r, h _ (rtree_shut1 (x' := { x with mode := masked mode }) (P' := T.pool) hx hls hs hxs hns hpp)⟩
theorem rsetOwner_ok (hk : Take l c r) (hP : RTree t T γ c) (hS : Small T) (h : ∀ c', RTree t (T.setOwner n uid gid).1 γ c' → R (vi (T.setOwner n uid gid).2) (c' :: r)) : scall Tryz.prog 48 #[ptr t 0, vi n, vi uid, vi gid] R l := by
  cases hx : T.at n with
  | none =>
    have hm : T.setOwner n uid gid = (T, 1) := by simp [Tree.setOwner, hx]
    rw [hm] at h
    refine scall_perm (l' := c :: r) (by rw [List.flatten_cons]; exact hk) (S48_ok ?_)
    unfold S48
    refine rat_ok (r_at (take_here c r) hP) hS (fun y hy _ => by rw [hx] at hy; cases hy) (fun _ => ?_)
    refine r_bin (v := .bool true) (by rfl) ?_
    refine r_guard_t ?_
    exact h c hP
  | some x =>
    have hm : T.setOwner n uid gid = (T.put n (some { x with uid := uid, gid := gid }), 0) := by simp [Tree.setOwner, hx]
    rw [hm] at h
    have hA := r_at hk hP
    obtain ⟨tt, tn, pp, nv, lv, nc, lc, xs, cs, pc, hpm, hls, hs, hxs, hns, hpp⟩ := rtree_open1 hk hP hx
    refine scall_perm hpm (scall_post (S48_ok ?_))
    unfold S48
    refine rat_ok (hA.mono fun b o hb => by unfold Knows at hb ⊢; exact hpm.mem_iff.1 hb) hS (fun y hy _ => ?_) (fun hy => by rw [hx] at hy; cases hy)
    refine r_bin (v := .bool false) (by rfl) ?_
    refine r_guard_f ?_
    refine r_nil ?_
    refine r_fa ?_
    refine r_fa ?_
    refine r_store (knows_pt _ _ _) (by rfl) (by rfl) (by rfl) (by rfl) (change_pt _ _ _ _) ?_
    refine r_nil ?_
    refine r_fa ?_
    refine r_fa ?_
    refine r_store (knows_pt _ _ _) (by rfl) (by rfl) (by rfl) (by rfl) (change_pt _ _ _ _) ?_
    exact ⟨_, ent_close [_, _, _, _, _, _] r, h _ (rtree_shut1 (x' := { x with uid := uid, gid := gid }) (P' := T.pool) hx hls hs hxs hns hpp)⟩
theorem rhold_ok (hk : Take l c r) (hP : RTree t T γ c) (hS : Small T) (h : ∀ c', RTree t (T.hold n).1 γ c' → R (vi (T.hold n).2) (c' :: r)) : scall Tryz.prog 96 #[ptr t 0, vi n] R l := by
  cases hx : T.at n with
  | none =>
    have hm : T.hold n = (T, 1) := by simp [Tree.hold, hx]
    rw [hm] at h
    refine scall_perm (l' := c :: r) (by rw [List.flatten_cons]; exact hk) (S96_ok ?_)
    unfold S96
    refine rat_ok (r_at (take_here c r) hP) hS (fun y hy _ => by rw [hx] at hy; cases hy) (fun _ => ?_)
    refine r_bin (v := .bool true) (by rfl) ?_
    refine r_guard_t ?_
    exact h c hP
  | some x =>
    have hm : T.hold n = (T.put n (some { x with holds := x.holds + 1 }), 0) := by simp [Tree.hold, hx]
    rw [hm] at h
    have hhl := hS.holds n x hx
    have hw : IntKind.i64.wrap (x.holds + 1) = x.holds + 1 := wrap_id (by omega) (by omega)
    have hA := r_at hk hP
    obtain ⟨tt, tn, pp, nv, lv, nc, lc, xs, cs, pc, hpm, hls, hs, hxs, hns, hpp⟩ := rtree_open1 hk hP hx
    refine scall_perm hpm (scall_post (S96_ok ?_))
    unfold S96
    refine rat_ok (hA.mono fun b o hb => by unfold Knows at hb ⊢; exact hpm.mem_iff.1 hb) hS (fun y hy _ => ?_) (fun hy => by rw [hx] at hy; cases hy)
    refine r_bin (v := .bool false) (by rfl) ?_
    refine r_guard_f ?_
    refine r_nil ?_
    refine r_fa ?_
    refine r_load1 (x := vi x.holds) (knows_pt _ _ _) (by rfl) ?_
    refine r_bin (by rfl) ?_
    rw [hw]
    refine r_nil ?_
    refine r_fa ?_
    refine r_store (knows_pt _ _ _) (by rfl) (by rfl) (by rfl) (by rfl) (change_pt _ _ _ _) ?_
    exact ⟨_, ent_close [_, _, _, _, _, _] r, h _ (rtree_shut1 (x' := { x with holds := x.holds + 1 }) (P' := T.pool) hx hls hs hxs hns hpp)⟩
theorem rfiles_upd {φ : Int → Nat} {xs : List (Int × Int)} {cs : Chunk} (h : RFiles φ xs cs) {n : Int} {b : Nat} : n ∉ xs.map Prod.fst → RFiles (updB φ n b) xs cs := by
  induction h with
  | nil => intro _; exact .nil
  | @cons m y c xs cs hp hr ih =>
    intro hn
    simp only [List.map_cons, List.mem_cons, not_or] at hn
    refine .cons ?_ (ih hn.2)
    have : updB φ n b m = φ m := by unfold updB; rw [if_neg (fun e => hn.1 e.symm)]
    rw [this]; exact hp
theorem ptrsR_upd {α : Type} (φ : Int → Nat) (n : Int) (b : Nat) : ∀ (i : Nat) (xs : List (Option α)), ((i + xs.length : Nat) : Int) ≤ n → ptrsR (updB φ n b) i xs = ptrsR φ i xs
  | _, [], _ => rfl
  | i, o :: r, h => by
    simp only [List.length_cons] at h
    have ih := ptrsR_upd φ n b (i + 1) r (by omega)
    cases o with
    | none => simp only [ptrsR, ih]
    | some x =>
      have : updB φ n b (i : Int) = φ i := by unfold updB; rw [if_neg (by omega)]
      simp only [ptrsR, ih, this]
theorem ptrsR_app {α : Type} (φ : Int → Nat) (x : α) : ∀ (i : Nat) (xs : List (Option α)), ptrsR φ i (xs ++ [some x]) = ptrsR φ i xs ++ [ptr (φ ((i + xs.length : Nat) : Int)) 0]
  | _, [] => rfl
  | i, o :: r => by
    have ih := ptrsR_app φ x (i + 1) r
    have e : i + (r.length + 1) = i + 1 + r.length := by omega
    cases o <;> simp only [List.cons_append, ptrsR, ih, List.length_cons, e]
theorem rpfile_ok (hk : Take l c r) (hP : RPool p P c) (hS : P.fs.length ≤ 2 ^ 30) (h : ∀ c', RPool p P.file.1 c' → R (vi P.file.2) (c' :: r)) : scall Tryz.prog 84 #[ptr p 0] R l := by
  obtain ⟨ty, lv, lc, xs, cs, φ, hc, hs, hxs, hf⟩ := hP
  refine scall_perm (l' := pt p (.cells #[vi P.blocks, lv] ty) :: lc :: cs :: r) (hk.trans (perm_of_ct fun a => ?_)) (scall_post (S84_ok ?_))
  · have h1 := ct_of_perm hc a
    simp only [List.flatten_cons, ct_append, ct_cons, ct_nil, pt] at h1 ⊢
    omega
  unfold S84
  obtain ⟨lp, ln, lcap, rfl⟩ := hs.form
  refine r_nil ?_
  refine r_fa ?_
  refine r_load1 (knows_pt _ _ _) (by rfl) ?_
  refine r_build (ds := nilV :: List.replicate 64 (.bool false)) (by rfl) ?_
  refine r_new fun fb => ?_
  refine r_buildSl (ds := [ptr fb 0]) rfl (by omega) rfl (fun e => ?_)
  refine r_append (e := 208) (i := Tryz.t208) (z := .pointer none) (m := 1) (news := [ptr fb 0]) (by kernel_rfl) (by kernel_rfl) (by kernel_rfl) (by kernel_rfl) rfl hs (take_there _ (take_there _ (take_there _ (take_here _ _))))
    (srcAt_row (e' := 208) (by kernel_rfl) (knows_pt _ _ _) rfl rfl (by simp; rfl)) ?_ (by omega) (fun v' c' hs' => ?_)
  · have : Tryz.t208.bytes = 8 := by kernel_rfl
    rw [this]; omega
  obtain ⟨vp, vn, vcap, rfl⟩ := hs'.form
  refine r_nil ?_
  refine r_fa ?_
  refine r_store (knows_there _ (knows_there _ (knows_there _ (knows_pt _ _ _)))) (by rfl) (by rfl) (by rfl) (by rfl) (change_there _ (change_there _ (change_there _ (change_pt _ _ _ _)))) ?_
  refine r_nil ?_
  refine r_fa ?_
  refine r_load1 (knows_there _ (knows_there _ (knows_there _ (knows_pt _ _ _)))) (by rfl) ?_
  have hvn : vn = P.fs.length + 1 := by
    obtain ⟨-, -, ⟨e1, e2, -⟩ | ⟨b, cap, zs, ty', e1, -⟩⟩ := hs'
    · omega
    · injection e1
  subst hvn
  refine r_len_slice ?_
  have hnot : ((P.fs.length + 1 : Nat) : Int) ∉ xs.map Prod.fst := fun hm => by
    obtain ⟨⟨a, s⟩, ha, e⟩ := List.mem_map.1 hm
    have := live_bound P.fs 1 a s (hxs.mem_iff.1 ha)
    simp only at e; omega
  have hRP : RPool p P.file.1 [pt p (.cells #[vi P.blocks, .slice vp (P.fs.length + 1) vcap] ty), c', pt fb (.cells (nilV :: List.replicate 64 (.bool false)).toArray 211), cs].flatten := by
    refine ⟨ty, .slice vp (P.fs.length + 1) vcap, c', (((P.fs.length + 1 : Nat) : Int), 0) :: xs, [(fb, .cells (nilV :: List.replicate 64 (.bool false)).toArray 211)] ++ cs, updB φ ((P.fs.length + 1 : Nat) : Int) fb, perm_of_ct fun a => ?_, ?_, ?_, .cons (c := [(fb, _)]) ?_ (rfiles_upd hf hnot)⟩
    · simp only [List.flatten_cons, List.flatten_nil, ct_append, ct_cons, ct_nil, pt, Pool.file]
      omega
    · have e1 : ptrsR (updB φ ((P.fs.length + 1 : Nat) : Int) fb) 1 (P.fs ++ [some (0 : Int)]) = ptrsR φ 1 P.fs ++ [ptr fb 0] := by
        rw [ptrsR_app, ptrsR_upd φ _ fb 1 P.fs (by omega)]
        have : updB φ ((P.fs.length + 1 : Nat) : Int) fb ((1 + P.fs.length : Nat) : Int) = fb := by
          unfold updB; rw [if_pos (by omega)]
        rw [this]
      show SlC 1 _ (P.fs ++ [some (0 : Int)]).length (ptrsR _ 1 (P.fs ++ [some (0 : Int)])) c'
      rw [e1, List.length_append]
      simpa [Value.cells] using hs'
    · show (_ :: xs).Perm (liveFrom 1 (P.fs ++ [some (0 : Int)]))
      rw [live_snoc]
      refine (hxs.cons _).trans ?_
      have e : ((1 + P.fs.length : Nat) : Int) = ((P.fs.length + 1 : Nat) : Int) := by omega
      rw [e]
      exact (List.perm_append_singleton _ _).symm
    · have : updB φ ((P.fs.length + 1 : Nat) : Int) fb ((P.fs.length + 1 : Nat) : Int) = fb := by unfold updB; rw [if_pos rfl]
      rw [this]
      exact ⟨211, nilV, List.replicate 64 (.bool false), [], [], rfl, by simp, slC_nil 1, Int.le_refl _⟩
  refine ⟨_, ?_, h _ hRP⟩
  refine Ent.trans (l' := pt e (.cells #[ptr fb 0] 208) :: ([pt p (.cells #[vi P.blocks, .slice vp (P.fs.length + 1) vcap] ty), c', pt fb (.cells (nilV :: List.replicate 64 (.bool false)).toArray 211), cs].flatten :: r)) (Ent.of_perm (perm_of_ct fun a => ?_)) (Ent.drop _ _)
  show ct a (List.flatten (c' :: pt e (.cells #[ptr fb 0] 208) :: pt fb (.cells (nilV :: List.replicate 64 (.bool false)).toArray 211) :: pt p (.cells #[vi P.blocks, .slice vp (P.fs.length + 1) vcap] ty) :: cs :: r)) = _
  simp only [List.flatten_cons, List.flatten_nil, List.flatten_append, ct_append, ct_nil]
  omega
theorem rpdrop_ok (hk : Take l c r) (hP : RPool p P c) (hS : P.fs.length ≤ 2 ^ 30) (h : ∀ c' v, RPool p (P.drop f) c' → R v (c' :: r)) : scall Tryz.prog 175 #[ptr p 0, vi f] R l := by
  have hPA : RPoolAt l p P := ⟨c, .of_take hk, hP⟩
  cases hg : geti P.fs f with
  | none =>
    refine scall_perm (l' := c :: r) (by rw [List.flatten_cons]; exact hk) (scall_post (S175_ok ?_))
    unfold S175
    refine rof_ok (P := P) ⟨c, .here _ _, hP⟩ hS (fun s b ty bv hs bytes hg2 _ _ _ => by rw [hg] at hg2; cases hg2) (fun _ => ?_)
    refine r_bin (v := .bool true) (by rfl) ?_
    refine r_guard_t ?_
    refine ⟨_, .refl _, h c _ ?_⟩
    have : P.drop f = P := by
      unfold Pool.drop
      have : seti P.fs f none = P.fs := seti_none_same hg
      rw [this]
    rw [this]; exact hP
  | some s =>
    obtain ⟨ty, lv, lc, xs, cs, φ, hc, hs, hxs, hf⟩ := hP
    obtain ⟨nc, xs', cs', hfile, hf', hxp, hcp⟩ := rfiles_pick hf (hxs.mem_iff.2 ((geti_live P.fs f s).1 hg))
    have hperm : l.flatten.Perm (pt p (.cells #[vi P.blocks, lv] ty) :: lc :: nc :: cs' :: r).flatten := hk.trans (perm_of_ct fun a => by
      have h1 := ct_of_perm hc a
      have h2 := ct_of_perm hcp a
      simp only [List.flatten_cons, ct_append, ct_cons, ct_nil, pt] at h1 h2 ⊢
      omega)
    refine scall_perm hperm (scall_post (S175_ok ?_))
    unfold S175
    obtain ⟨k, rfl, hn⟩ := geti_nth' hg
    have hkl := nth_lt _ _ _ hn
    refine rof_ok (P := P) (hPA.mono fun b o hb => by unfold Knows at hb ⊢; exact hperm.mem_iff.1 hb) hS (fun s2 b2 ty2 bv2 hs2 bytes2 _ _ _ _ => ?_) (fun hg2 => by rw [hg] at hg2; cases hg2)
    refine r_bin (v := .bool false) (by rfl) ?_
    refine r_guard_f ?_
    refine r_nil ?_
    refine r_fa ?_
    refine r_load1 (x := lv) (knows_pt _ _ _) (by rfl) ?_
    refine r_bin (by rfl) ?_
    have hw : IntKind.i64.wrap (((k + 1 : Nat) : Int) - 1) = (k : Int) := by rw [wrap_id (by omega) (by omega)]; omega
    rw [hw]
    refine r_idxSet hs (take_there _ (take_here _ _)) hkl rfl rfl (fun c' hc' => ?_)
    have hlen : (seti P.fs ((k + 1 : Nat) : Int) none).length = P.fs.length := seti_len _ _ _
    refine ⟨_, ?_, h [pt p (.cells #[vi P.blocks, lv] ty), c', cs'].flatten _ ⟨ty, lv, c', xs', cs', φ, ?_, ?_, ?_, hf'⟩⟩
    · refine Ent.trans (l' := nc :: ([pt p (.cells #[vi P.blocks, lv] ty), c', cs'].flatten :: r)) (Ent.of_perm (perm_of_ct fun a => ?_)) (Ent.drop _ _)
      simp only [List.flatten_cons, List.flatten_nil, ct_append, ct_nil]
      omega
    · simp [pt, Pool.drop]
    · show SlC 1 lv (seti P.fs ((k + 1 : Nat) : Int) none).length (ptrsR φ 1 (setNth P.fs k none)) c'
      rw [hlen, ptrsR_none]; exact hc'
    · obtain ⟨A, B, e1, -, e3⟩ := seti_live hg
      show xs'.Perm (liveFrom 1 (seti P.fs ((k + 1 : Nat) : Int) none))
      rw [e3]
      have h1 := hxp.symm.trans hxs
      rw [e1] at h1
      exact (h1.trans List.perm_middle).cons_inv
end
end Go.Sl
namespace Go.Sl
variable [Ghost]
open Go Go.Mo Go.Proofs
attribute [local irreducible] snil sfa sext sfield sguard sun sbin slen sload sstore snew snewObj sbuildR sbuildSlR smakeMapR smakeSlR slookup smapset srangeMap snext sentry scall scallv sextern sbuiltin sidx sindex sslice sconv srangeX sarg sand sjoin0 sjoin1 sjoin2 sloop0 sloop1 sloop2
section
variable {l r : St} {t p : Nat} {T : Tree} {γ : Int → Nat} {c : Chunk} {n dir : Int} {x d : Nd} {s : Str} {P : Pool} {R : Value → SP}
theorem rtree_gone {tt : TypeId} {nv : Value} {nc pc cs : Chunk} {xs : List (Int × Nd)} {P' : Pool} {k : Nat}
    (hx : T.at ((k + 1 : Nat) : Int) = some x) (hs : SlC 1 nv T.all.length ((ptrsR γ 1 T.all).set k (.pointer none)) nc) (h1 : ((((k + 1 : Nat) : Int), x) :: xs).Perm T.lives) (h2 : RNodes γ xs cs) (h4 : RPool p P' pc) :
    RTree t { T.put ((k + 1 : Nat) : Int) none with pool := P' } γ [pt t (.cells #[vi T.most, ptr p 0, nv] tt), nc, pc, cs].flatten := by
  refine ⟨tt, p, nv, nc, xs, cs, pc, perm_of_ct fun a => ?_, ?_, putNone_lives hx h1, h2, h4⟩
  · simp only [List.flatten_cons, List.flatten_nil, ct_append, ct_cons, ct_nil, pt]
    show _ = c1 a (t, Obj.cells #[vi T.most, ptr p 0, nv] tt) + _
    omega
  · show SlC 1 nv (T.put ((k + 1 : Nat) : Int) none).all.length (ptrsR γ 1 (setNth T.all k none)) nc
    rw [put_len, ptrsR_none]; exact hs
theorem rreap_ok (hk : Take l c r) (hP : RTree t T γ c) (hS : Small T) (hx : T.at n = some x) (h : ∀ c' v, RTree t (T.reap n) γ c' → R v (c' :: r)) : scall Tryz.prog 124 #[ptr t 0, vi n] R l := by
  have hlk := hS.links n x hx
  have hhd := hS.holds n x hx
  have hA := r_at hk hP
  by_cases hkeep : (namedB n x || decide (0 < x.links) || decide (0 < x.holds)) = true
  · have hm : T.reap n = T := by unfold Tree.reap; rw [hx]; simp only; rw [if_pos hkeep]
    rw [hm] at h
    refine scall_perm (l' := c :: r) (by rw [List.flatten_cons]; exact hk) (S124_ok ?_)
    unfold S124
    refine rat_ok (r_at (take_here c r) hP) hS (fun y hy hn => ?_) (fun hy => by rw [hx] at hy; cases hy)
    rw [hx] at hy; cases hy
    obtain ⟨ty, lv, hkc, -⟩ := hn
    refine r_join1 ?_
    refine r_bin (v := .bool (n == 1)) (by rfl) ?_
    by_cases h1 : n = 1
    · have : (n == 1) = true := by simpa using h1
      rw [this]
      refine r_guard_t ?_
      refine r_guard_t ?_
      exact h c _ hP
    · have : (n == 1) = false := by simpa using h1
      rw [this]
      refine r_guard_f ?_
      refine r_nil ?_
      refine r_fa ?_
      refine r_load1 (x := vi x.links) hkc (by rfl) ?_
      refine r_bin (by rfl) ?_
      refine r_guard_d (fun hg => ?_) (fun hg => ?_)
      · refine r_guard_t ?_
        exact h c _ hP
      · refine r_nil ?_
        refine r_fa ?_
        refine r_load1 (x := vi x.holds) hkc (by rfl) ?_
        refine r_bin (by rfl) ?_
        refine r_guard_d (fun hg2 => ?_) (fun hg2 => ?_)
        · exact h c _ hP
        · exfalso
          have e1 : ¬ 0 < x.links := hg
          have e2 : ¬ 0 < x.holds := hg2
          simp [namedB, h1, e1, e2] at hkeep
  · have hm : T.reap n = { (T.put n none) with pool := if x.kind = 2 then T.pool.drop x.file else T.pool } := by unfold Tree.reap; rw [hx]; simp only; rw [if_neg hkeep]
    simp only [Bool.or_eq_true, decide_eq_true_eq, not_or, namedB] at hkeep
    obtain ⟨k, rfl, hnk⟩ := geti_nth hx
    have hkl := nth_lt _ _ _ hnk
    have hall := hS.all
    obtain ⟨tt, tn, pp, nv, lv, nc, lc, xs, cs, pc, hpm, hls, hs, hxs, hns, hpp⟩ := rtree_open1 hk hP hx
    have hpm2 : l.flatten.Perm (pc :: pt (γ ((k + 1 : Nat) : Int)) (.cells (rCells ((k + 1 : Nat) : Int) x lv) tn) :: lc :: pt t (.cells #[vi T.most, ptr pp 0, nv] tt) :: nc :: cs :: r).flatten := hpm.trans (perm_of_ct fun a => by
      simp only [List.flatten_cons, ct_append]; omega)
    refine scall_perm hpm2 (scall_post (S124_ok ?_))
    unfold S124
    refine rat_ok (hA.mono fun b o hb => by unfold Knows at hb ⊢; exact hpm2.mem_iff.1 hb) hS (fun y hy _ => ?_) (fun hy => by rw [hx] at hy; cases hy)
    refine r_join1 ?_
    refine r_bin (v := .bool (((k + 1 : Nat) : Int) == 1)) (by rfl) ?_
    have : (((k + 1 : Nat) : Int) == 1) = false := by simpa using hkeep.1.1.1
    rw [this]
    refine r_guard_f ?_
    refine r_nil ?_
    refine r_fa ?_
    refine r_load1 (x := vi x.links) (knows_there _ (knows_pt _ _ _)) (by rfl) ?_
    refine r_bin (by rfl) ?_
    refine r_guard_d (fun hg => absurd hg hkeep.1.2) (fun _ => ?_)
    refine r_nil ?_
    refine r_fa ?_
    refine r_load1 (x := vi x.holds) (knows_there _ (knows_pt _ _ _)) (by rfl) ?_
    refine r_bin (by rfl) ?_
    refine r_guard_d (fun hg => absurd hg hkeep.2) (fun _ => ?_)
    have hw : IntKind.i64.wrap (((k + 1 : Nat) : Int) - 1) = (k : Int) := by rw [wrap_id (by omega) (by omega)]; omega
    have fin : ∀ (pc' : Chunk) (P' : Pool), RPool pp P' pc' → (T.reap ((k + 1 : Nat) : Int)) = { (T.put ((k + 1 : Nat) : Int) none) with pool := P' } →
      (snil (ptr t 0) fun v40 =>
    sfa 2 v40 fun v41 =>
    sload none v41 fun v42 =>
    sbin Tryz.prog .none 3 .sub (vi ((k + 1 : Nat) : Int)) (.int .i64 1) fun v44 =>
    sidx none 1 v42 v44 fun v45 =>
    sstore 1 v45 (.pointer none) <|
    (fun v l' => ∃ l2, Ent l' l2 ∧ R v l2) (.tuple #[])) (pc' :: pt (γ ((k + 1 : Nat) : Int)) (.cells (rCells ((k + 1 : Nat) : Int) x lv) tn) :: lc :: pt t (.cells #[vi T.most, ptr pp 0, nv] tt) :: nc :: cs :: r) := by
      intro pc' P' hpp' hre
      refine r_nil ?_
      refine r_fa ?_
      refine r_load1 (x := nv) (knows_there _ (knows_there _ (knows_there _ (knows_pt _ _ _)))) (by rfl) ?_
      refine r_bin (by rfl) ?_
      rw [hw]
      refine r_idxSet hs (take_there _ (take_there _ (take_there _ (take_there _ (take_here _ _))))) hkl rfl rfl (fun nc' hnc' => ?_)
      refine ⟨[pt t (.cells #[vi T.most, ptr pp 0, nv] tt), nc', pc', cs].flatten :: r, ?_, h _ _ (by rw [hre]; exact rtree_gone hx hnc' hxs hns hpp')⟩
      refine Ent.trans (l' := pt (γ ((k + 1 : Nat) : Int)) (.cells (rCells ((k + 1 : Nat) : Int) x lv) tn) :: lc :: ([pt t (.cells #[vi T.most, ptr pp 0, nv] tt), nc', pc', cs].flatten :: r)) (Ent.of_perm (perm_of_ct fun a => ?_)) ((Ent.drop _ _).trans (Ent.drop _ _))
      simp only [List.flatten_cons, List.flatten_nil, ct_append, ct_nil]
      omega
    refine r_join0 ?_
    refine r_nil ?_
    refine r_fa ?_
    refine r_fa ?_
    refine r_load1 (x := vi x.kind) (knows_there _ (knows_pt _ _ _)) (by rfl) ?_
    refine r_bin (v := .bool (x.kind == 2)) (by rfl) ?_
    by_cases hk2 : x.kind = 2
    · have : (x.kind == 2) = true := by simpa using hk2
      rw [this]
      refine r_guard_t ?_
      refine r_nil ?_
      refine r_fa ?_
      refine r_load1 (x := ptr pp 0) (knows_there _ (knows_there _ (knows_there _ (knows_pt _ _ _)))) (by rfl) ?_
      refine r_nil ?_
      refine r_fa ?_
      refine r_load1 (x := vi x.file) (knows_there _ (knows_pt _ _ _)) (by rfl) ?_
      refine rpdrop_ok (P := T.pool) (take_here _ _) hpp hS.files (fun pc' v hpc' => ?_)
      exact fin pc' (T.pool.drop x.file) hpc' (by rw [hm, if_pos hk2])
    · have : (x.kind == 2) = false := by simpa using hk2
      rw [this]
      refine r_guard_f ?_
      exact fin pc T.pool hpp (by rw [hm, if_neg hk2])
end
end Go.Sl
namespace Go.Sl
variable [Ghost]
open Go Go.Mo Go.Proofs
attribute [local irreducible] snil sfa sext sfield sguard sun sbin slen sload sstore snew snewObj sbuildR sbuildSlR smakeMapR smakeSlR slookup smapset srangeMap snext sentry scall scallv sextern sbuiltin sidx sindex sslice sconv srangeX sarg sand sjoin0 sjoin1 sjoin2 sloop0 sloop1 sloop2
section
variable {l r : St} {sz n : Nat} {v : Value} {xs : List Value} {c : Chunk} {k : Value → SP}
theorem r_subC (hs : SlC sz v n xs c) (a b : Nat) {lo hi : Option Value} (ha : a ≤ b) (hb : b ≤ n) (hlo : bnd lo 0 a) (hhi : bnd hi n b)
    (h : ∀ v', (∀ (P : Program) (tx e' : TypeId) (l' : St), P.underlying tx = some (.slice e') → (∀ b o, (b, o) ∈ c → Knows l' b o) → SrcAt P l' sz tx v' (b - a) ((xs.drop (a * sz)).take ((b - a) * sz))) → k v' l) : sslice (some sz) v lo hi none k l := by
  obtain ⟨hl, hone, ⟨rfl, rfl, rfl⟩ | ⟨bk, cap, zs, ty, rfl, hcap, rfl, hall⟩⟩ := hs
  · have e1 : b = 0 := by omega
    have e2 : a = 0 := by omega
    subst e1; subst e2
    have hx0 : xs = [] := List.length_eq_zero_iff.1 (by simpa using hl)
    subst hx0
    unfold sslice
    refine ⟨0, 0, 0, hlo, hhi, rfl, Nat.le_refl _, Nat.le_refl _, Nat.le_refl _, (fun h => by cases h), h _ fun P tx e' l' ht _ F w _ => ?_⟩
    simp only [Nat.zero_mul, List.drop_nil, List.take_nil, if_true]
    exact Src.ofNil w ht 0
  · unfold sslice
    refine ⟨a, b, cap, hlo, hhi, rfl, ha, by omega, Nat.le_refl _, (fun h => by cases h), h _ fun P tx e' l' ht hin => ?_⟩
    by_cases hab : b - a = 0
    · have e0 : ((xs.drop (a * sz)).take ((b - a) * sz)) = [] := by rw [hab]; simp
      rw [e0, hab]
      intro F w _
      by_cases hca : cap = a
      · rw [if_pos hca]
        exact Src.ofSlice w ht _ 0 _ [] (by simp) (fun j u hj => by cases hj) (fun u hu => by cases hu)
      · rw [if_neg hca]
        exact Src.ofSlice w ht _ 0 _ [] (by simp) (fun j u hj => by cases hj) (fun u hu => by cases hu)
    · rw [if_neg (by omega)]
      simp only [Option.map_some, add_off]
      have hkn := hin bk (.cells (xs ++ zs).toArray ty) (by simp)
      have hle : a * sz + (b - a) * sz ≤ xs.length := by
        rw [hl, ← Nat.add_mul]; exact Nat.mul_le_mul_right _ (by omega)
      have htk := takeAt_take (takeAt_append xs zs) (a * sz) ((b - a) * sz) hle _ rfl
      refine srcAt_row ht hkn ?_ (by simpa using htk) fun u hu => hone u (List.mem_of_mem_drop (List.mem_of_mem_take hu))
      simp only [List.length_take, List.length_drop]
      omega
end
theorem ents_take : ∀ (L : List (Str × Int)) (i : Nat), (ents L).take (i * 2) = ents (L.take i)
  | [], i => by simp [ents]
  | p :: L, 0 => by simp [ents]
  | p :: L, i + 1 => by
    have := ents_take L i
    have e : (i + 1) * 2 = i * 2 + 1 + 1 := by omega
    rw [ents_cons, e, List.take_succ_cons, ents_cons]
    simp only [List.cons_append, List.nil_append, List.take_succ_cons, this]
theorem ents_drop : ∀ (L : List (Str × Int)) (i : Nat), (ents L).drop (i * 2) = ents (L.drop i)
  | [], i => by simp [ents]
  | p :: L, 0 => by simp
  | p :: L, i + 1 => by
    have := ents_drop L i
    have e : (i + 1) * 2 = i * 2 + 1 + 1 := by omega
    rw [ents_cons, e, List.drop_succ_cons]
    simp only [List.cons_append, List.nil_append, List.drop_succ_cons, this]
theorem delS_pos : ∀ {s : Str} {L : List (Str × Int)} {i : Nat}, posS s L = some i → delS s L = L.take i ++ L.drop (i + 1)
  | s, [], i, h => by cases h
  | s, (t, m) :: r, i, h => by
    simp only [posS] at h
    unfold delS
    split at h
    · rename_i e
      cases h
      rw [if_pos e]; simp
    · rename_i e
      rw [if_neg e]
      cases hp : posS s r with
      | none => rw [hp] at h; cases h
      | some j =>
        rw [hp] at h; cases h
        rw [delS_pos hp]; simp
section
variable {l r : St} {t p : Nat} {T : Tree} {γ : Int → Nat} {c : Chunk} {n dir : Int} {x d : Nd} {s : Str} {P : Pool} {R : Value → SP}
theorem rout_ok (hk : Take l c r) (hP : RTree t T γ c) (hS : Small T) (hd : T.at dir = some d) (hg : getS s d.names = some n) (hx : T.at n = some x) (hne : n ≠ dir) (hl1 : 1 ≤ x.links) (h : ∀ c' v, RTree t (T.take dir s n) γ c' → R v (c' :: r)) :
    scall Tryz.prog 88 #[ptr t 0, vi dir, vstr' s] R l := by
  have hA := r_at hk hP
  have hnb := hS.names dir d hd
  have hhl := hS.links n x hx
  obtain ⟨tt, tn, pp, nv, lv, nc, lc, xs, cs, pc, hpm, hls, hs, hxs, hns, hpp⟩ := rtree_open1 hk hP hd
  have hp := posS_get s d.names
  rw [hg] at hp
  obtain ⟨i, hi⟩ : ∃ i, posS s d.names = some i := by
    cases hq : posS s d.names with
    | none => rw [hq] at hp; cases hp
    | some i => exact ⟨i, rfl⟩
  rw [hi] at hp
  simp only at hp
  have hil := posS_lt hi
  obtain ⟨q, hq⟩ : ∃ q, d.names[i]? = some q := ⟨_, List.getElem?_eq_getElem hil⟩
  have hqn : q.2 = n := by rw [hq] at hp; simpa using hp.symm
  have hA2 : RAt (pt (γ dir) (.cells (rCells dir d lv) tn) :: lc :: pt t (.cells #[vi T.most, ptr pp 0, nv] tt) :: nc :: pc :: cs :: r) t T γ := hA.mono fun b o hb => by unfold Knows at hb ⊢; exact hpm.mem_iff.1 hb
  refine scall_perm hpm (scall_post (S88_ok ?_))
  unfold S88
  refine rat_ok hA2 hS (fun y hy hny => ?_) (fun hy => by rw [hd] at hy; cases hy)
  rw [hd] at hy; cases hy
  refine rnfind_ok hny hnb ?_
  have epos : posI s d.names = (i : Int) := by unfold posI; rw [hi]
  rw [epos]
  obtain ⟨lsp, lsn, lsc, rfl⟩ := hls.form
  have hlsa : SlAt (pt (γ dir) (.cells (rCells dir d (.slice lsp lsn lsc)) tn) :: lc :: pt t (.cells #[vi T.most, ptr pp 0, nv] tt) :: nc :: pc :: cs :: r) 2 (.slice lsp lsn lsc) d.names.length (ents d.names) := hls.at fun b o hb => knows_there _ (knows_in hb _)
  refine r_nil ?_
  refine r_fa ?_
  refine r_load1 (knows_pt _ _ _) (by rfl) ?_
  refine r_fld hlsa hil (by omega) (ents_get _ i q hq).2 ?_
  rw [hqn]
  refine r_nil ?_
  refine r_fa ?_
  refine r_load1 (knows_pt _ _ _) (by rfl) ?_
  refine r_subC hls 0 i (Nat.zero_le _) (by omega) rfl rfl (fun v31 hv31 => ?_)
  refine r_nil ?_
  refine r_fa ?_
  refine r_load1 (knows_pt _ _ _) (by rfl) ?_
  refine r_bin (by rfl) ?_
  have hw : IntKind.i64.wrap ((i : Int) + 1) = ((i + 1 : Nat) : Int) := by rw [wrap_id (by omega) (by omega)]; simp
  rw [hw]
  have hlsn : lsn = d.names.length := by
    obtain ⟨-, -, ⟨e1, e2, -⟩ | ⟨b, cap, zs, ty', e1, -⟩⟩ := hls
    · injection e1 with _ e3; omega
    · injection e1
  refine r_subC hls (i + 1) d.names.length (by omega) (Nat.le_refl _) rfl rfl (fun v39 hv39 => ?_)
  refine r_buildSl (ds := []) rfl (by omega) rfl (fun e => ?_)
  refine r_and (r_load1 (knows_there _ (knows_pt _ _ _)) (by rfl) rfl) ?_
  refine r_and (r_load1 (knows_there _ (knows_pt _ _ _)) (by rfl) rfl) ?_
  have hby : Tryz.t200.bytes = 24 := by kernel_rfl
  have hs0 : SlC 2 (.slice (some ⟨e, 0, none⟩) 0 0) 0 [] (pt e (.cells (List.toArray []) 200)) := ⟨rfl, by simp, .inr ⟨e, 0, [], 200, rfl, Nat.le_refl _, rfl, rfl⟩⟩
  refine r_append (e := 200) (i := Tryz.t200) (z := .agg #[.string ⟨#[]⟩, .int .i64 0]) (m := i - 0) (news := ((ents d.names).drop (0 * 2)).take ((i - 0) * 2)) (by kernel_rfl) (by kernel_rfl) (by kernel_rfl) (by kernel_rfl) rfl hs0 (take_here _ _)
    (hv31 _ _ 200 _ (by kernel_rfl) fun b o hb => knows_there _ (knows_there _ (knows_in hb _))) (by rw [hby]; omega) (by omega) (fun v32 c32 hc32 => ?_)
  refine r_and (r_load1 (knows_there _ (knows_pt _ _ _)) (by rfl) rfl) ?_
  refine r_append (e := 200) (i := Tryz.t200) (z := .agg #[.string ⟨#[]⟩, .int .i64 0]) (m := d.names.length - (i + 1)) (news := ((ents d.names).drop ((i + 1) * 2)).take ((d.names.length - (i + 1)) * 2)) (by kernel_rfl) (by kernel_rfl) (by kernel_rfl) (by kernel_rfl) rfl hc32 (take_here _ _)
    (hv39 _ _ 200 _ (by kernel_rfl) fun b o hb => knows_there _ (knows_there _ (knows_in hb _))) (by rw [hby]; omega) (by omega) (fun v40 c40 hc40 => ?_)
  obtain ⟨v4p, v4n, v4c, rfl⟩ := hc40.form
  refine r_nil ?_
  refine r_fa ?_
  refine r_store (l' := c40 :: pt (γ dir) (.cells (rCells dir { d with names := delS s d.names } (.slice v4p v4n v4c)) tn) :: lc :: pt t (.cells #[vi T.most, ptr pp 0, nv] tt) :: nc :: pc :: cs :: r) (knows_there _ (knows_pt _ _ _)) (by rfl) (by rfl) (by rfl) (by rfl) (change_there _ (change_pt _ _ _ _)) ?_
  have hents : SlC 2 (.slice v4p v4n v4c) (delS s d.names).length (ents (delS s d.names)) c40 := by
    have e1 : [] ++ ((ents d.names).drop (0 * 2)).take ((i - 0) * 2) ++ ((ents d.names).drop ((i + 1) * 2)).take ((d.names.length - (i + 1)) * 2) = ents (delS s d.names) := by
      have a1 : ((ents d.names).drop ((i + 1) * 2)).take ((d.names.length - (i + 1)) * 2) = ents (d.names.drop (i + 1)) := by
        rw [ents_drop]
        exact List.take_of_length_le (by rw [ents_len, List.length_drop]; omega)
      have a2 : ((ents d.names).drop (0 * 2)).take ((i - 0) * 2) = ents (d.names.take i) := by
        rw [Nat.zero_mul, List.drop_zero, Nat.sub_zero, ents_take]
      rw [a1, a2, delS_pos hi, ents_app]
      rfl
    have e2 : 0 + (i - 0) + (d.names.length - (i + 1)) = (delS s d.names).length := by
      rw [delS_pos hi, List.length_append, List.length_take, List.length_drop, Nat.min_eq_left (by omega)]; omega
    rw [← e1, ← e2]; exact hc40
  have hP1 := rtree_shut1 (x := d) (x' := { d with names := delS s d.names }) (tt := tt) (tn := tn) (t := t) (p := pp) (P' := T.pool) hd hents hs hxs hns hpp
  have hT1 : ({ T.put dir (some { d with names := delS s d.names }) with pool := T.pool } : Tree) = T.put dir (some { d with names := delS s d.names }) := rfl
  rw [hT1] at hP1
  have hx1 : (T.put dir (some { d with names := delS s d.names })).at n = some x := by rw [put_at hd, if_neg hne]; exact hx
  have hdl := delS_len s d.names
  have hS1 : Small (T.put dir (some { d with names := delS s d.names })) := hS.put hd ⟨by show (delS s d.names).length ≤ 2 ^ 30; omega, hS.links dir d hd, hS.holds dir d hd⟩
  generalize hc1 : [pt (γ dir) (.cells (rCells dir { d with names := delS s d.names } (.slice v4p v4n v4c)) tn), c40, pt t (.cells #[vi T.most, ptr pp 0, nv] tt), nc, pc, cs].flatten = c1 at hP1
  have hr : (c40 :: pt (γ dir) (.cells (rCells dir { d with names := delS s d.names } (.slice v4p v4n v4c)) tn) :: lc :: pt t (.cells #[vi T.most, ptr pp 0, nv] tt) :: nc :: pc :: cs :: r).flatten.Perm (c1 :: lc :: r).flatten := perm_of_ct fun a => by
    rw [← hc1]
    simp only [List.flatten_cons, List.flatten_nil, ct_append, ct_nil]; omega
  obtain ⟨tt2, tn2, pp2, nv2, lv2, nc2, lc2, xs2, cs2, pc2, hpm2, hls2, hs2, hxs2, hns2, hpp2⟩ := rtree_open1 (take_here c1 (lc :: r)) hP1 hx1
  have hA3 : RAt (pt (γ n) (.cells (rCells n x lv2) tn2) :: lc2 :: pt t (.cells #[vi (T.put dir (some { d with names := delS s d.names })).most, ptr pp2 0, nv2] tt2) :: nc2 :: pc2 :: cs2 :: lc :: r) t (T.put dir (some { d with names := delS s d.names })) γ := (r_at (take_here c1 (lc :: r)) hP1).mono fun b o hb => by unfold Knows at hb ⊢; exact hpm2.mem_iff.1 hb
  refine scall_perm (hr.trans hpm2) ?_
  refine rat_ok hA3 hS1 (fun y hy _ => ?_) (fun hy => by rw [hx1] at hy; cases hy)
  refine r_nil ?_
  refine r_fa ?_
  refine r_load1 (x := vi x.links) (knows_pt _ _ _) (by rfl) ?_
  refine r_bin (by rfl) ?_
  have hwl : IntKind.i64.wrap (x.links - 1) = x.links - 1 := wrap_id (by omega) (by omega)
  rw [hwl]
  refine r_nil ?_
  refine r_fa ?_
  refine r_store (l' := pt (γ n) (.cells (rCells n { x with links := x.links - 1 } lv2) tn2) :: lc2 :: pt t (.cells #[vi (T.put dir (some { d with names := delS s d.names })).most, ptr pp2 0, nv2] tt2) :: nc2 :: pc2 :: cs2 :: lc :: r) (knows_pt _ _ _) (by rfl) (by rfl) (by rfl) (by rfl) (change_pt _ _ _ _) ?_
  have hl' : T.less dir s n = (T.put dir (some { d with names := delS s d.names })).put n (some { x with links := x.links - 1, up := if x.kind = 1 then n else x.up }) := by
    simp only [Tree.less, hd, hx1]
  have fin : ∀ u : Int, u = (if x.kind = 1 then n else x.up) → scall Tryz.prog 124 #[ptr t 0, vi n] (fun _ => (fun v l' => ∃ l2, Ent l' l2 ∧ R v l2) (.tuple #[])) (pt (γ n) (.cells (rCells n { x with links := x.links - 1, up := u } lv2) tn2) :: lc2 :: pt t (.cells #[vi (T.put dir (some { d with names := delS s d.names })).most, ptr pp2 0, nv2] tt2) :: nc2 :: pc2 :: cs2 :: lc :: r) := by
    intro u hu
    have hP2 := rtree_shut1 (x := x) (x' := { x with links := x.links - 1, up := u }) (tt := tt2) (tn := tn2) (t := t) (p := pp2) (P' := T.pool) hx1 hls2 hs2 hxs2 hns2 hpp2
    have hT2 : ({ (T.put dir (some { d with names := delS s d.names })).put n (some { x with links := x.links - 1, up := u }) with pool := T.pool } : Tree) = T.less dir s n := by rw [hl', hu]; rfl
    rw [hT2] at hP2
    have hx2 : (T.less dir s n).at n = some { x with links := x.links - 1, up := u } := by rw [hl', hu, put_at hx1, if_pos rfl]
    refine scall_close [_, _, _, _, _, _] (lc :: r) ?_
    exact rreap_ok (take_here _ _) hP2 (hS.less hx hd hne hl1) hx2 (fun c' v hc' => ⟨c' :: r, ent_mid [_] _ _, h c' _ hc'⟩)
  refine r_join0 ?_
  refine r_nil ?_
  refine r_fa ?_
  refine r_fa ?_
  refine r_load1 (x := vi x.kind) (knows_pt _ _ _) (by rfl) ?_
  refine r_bin (v := .bool (x.kind == 1)) (by rfl) ?_
  by_cases hxk : x.kind = 1
  · have : (x.kind == 1) = true := by simpa using hxk
    rw [this]
    refine r_guard_t ?_
    refine r_nil ?_
    refine r_fa ?_
    refine r_store (l' := pt (γ n) (.cells (rCells n { x with links := x.links - 1, up := n } lv2) tn2) :: lc2 :: pt t (.cells #[vi (T.put dir (some { d with names := delS s d.names })).most, ptr pp2 0, nv2] tt2) :: nc2 :: pc2 :: cs2 :: lc :: r) (knows_pt _ _ _) (by rfl) (by rfl) (by rfl) (by rfl) (change_pt _ _ _ _) ?_
    exact fin n (by rw [if_pos hxk])
  · have : (x.kind == 1) = false := by simpa using hxk
    rw [this]
    refine r_guard_f ?_
    exact fin x.up (by rw [if_neg hxk])
end
end Go.Sl
namespace Go.Sl
variable [Ghost]
open Go Go.Mo Go.Proofs
attribute [local irreducible] snil sfa sext sfield sguard sun sbin slen sload sstore snew snewObj sbuildR sbuildSlR smakeMapR smakeSlR slookup smapset srangeMap snext sentry scall scallv sextern sbuiltin sidx sindex sslice sconv srangeX sarg sand sjoin0 sjoin1 sjoin2 sloop0 sloop1 sloop2
theorem bytesLess_eq : ∀ a b : Str, Op.bytesLess a b = lessS a b
  | [], [] => rfl
  | a :: x, [] => rfl
  | [], b :: y => rfl
  | a :: x, b :: y => by
    have ih := bytesLess_eq x y
    simp only [Op.bytesLess, lessS, ih]
    by_cases h1 : a.toNat < b.toNat
    · have : a < b := UInt8.lt_iff_toNat_lt.2 h1
      simp [h1, this]
    · have h2 : ¬ a < b := fun h => h1 (UInt8.lt_iff_toNat_lt.1 h)
      by_cases h3 : b.toNat < a.toNat
      · have h4 : a ≠ b := fun e => by subst e; omega
        have h5 : (a == b) = false := by simpa using h4
        simp [h1, h2, h3, h5]
      · have h4 : a = b := UInt8.toNat_inj.1 (by omega)
        simp [h4]
theorem r_strgt {P : Program} {ek : EqK} {t : TypeId} {a b : Str} {k : Value → SP} {l : St} (h : k (.bool (lessS b a)) l) : sbin P ek t .gtr (vstr' a) (vstr' b) k l := by
  refine r_bin (v := .bool !(Op.bytesLess (bs a).toList (bs b).toList || (bs a).toList == (bs b).toList)) rfl ?_
  rw [toList_bs, toList_bs, bytesLess_eq]
  have : (!(lessS a b || a == b)) = lessS b a := by
    by_cases e : a = b
    · subst e
      have : lessS a a = false := by
        cases h : lessS a a with
        | false => rfl
        | true => exact absurd h (lessS_irrefl a)
      simp [this]
    · have e2 : (a == b) = false := by simpa using e
      rw [e2, Bool.or_false]
      cases h1 : lessS a b with
      | true =>
        cases h2 : lessS b a with
        | true => exact absurd (lessS_trans h1 h2) (lessS_irrefl a)
        | false => rfl
      | false =>
        have := lessS_tri (a := a) (b := b) (by rw [h1]; decide) e
        rw [this]; rfl
  rw [this]; exact h
theorem insS_split {s : Str} {n : Int} : ∀ (A B : List (Str × Int)), (∀ q ∈ A, lessS q.1 s = true) → (∀ q ∈ B, lessS s q.1 = true) → insS s n (A ++ B) = A ++ (s, n) :: B
  | [], [], _, _ => rfl
  | [], (t, m) :: r, _, hB => by
    have h1 := hB (t, m) (.head _)
    have h2 : ¬ lessS t s = true := fun h => lessS_irrefl _ (lessS_trans h1 h)
    simp only [List.nil_append, insS, h2, if_false, Bool.false_eq_true]
  | (t, m) :: A, B, hA, hB => by
    have h1 := hA (t, m) (.head _)
    have ih := insS_split (n := n) A B (fun q hq => hA q (.tail _ hq)) hB
    simp only [List.cons_append, insS, h1, if_true, ih]
theorem set2 {E1 M Y E2 : List Value} (hM : M.length = 2) : (E1 ++ M ++ E2).take E1.length ++ Y ++ (E1 ++ M ++ E2).drop (E1.length + 2) = E1 ++ Y ++ E2 := by
  have h1 : (E1 ++ M ++ E2).take E1.length = E1 := by rw [List.append_assoc, List.take_left]
  have h2 : (E1 ++ M ++ E2).drop (E1.length + 2) = E2 := by
    rw [← hM, ← List.length_append, List.drop_left]
  rw [h1, h2]
section
variable {l r : St} {sz n : Nat} {v : Value} {xs : List Value} {c : Chunk}
theorem SlC.src {P : Program} {tx e' : TypeId} {l' : St} (ht : P.underlying tx = some (.slice e')) (hs : SlC sz v n xs c) (hin : ∀ b o, (b, o) ∈ c → Knows l' b o) : SrcAt P l' sz tx v n xs := by
  obtain ⟨hl, hone, ⟨rfl, rfl, rfl⟩ | ⟨bk, cap, zs, ty, rfl, hcap, rfl, hall⟩⟩ := hs
  · have hx0 : xs = [] := List.length_eq_zero_iff.1 (by simpa using hl)
    subst hx0
    exact fun F w _ => Src.ofNil w ht 0
  · exact srcAt_row ht (hin bk (.cells (xs ++ zs).toArray ty) (by simp)) hl (by rw [← hl]; simpa using takeAt_append xs zs) hone
end
section
variable {l r : St} {t p : Nat} {T : Tree} {γ : Int → Nat} {c : Chunk} {n dir : Int} {x d : Nd} {s : Str} {P : Pool} {R : Value → SP}
theorem rput_ok (hk : Take l c r) (hP : RTree t T γ c) (hS : Small T) (hd : T.at dir = some d) (hrow : RowOk d.names) (hg : getS s d.names = none) (hx : T.at n = some x) (hne : n ≠ dir) (h : ∀ c' v, RTree t (T.give dir s n) γ c' → R v (c' :: r)) :
    scall Tryz.prog 85 #[ptr t 0, vi dir, vstr' s, vi n] R l := by
  have hA := r_at hk hP
  have hnb := hS.names dir d hd
  have hhl := hS.links n x hx
  have hnone := getS_nomem hg
  obtain ⟨tt, tn, pp, nv, lv, nc, lc, xs, cs, pc, hpm, hls, hs, hxs, hns, hpp⟩ := rtree_open1 hk hP hd
  have hA2 : RAt (pt (γ dir) (.cells (rCells dir d lv) tn) :: lc :: pt t (.cells #[vi T.most, ptr pp 0, nv] tt) :: nc :: pc :: cs :: r) t T γ := hA.mono fun b o hb => by unfold Knows at hb ⊢; exact hpm.mem_iff.1 hb
  refine scall_perm hpm (scall_post (S85_ok ?_))
  unfold S85
  refine rat_ok hA2 hS (fun y hy hny => ?_) (fun hy => by rw [hd] at hy; cases hy)
  obtain ⟨lsp, lsn, lsc, rfl⟩ := hls.form
  refine r_buildSl (ds := []) rfl (by omega) rfl (fun e => ?_)
  refine r_nil ?_
  refine r_fa ?_
  refine r_load1 (knows_there _ (knows_pt _ _ _)) (by rfl) ?_
  have hby : Tryz.t200.bytes = 24 := by kernel_rfl
  have hs0 : SlC 2 (.slice (some ⟨e, 0, none⟩) 0 0) 0 [] (pt e (.cells (List.toArray []) 200)) := ⟨rfl, by simp, .inr ⟨e, 0, [], 200, rfl, Nat.le_refl _, rfl, rfl⟩⟩
  refine r_append (e := 200) (i := Tryz.t200) (z := .agg #[.string ⟨#[]⟩, .int .i64 0]) (m := d.names.length) (news := ents d.names) (by kernel_rfl) (by kernel_rfl) (by kernel_rfl) (by kernel_rfl) rfl hs0 (take_here _ _)
    (hls.src (e' := 200) (by kernel_rfl) fun b o hb => knows_there _ (knows_there _ (knows_in hb _))) (by rw [hby]; omega) (by omega) (fun v20 c20 hc20 => ?_)
  refine r_build (by rfl) ?_
  refine r_buildSl (ds := [vstr' s, vi n]) rfl (by omega) rfl (fun e2 => ?_)
  refine r_append (e := 200) (i := Tryz.t200) (z := .agg #[.string ⟨#[]⟩, .int .i64 0]) (m := 1) (news := [vstr' s, vi n]) (by kernel_rfl) (by kernel_rfl) (by kernel_rfl) (by kernel_rfl) rfl hc20 (take_there _ (take_here _ _))
    (srcAt_row (e' := 200) (by kernel_rfl) (knows_pt _ _ _) rfl rfl (by simp; exact ⟨rfl, rfl⟩)) (by rw [hby]; omega) (by omega) (fun v25 c25 hc25 => ?_)
  obtain ⟨v2p, v2n, v2c, rfl⟩ := hc25.form
  refine r_nil ?_
  refine r_fa ?_
  refine r_store (l' := c25 :: pt e2 (.cells (List.toArray [vstr' s, vi n]) 200) :: pt (γ dir) (.cells (rCells dir d (.slice v2p v2n v2c)) tn) :: lc :: pt t (.cells #[vi T.most, ptr pp 0, nv] tt) :: nc :: pc :: cs :: r) (knows_there _ (knows_there _ (knows_pt _ _ _))) (by rfl) (by rfl) (by rfl) (by rfl) (change_there _ (change_there _ (change_pt _ _ _ _))) ?_
  have hv2n : v2n = d.names.length + 1 := by
    obtain ⟨-, -, ⟨e1, e2, -⟩ | ⟨b, cap, zs, ty', e1, -⟩⟩ := hc25
    · omega
    · injection e1 with _ e3; omega
  subst hv2n
  refine r_nil ?_
  refine r_fa ?_
  refine r_load1 (knows_there _ (knows_there _ (knows_pt _ _ _))) (by rfl) ?_
  refine r_len_slice ?_
  refine r_bin (by rfl) ?_
  have hw0 : IntKind.i64.wrap (((d.names.length + 1 : Nat) : Int) - 1) = (d.names.length : Int) := by rw [wrap_id (by omega) (by omega)]; omega
  rw [hw0]
  obtain ⟨G, hG⟩ : ∃ G : St, G = pt e2 (.cells (List.toArray [vstr' s, vi n]) 200) :: pt (γ dir) (.cells (rCells dir d (.slice v2p (d.names.length + 1) v2c)) tn) :: lc :: pt t (.cells #[vi T.most, ptr pp 0, nv] tt) :: nc :: pc :: cs :: r := ⟨_, rfl⟩
  have hkd : ∀ c' : Chunk, Knows (c' :: G) (γ dir) (.cells (rCells dir d (.slice v2p (d.names.length + 1) v2c)) tn) := fun c' => by rw [hG]; exact knows_there _ (knows_there _ (knows_pt _ _ _))
  rw [← hG]
  refine r_loop1 (fun k w σ => ∃ (A B : List (Str × Int)) (c' : Chunk), w = vi A.length ∧ k = A.length ∧ d.names = A ++ B ∧ (∀ q ∈ B, lessS s q.1 = true) ∧ σ = c' :: G ∧ SlC 2 (.slice v2p (d.names.length + 1) v2c) (d.names.length + 1) (ents (A ++ (s, n) :: B)) c') d.names.length
    ⟨d.names, [], c25, rfl, rfl, by simp, (fun q hq => by cases hq), rfl, ?_⟩ ?_
  · have : ents (d.names ++ [(s, n)]) = [] ++ ents d.names ++ [vstr' s, vi n] := by rw [ents_app]; rfl
    rw [this]
    have e9 : 0 + d.names.length + 1 = d.names.length + 1 := by omega
    rw [e9] at hc25; exact hc25
  rintro k w σ ⟨A, B, c', rfl, rfl, hAB, hB, rfl, hsc⟩
  have hlen : A.length + B.length = d.names.length := by rw [hAB, List.length_append]
  have hsa : SlAt (c' :: G) 2 (.slice v2p (d.names.length + 1) v2c) (d.names.length + 1) (ents (A ++ (s, n) :: B)) := hsc.at fun b o hb => knows_in hb _
  have hgetA : (A ++ (s, n) :: B)[A.length]? = some (s, n) := by simp
  have fin : (∀ q ∈ A, lessS q.1 s = true) → scall Tryz.prog 58 #[ptr t 0, vi n] (fun v88 =>
    snil v88 fun v90 =>
    sfa 10 v90 fun v91 =>
    sload none v91 fun v92 =>
    sbin Tryz.prog .none 3 .add v92 (.int .i64 1) fun v93 =>
    snil v88 fun v94 =>
    sfa 10 v94 fun v95 =>
    sstore 1 v95 v93 <|
    snil v88 fun v97 =>
    sfa 0 v97 fun v98 =>
    sfa 1 v98 fun v99 =>
    sload none v99 fun v100 =>
    sbin Tryz.prog .none 3 .eql v100 (.int .i64 1) fun v101 =>
    sguard v101 (
      snil v88 fun v104 =>
      sfa 9 v104 fun v105 =>
      sstore 1 v105 (vi dir) <|
    (fun v l' => ∃ l2, Ent l' l2 ∧ R v l2) (.tuple #[])) (
    (fun v l' => ∃ l2, Ent l' l2 ∧ R v l2) (.tuple #[]))) (c' :: G) := by
    intro hAl
    have hins : insS s n d.names = A ++ (s, n) :: B := by rw [hAB]; exact insS_split A B hAl hB
    have hil : (insS s n d.names).length = d.names.length + 1 := by rw [hins]; simp; omega
    have hP1 := rtree_shut1 (x := d) (x' := { d with names := insS s n d.names }) (tt := tt) (tn := tn) (t := t) (p := pp) (lv := .slice v2p (d.names.length + 1) v2c) (lc := c') (P' := T.pool) hd (by
      show SlC 2 _ (insS s n d.names).length (ents (insS s n d.names)) c'
      rw [hil, hins]; exact hsc) hs hxs hns hpp
    have hT1 : ({ T.put dir (some { d with names := insS s n d.names }) with pool := T.pool } : Tree) = T.put dir (some { d with names := insS s n d.names }) := rfl
    rw [hT1] at hP1
    have hx1 : (T.put dir (some { d with names := insS s n d.names })).at n = some x := by rw [put_at hd, if_neg hne]; exact hx
    generalize hTT : T.put dir (some { d with names := insS s n d.names }) = T1 at hP1 hx1
    have hat1 : ∀ k z, T1.at k = some z → True := fun _ _ _ => trivial
    have hlen1 : T1.all.length = T.all.length := by rw [← hTT, put_len]
    have hg' : T.give dir s n = T1.put n (some { x with links := x.links + 1, up := if x.kind = 1 then dir else x.up }) := by
      simp only [Tree.give, hd, hTT, hx1]
    have hP1 : RTree t T1 γ [pt (γ dir) (.cells (rCells dir d (.slice v2p (d.names.length + 1) v2c)) tn), c', pt t (.cells #[vi T.most, ptr pp 0, nv] tt), nc, pc, cs].flatten := hP1
    generalize hc1 : [pt (γ dir) (.cells (rCells dir d (.slice v2p (d.names.length + 1) v2c)) tn), c', pt t (.cells #[vi T.most, ptr pp 0, nv] tt), nc, pc, cs].flatten = c1 at hP1
    have hr : (c' :: G).flatten.Perm (c1 :: lc :: pt e2 (.cells (List.toArray [vstr' s, vi n]) 200) :: r).flatten := perm_of_ct fun a => by
      rw [← hc1, hG]
      simp only [List.flatten_cons, List.flatten_nil, ct_append, ct_nil]; omega
    obtain ⟨tt2, tn2, pp2, nv2, lv2, nc2, lc2, xs2, cs2, pc2, hpm2, hls2, hs2, hxs2, hns2, hpp2⟩ := rtree_open1 (take_here c1 (lc :: pt e2 (.cells (List.toArray [vstr' s, vi n]) 200) :: r)) hP1 hx1
    have hA3 := (r_at (take_here c1 (lc :: pt e2 (.cells (List.toArray [vstr' s, vi n]) 200) :: r)) hP1).mono fun b o hb => (by unfold Knows at hb ⊢; exact hpm2.mem_iff.1 hb : Knows (pt (γ n) (.cells (rCells n x lv2) tn2) :: lc2 :: pt t (.cells #[vi T1.most, ptr pp2 0, nv2] tt2) :: nc2 :: pc2 :: cs2 :: lc :: pt e2 (.cells (List.toArray [vstr' s, vi n]) 200) :: r) b o)
    refine scall_perm (hr.trans hpm2) ?_
    refine rat_ok2 hA3 (by rw [hlen1]; exact hS.all) (fun y hy _ => ?_) (fun hy => by rw [hx1] at hy; cases hy)
    refine r_nil ?_
    refine r_fa ?_
    refine r_load1 (x := vi x.links) (knows_pt _ _ _) (by rfl) ?_
    refine r_bin (by rfl) ?_
    have hwl : IntKind.i64.wrap (x.links + 1) = x.links + 1 := wrap_id (by omega) (by omega)
    rw [hwl]
    refine r_nil ?_
    refine r_fa ?_
    refine r_store (l' := pt (γ n) (.cells (rCells n { x with links := x.links + 1 } lv2) tn2) :: lc2 :: pt t (.cells #[vi T1.most, ptr pp2 0, nv2] tt2) :: nc2 :: pc2 :: cs2 :: lc :: pt e2 (.cells (List.toArray [vstr' s, vi n]) 200) :: r) (knows_pt _ _ _) (by rfl) (by rfl) (by rfl) (by rfl) (change_pt _ _ _ _) ?_
    have close : ∀ u : Int, u = (if x.kind = 1 then dir else x.up) → (fun v l' => ∃ l2, Ent l' l2 ∧ R v l2) (.tuple #[]) (pt (γ n) (.cells (rCells n { x with links := x.links + 1, up := u } lv2) tn2) :: lc2 :: pt t (.cells #[vi T1.most, ptr pp2 0, nv2] tt2) :: nc2 :: pc2 :: cs2 :: lc :: pt e2 (.cells (List.toArray [vstr' s, vi n]) 200) :: r) := fun u hu => by
      have hP2 := rtree_shut1 (x := x) (x' := { x with links := x.links + 1, up := u }) (tt := tt2) (tn := tn2) (t := t) (p := pp2) (P' := T1.pool) hx1 hls2 hs2 hxs2 hns2 hpp2
      have hT2 : ({ T1.put n (some { x with links := x.links + 1, up := u }) with pool := T1.pool } : Tree) = T.give dir s n := by rw [hg', hu]; rfl
      rw [hT2] at hP2
      refine ⟨_, (ent_close [_, _, _, _, _, _] _).trans ((ent_mid [_] _ _).trans (ent_mid [_] _ _)), h _ _ hP2⟩
    refine r_nil ?_
    refine r_fa ?_
    refine r_fa ?_
    refine r_load1 (x := vi x.kind) (knows_pt _ _ _) (by rfl) ?_
    refine r_bin (v := .bool (x.kind == 1)) (by rfl) ?_
    by_cases hxk : x.kind = 1
    · have : (x.kind == 1) = true := by simpa using hxk
      rw [this]
      refine r_guard_t ?_
      refine r_nil ?_
      refine r_fa ?_
      refine r_store (l' := pt (γ n) (.cells (rCells n { x with links := x.links + 1, up := dir } lv2) tn2) :: lc2 :: pt t (.cells #[vi T1.most, ptr pp2 0, nv2] tt2) :: nc2 :: pc2 :: cs2 :: lc :: pt e2 (.cells (List.toArray [vstr' s, vi n]) 200) :: r) (knows_pt _ _ _) (by rfl) (by rfl) (by rfl) (by rfl) (change_pt _ _ _ _) ?_
      exact close dir (by rw [if_pos hxk])
    · have : (x.kind == 1) = false := by simpa using hxk
      rw [this]
      refine r_guard_f ?_
      exact close x.up (by rw [if_neg hxk])
  refine r_join1 ?_
  refine r_bin (by rfl) ?_
  refine r_guard_d (fun hgt => ?_) (fun hgt => ?_)
  rotate_left
  · refine r_guard_f ?_
    have hA0 : A = [] := List.length_eq_zero_iff.1 (by omega)
    exact fin (by rw [hA0]; intro q hq; cases hq)
  obtain ⟨A', q, rfl⟩ : ∃ A' q, A = A' ++ [q] := ⟨A.dropLast, A.getLast (by intro e; subst e; simp at hgt), (List.dropLast_concat_getLast _).symm⟩
  have hAl : (A' ++ [q]).length = A'.length + 1 := by simp
  have hw1 : IntKind.i64.wrap (((A' ++ [q]).length : Int) - 1) = (A'.length : Int) := by rw [hAl, wrap_id (by omega) (by omega)]; omega
  have hgetq : (A' ++ [q] ++ (s, n) :: B)[A'.length]? = some q := by simp
  refine r_nil ?_
  refine r_fa ?_
  refine r_load1 (hkd c') (by rfl) ?_
  refine r_bin (by rfl) ?_
  rw [hw1]
  refine r_fld hsa (by omega) (by omega) (ents_get _ _ q hgetq).1 ?_
  refine r_nil ?_
  refine r_fa ?_
  refine r_load1 (hkd c') (by rfl) ?_
  refine r_fld hsa (by omega) (by omega) (ents_get _ _ (s, n) hgetA).1 ?_
  refine r_strgt ?_
  cases hlt : lessS s q.1 with
  | false =>
    refine r_guard_f ?_
    refine fin fun q2 hq2 => ?_
    have hqs : q.1 ≠ s := hnone q (by rw [hAB]; simp)
    have hq1 : lessS q.1 s = true := lessS_tri (by rw [hlt]; decide) (fun e => hqs e.symm)
    rcases List.mem_append.1 hq2 with hq3 | hq3
    · rw [hAB] at hrow
      have h1 := (List.pairwise_append.1 hrow).1
      have h2 := (List.pairwise_append.1 h1).2.2 q2 hq3 q (.head _)
      exact lessS_trans h2 hq1
    · simp only [List.mem_cons, List.not_mem_nil, or_false] at hq3
      rw [hq3]; exact hq1
  | true =>
    refine r_guard_t ?_
    refine r_nil ?_
    refine r_fa ?_
    refine r_load1 (hkd c') (by rfl) ?_
    refine r_bin (by rfl) ?_
    rw [hw1]
    refine r_nil ?_
    refine r_fa ?_
    refine r_load1 (hkd c') (by rfl) ?_
    refine r_nil ?_
    refine r_fa ?_
    refine r_load1 (hkd c') (by rfl) ?_
    have hE : ents (A' ++ [q] ++ (s, n) :: B) = ents A' ++ [vstr' q.1, vi q.2] ++ ([vstr' s, vi n] ++ ents B) := by
      rw [ents_app, ents_app, ents_cons, ents_cons]
      simp [ents]
    have hEl : (ents A').length = A'.length * 2 := ents_len A'
    refine r_elemn (ys := [vstr' s, vi n]) hsa (by omega) ?_ ?_
    · rw [hE, hAl]
      have : (A'.length + 1) * 2 = (ents A' ++ [vstr' q.1, vi q.2]).length := by rw [List.length_append, hEl]; simp; omega
      rw [this, List.drop_left]; rfl
    refine r_nil ?_
    refine r_fa ?_
    refine r_load1 (hkd c') (by rfl) ?_
    refine r_bin (by rfl) ?_
    rw [hw1]
    refine r_elemn (ys := [vstr' q.1, vi q.2]) hsa (by omega) ?_ ?_
    · rw [hE, List.append_assoc, ← hEl, List.drop_left]; rfl
    obtain ⟨bk, cap, zs, ty, hbv, hbc⟩ := slC_base hsc (by omega)
    injection hbv with e1 e2 e3
    subst e1
    refine r_idx hsa (by omega) (fun b2 o2 cap2 cs2 ty2 fz2 ev _ _ => ?_)
    injection ev with ev1 ev2 ev3
    injection ev1 with ev1
    injection ev1 with ev1 ev4
    subst ev1; subst ev4
    refine r_setC (y := .agg (List.toArray [vstr' s, vi n])) hsc (take_here c' G) ⟨_, rfl⟩ (by rfl) (by omega) (by rfl) (fun c2 hc2 => ?_)
    have hX1 : (ents (A' ++ [q] ++ (s, n) :: B)).take (0 + A'.length * 2) ++ cellsL (.agg (List.toArray [vstr' s, vi n])) ++ (ents (A' ++ [q] ++ (s, n) :: B)).drop (0 + A'.length * 2 + 2) = (ents A' ++ [vstr' s, vi n]) ++ [vstr' s, vi n] ++ ents B := by
      rw [hE, Nat.zero_add, ← hEl]
      have := set2 (E1 := ents A') (M := [vstr' q.1, vi q.2]) (Y := [vstr' s, vi n]) (E2 := [vstr' s, vi n] ++ ents B) rfl
      exact this.trans (by simp)
    rw [hX1] at hc2
    have hsa2 : SlAt (c2 :: G) 2 (.slice (some ⟨bk, 0, none⟩) (d.names.length + 1) v2c) (d.names.length + 1) ((ents A' ++ [vstr' s, vi n]) ++ [vstr' s, vi n] ++ ents B) := hc2.at fun b o hb => knows_in hb _
    refine r_idx hsa2 (by omega) (fun b2 o2 cap2 cs2 ty2 fz2 ev _ _ => ?_)
    injection ev with ev1 ev2 ev3
    injection ev1 with ev1
    injection ev1 with ev1 ev4
    subst ev1; subst ev4
    refine r_setC (y := .agg (List.toArray [vstr' q.1, vi q.2])) hc2 (take_here c2 G) ⟨_, rfl⟩ (by rfl) (by omega) (by rfl) (fun c3 hc3 => ?_)
    have hX2 : ((ents A' ++ [vstr' s, vi n]) ++ [vstr' s, vi n] ++ ents B).take (0 + (A' ++ [q]).length * 2) ++ cellsL (.agg (List.toArray [vstr' q.1, vi q.2])) ++ ((ents A' ++ [vstr' s, vi n]) ++ [vstr' s, vi n] ++ ents B).drop (0 + (A' ++ [q]).length * 2 + 2) = ents (A' ++ (s, n) :: q :: B) := by
      have e1 : 0 + (A' ++ [q]).length * 2 = (ents A' ++ [vstr' s, vi n]).length := by simp only [List.length_append, List.length_cons, List.length_nil, hEl]; omega
      rw [e1]
      have := set2 (E1 := ents A' ++ [vstr' s, vi n]) (M := [vstr' s, vi n]) (Y := [vstr' q.1, vi q.2]) (E2 := ents B) rfl
      have e2 : ents (A' ++ (s, n) :: q :: B) = (ents A' ++ [vstr' s, vi n]) ++ [vstr' q.1, vi q.2] ++ ents B := by
        rw [ents_app, ents_cons, ents_cons]; simp
      rw [e2]
      exact this
    rw [hX2] at hc3
    refine r_bin (by rfl) ?_
    rw [hw1]
    refine ⟨A'.length, by simp, A', q :: B, c3, rfl, rfl, by rw [hAB]; simp, fun q2 hq2 => ?_, rfl, hc3⟩
    rcases List.mem_cons.1 hq2 with rfl | hq2
    · exact hlt
    · exact hB q2 hq2
end
end Go.Sl
namespace Go.Sl
variable [Ghost]
open Go Go.Mo Go.Proofs
attribute [local irreducible] snil sfa sext sfield sguard sun sbin slen sload sstore snew snewObj sbuildR sbuildSlR smakeMapR smakeSlR slookup smapset srangeMap snext sentry scall scallv sextern sbuiltin sidx sindex sslice sconv srangeX sarg sand sjoin0 sjoin1 sjoin2 sloop0 sloop1 sloop2
theorem bs_get (s : Str) (i : Nat) : (bs s)[i]? = s[i]? := by
  show (⟨s.toArray⟩ : ByteArray)[i]? = _
  by_cases hi : i < s.length
  · rw [List.getElem?_eq_getElem hi]
    exact getElem?_pos (⟨s.toArray⟩ : ByteArray) i (by simpa [ByteArray.size] using hi)
  · rw [List.getElem?_eq_none (by omega)]
    exact getElem?_neg (⟨s.toArray⟩ : ByteArray) i (by simpa [ByteArray.size] using hi)
theorem r_byte {s : Str} {i : Nat} {b : UInt8} {k : Value → SP} {l : St} (hb : s[i]? = some b) (h : k (.int .u8 (b.toNat : Int)) l) : sindex (vstr' s) (vi (i : Int)) k l := by
  unfold sindex
  exact ⟨b, by omega, by rw [bs_get]; simpa using hb, h⟩
theorem byte_eq (b : UInt8) (c : UInt8) : ((b.toNat : Int) == (c.toNat : Int)) = decide (b = c) := by
  by_cases h : b = c
  · subst h; simp
  · have : b.toNat ≠ c.toNat := fun e => h (UInt8.toNat_inj.1 e)
    simp [h]; omega
section
variable {l r : St} {t p : Nat} {T : Tree} {γ : Int → Nat} {c : Chunk} {n dir : Int} {x d : Nd} {s : Str} {P : Pool} {R : Value → SP}
theorem rdots_ok (h : R (.bool (s == [46] || s == [46, 46])) l) : scall Tryz.prog 122 #[vstr' s] R l := by
  refine S122_ok ?_
  unfold S122
  refine r_streq (a := s) (b := [46]) ?_
  by_cases h1 : s = [46]
  · have : decide (s = [46]) = true := by simpa using h1
    rw [this]
    refine r_guard_t ?_
    have : (s == [46] || s == [46, 46]) = true := by simp [h1]
    rw [this] at h; exact h
  · have : decide (s = [46]) = false := by simpa using h1
    rw [this]
    refine r_guard_f ?_
    refine r_streq (a := s) (b := [46, 46]) ?_
    have : (s == [46] || s == [46, 46]) = decide (s = [46, 46]) := by
      by_cases h2 : s = [46, 46] <;> simp [h1, h2]
    rw [this] at h; exact h
theorem rright_ok (hb : s.length ≤ 2 ^ 40) (h : R (.bool (rightN s)) l) : scall Tryz.prog 79 #[vstr' s] R l := by
  refine S79_ok ?_
  unfold S79
  refine r_loop1 (fun k w σ => ∃ i : Nat, σ = l ∧ w = vi i ∧ i ≤ s.length ∧ k = s.length - i ∧ ∀ j < i, ∀ b, s[j]? = some b → b ≠ 0 ∧ b ≠ 47) s.length ⟨0, rfl, rfl, Nat.zero_le _, rfl, fun j hj => absurd hj (by omega)⟩ ?_
  rintro k w σ ⟨i, hσ, rfl, hi, rfl, h0⟩
  have hσ' := hσ.symm
  subst hσ'
  refine r_strlen ?_
  refine r_bin (by rfl) ?_
  refine r_guard_d (fun hg => ?_) (fun hg => ?_)
  · have hlt : i < s.length := by omega
    obtain ⟨b, hbi⟩ : ∃ b, s[i]? = some b := ⟨_, List.getElem?_eq_getElem hlt⟩
    have hmem : b ∈ s := List.mem_of_getElem? hbi
    refine r_join1 ?_
    refine r_byte hbi ?_
    refine r_bin (v := .bool ((b.toNat : Int) == ((0 : UInt8).toNat : Int))) (by rfl) ?_
    rw [byte_eq]
    by_cases hb0 : b = 0
    · have : decide (b = 0) = true := by simpa using hb0
      rw [this]
      refine r_guard_t ?_
      refine r_guard_t ?_
      have : rightN s = false := by
        have : s.contains 0 = true := by rw [hb0] at hmem; simpa using hmem
        unfold rightN
        rw [this]
        simp only [Bool.not_true, Bool.and_false, Bool.false_and]
      rw [this] at h; exact h
    · have : decide (b = 0) = false := by simpa using hb0
      rw [this]
      refine r_guard_f ?_
      refine r_byte hbi ?_
      refine r_bin (v := .bool ((b.toNat : Int) == ((47 : UInt8).toNat : Int))) (by rfl) ?_
      rw [byte_eq]
      by_cases hb1 : b = 47
      · have : decide (b = 47) = true := by simpa using hb1
        rw [this]
        refine r_guard_t ?_
        have : rightN s = false := by
          have : s.contains 47 = true := by rw [hb1] at hmem; simpa using hmem
          unfold rightN
          rw [this]
          simp only [Bool.not_true, Bool.and_false, Bool.false_and]
        rw [this] at h; exact h
      · have : decide (b = 47) = false := by simpa using hb1
        rw [this]
        refine r_guard_f ?_
        refine r_bin (by rfl) ?_
        have hw : IntKind.i64.wrap ((i : Int) + 1) = ((i + 1 : Nat) : Int) := by rw [wrap_id (by omega) (by omega)]; simp
        rw [hw]
        refine ⟨s.length - (i + 1), by omega, i + 1, rfl, rfl, by omega, rfl, fun j hj b2 hb2 => ?_⟩
        by_cases hji : j = i
        · subst hji; rw [hbi] at hb2; cases hb2; exact ⟨hb0, hb1⟩
        · exact h0 j (by omega) b2 hb2
  · have hiL : i = s.length := by omega
    have hall : ∀ b ∈ s, b ≠ 0 ∧ b ≠ 47 := fun b hb => by
      obtain ⟨j, hj, hj2⟩ := List.mem_iff_getElem.1 hb
      exact h0 j (by omega) b (by rw [List.getElem?_eq_getElem hj, hj2])
    have hc0 : s.contains 0 = false := by
      cases hc : s.contains 0 with
      | false => rfl
      | true => exact absurd rfl (hall 0 (by simpa using hc)).1
    have hc47 : s.contains 47 = false := by
      cases hc : s.contains 47 with
      | false => rfl
      | true => exact absurd rfl (hall 47 (by simpa using hc)).2
    have hr : rightN s = (s.length != 0 && s.length ≤ 255 && !(s == [46] || s == [46, 46])) := by
      unfold rightN
      rw [hc0, hc47]
      simp only [Bool.not_false, Bool.and_true]
    refine r_strlen ?_
    refine r_bin (by rfl) ?_
    refine r_guard_d (fun hg1 => ?_) (fun hg1 => ?_)
    · refine r_strlen ?_
      refine r_bin (by rfl) ?_
      refine r_guard_d (fun hg2 => ?_) (fun hg2 => ?_)
      · refine rdots_ok ?_
        refine r_not ?_
        have e1 : (s.length != 0) = true := bne_iff_ne.2 (by omega)
        have e2 : decide (s.length ≤ 255) = true := decide_eq_true (by omega)
        rw [e1, e2, Bool.true_and, Bool.true_and] at hr
        rw [hr] at h; exact h
      · have e2 : decide (s.length ≤ 255) = false := decide_eq_false (by omega)
        rw [e2, Bool.and_false, Bool.false_and] at hr
        rw [hr] at h; exact h
    · have e1 : (s.length != 0) = false := by simpa using (by omega : s.length = 0)
      rw [e1, Bool.false_and, Bool.false_and] at hr
      rw [hr] at h; exact h
theorem posI_ge {s : Str} {L : List (Str × Int)} : (posI s L ≥ 0) ↔ (getS s L).isSome = true := by
  have hp := posS_get s L
  unfold posI
  cases hq : posS s L with
  | none => rw [hq] at hp; rw [hp]; simp
  | some i =>
    rw [hq] at hp
    simp only at hp
    obtain ⟨q, hq2⟩ : ∃ q, L[i]? = some q := ⟨_, List.getElem?_eq_getElem (posS_lt hq)⟩
    rw [hq2] at hp
    rw [hp]; simp
theorem rjoin_ok (hk : Take l c r) (hP : RTree t T γ c) (g : Good 0 T) (hS : Small T) (hb : s.length ≤ 2 ^ 40) (h : ∀ c', RTree t (T.join dir s n).1 γ c' → R (vi (T.join dir s n).2) (c' :: r)) : scall Tryz.prog 39 #[ptr t 0, vi dir, vstr' s, vi n] R l := by
  refine scall_perm (l' := c :: r) (by rw [List.flatten_cons]; exact hk) (S39_ok ?_)
  have hA := r_at (take_here c r) hP
  have fin : ∀ e : Int, T.join dir s n = (T, e) → R (vi e) (c :: r) := fun e hm => by
    rw [hm] at h; exact h c hP
  unfold S39
  have hj : T.join dir s n = (match T.dir dir, T.at n with
    | some d, some x =>
      if x.kind = 1 || !rightN s then (T, 1)
      else if (getS s d.names).isSome then (T, 35)
      else if !namedB dir d then (T, 32)
      else if 16 ≤ x.links then (T, 44)
      else (T.give dir s n, 0)
    | _, _ => (T, 1) : Tree × Int) := rfl
  refine rdir_ok hA hS (fun d hd hda hdk hdn => ?_) (fun hd => ?_)
  rotate_left
  · have hm : T.join dir s n = (T, 1) := by rw [hj, hd]
    refine rat_ok hA hS (fun x hx hxn => ?_) (fun hx => ?_)
    all_goals
      refine r_join1 ?_
      refine r_bin (v := .bool true) (by rfl) ?_
      refine r_guard_t ?_
      refine r_guard_t ?_
      exact fin 1 hm
  refine rat_ok hA hS (fun x hx hxn => ?_) (fun hx => ?_)
  rotate_left
  · have hm : T.join dir s n = (T, 1) := by rw [hj, hd, hx]
    refine r_join1 ?_
    refine r_bin (v := .bool false) (by rfl) ?_
    refine r_guard_f ?_
    refine r_bin (v := .bool true) (by rfl) ?_
    refine r_guard_t ?_
    refine r_guard_t ?_
    exact fin 1 hm
  rw [hd, hx] at hj
  simp only at hj
  obtain ⟨ty, lv, hkx, -⟩ := hxn
  refine r_join1 ?_
  refine r_bin (v := .bool false) (by rfl) ?_
  refine r_guard_f ?_
  refine r_bin (v := .bool false) (by rfl) ?_
  refine r_guard_f ?_
  refine rright_ok hb ?_
  refine r_not ?_
  cases hr : rightN s with
  | false =>
    refine r_guard_t ?_
    refine r_guard_t ?_
    exact fin 1 (by rw [hj, if_pos (by rw [hr]; simp)])
  | true =>
  refine r_guard_f ?_
  refine r_nil ?_
  refine r_fa ?_
  refine r_fa ?_
  refine r_load1 (x := vi x.kind) hkx (by rfl) ?_
  refine r_bin (v := .bool (x.kind == 1)) (by rfl) ?_
  by_cases hxk : x.kind = 1
  · have : (x.kind == 1) = true := by simpa using hxk
    rw [this]
    refine r_guard_t ?_
    exact fin 1 (by rw [hj, if_pos (by simp [hxk])])
  have : (x.kind == 1) = false := by simpa using hxk
  rw [this]
  rw [if_neg (by rw [hr]; simpa using hxk)] at hj
  refine r_guard_f ?_
  refine rnfind_ok hdn (hS.names dir d hda) ?_
  refine r_bin (by rfl) ?_
  refine r_guard_d (fun hg => ?_) (fun hg => ?_)
  · exact fin 35 (by rw [hj, if_pos (posI_ge.1 hg)])
  have hgs : getS s d.names = none := by
    cases hq : getS s d.names with
    | none => rfl
    | some q => exact absurd (posI_ge.2 (by rw [hq]; rfl)) hg
  rw [hgs, if_neg (by decide)] at hj
  have hdl := g.links dir d hda
  refine rgone_ok hA hS hda ?_ (by omega)
  cases hnb : namedB dir d with
  | false =>
    refine r_guard_t ?_
    exact fin 32 (by rw [hj, hnb]; rfl)
  | true =>
  rw [hnb, if_neg (by decide)] at hj
  refine r_guard_f ?_
  refine r_nil ?_
  refine r_fa ?_
  refine r_load1 (x := vi x.links) hkx (by rfl) ?_
  refine r_bin (by rfl) ?_
  refine r_guard_d (fun hg2 => ?_) (fun hg2 => ?_)
  · exact fin 44 (by rw [hj, if_pos hg2])
  · rw [if_neg hg2] at hj
    rw [hj] at h
    exact rput_ok (take_here c r) hP hS hda (g.row dir d hda) hgs hx (fun e => by subst e; rw [hx] at hda; cases hda; exact hxk hdk) (fun c' v hc' => h c' hc')
theorem rpart_ok (hk : Take l c r) (hP : RTree t T γ c) (g : Good 0 T) (hS : Small T) (h : ∀ c', RTree t (T.part dir s).1 γ c' → R (vi (T.part dir s).2) (c' :: r)) : scall Tryz.prog 41 #[ptr t 0, vi dir, vstr' s] R l := by
  refine scall_perm (l' := c :: r) (by rw [List.flatten_cons]; exact hk) (S41_ok ?_)
  have hA := r_at (take_here c r) hP
  have fin : ∀ e : Int, T.part dir s = (T, e) → R (vi e) (c :: r) := fun e hm => by
    rw [hm] at h; exact h c hP
  unfold S41
  refine rdir_ok hA hS (fun d hd hda hdk hdn => ?_) (fun hd => ?_)
  rotate_left
  · refine r_bin (v := .bool true) (by rfl) ?_
    refine r_guard_t ?_
    exact fin 1 (by simp [Tree.part, hd])
  refine r_bin (v := .bool false) (by rfl) ?_
  refine r_guard_f ?_
  refine rfind_ok hA hS ?_
  have hf : T.find dir s = getS s d.names := by simp [Tree.find, hd]
  rw [hf]
  refine r_ext (by rfl) ?_
  refine r_ext (by rfl) ?_
  refine r_not ?_
  cases hq : getS s d.names with
  | none =>
    refine r_guard_t ?_
    exact fin 32 (by simp [Tree.part, hd, hq])
  | some q =>
  obtain ⟨x, hx, hl1, hne, hw1⟩ := g.names.live dir d s q hd hq
  refine r_guard_f ?_
  refine rat_ok hA hS (fun y hy hyn => ?_) (fun hy => by rw [show (some q).getD 0 = q from rfl, hx] at hy; cases hy)
  rw [show (some q).getD 0 = q from rfl] at hy hyn ⊢
  rw [hx] at hy; cases hy
  obtain ⟨ty, lv, hkx, hsx⟩ := hyn
  refine r_nil ?_
  refine r_fa ?_
  refine r_load1 (x := lv) hkx (by rfl) ?_
  refine r_slen hsx ?_
  refine r_bin (by rfl) ?_
  refine r_guard_d (fun hg => ?_) (fun hg => ?_)
  · have hne0 : x.names.length ≠ 0 := by omega
    exact fin 47 (by simp only [Tree.part, hd, hq, hx]; simp [hne0])
  · have he0 : x.names.length = 0 := by omega
    have hm : T.part dir s = (T.take dir s q, 0) := by simp only [Tree.part, hd, hq, hx]; simp [he0]
    rw [hm] at h
    exact rout_ok (take_here c r) hP hS hda hq hx hne hl1 (fun c' v hc' => h c' hc')
theorem good_up {e : Int} (g : Good e T) (hx : T.at n = some x) (hk : x.kind = 1) (hu : x.up ≠ n) : ∃ d, T.dir x.up = some d := by
  have hl := g.links n x hx
  have h1 := g.one n x hx hk
  by_cases h0 : x.links = 0
  · by_cases hn1 : n = 1
    · subst hn1
      obtain ⟨-, y, hy, -, hyu⟩ := g.root
      rw [hx] at hy; cases hy
      exact absurd hyu hu
    · exact absurd (g.lone n x hx hk hn1 h0).1 hu
  · obtain ⟨-, d, s, hd, hs⟩ := g.upd n x hx hk (by omega)
    exact ⟨d, by simp [Tree.dir, hd, namer_dir g hd hs]⟩
theorem rwithin_ok (hT : RAt l t T γ) (g : Good 0 T) (hS : Small T) (h : R (.bool (T.within n dir)) l) : scall Tryz.prog 92 #[ptr t 0, vi n, vi dir] R l := by
  refine S92_ok ?_
  unfold S92
  refine rdir_ok hT hS (fun x hd hx hk hn => ?_) (fun hd => ?_)
  rotate_left
  · refine r_join1 ?_
    refine r_bin (v := .bool true) (by rfl) ?_
    refine r_guard_t ?_
    refine r_guard_t ?_
    have hw : T.within n dir = false := by
      unfold Tree.within
      have : withinGo T dir (T.all.length + 1) n = false := by simp only [withinGo, hd]
      rw [this, Bool.and_false]
    rw [hw] at h; exact h
  refine r_join1 ?_
  refine r_bin (v := .bool false) (by rfl) ?_
  refine r_guard_f ?_
  refine rdir_ok hT hS (fun y hdd _ _ _ => ?_) (fun hdd => ?_)
  rotate_left
  · refine r_bin (v := .bool true) (by rfl) ?_
    refine r_guard_t ?_
    have hw : T.within n dir = false := by simp [Tree.within, hdd]
    rw [hw] at h; exact h
  refine r_bin (v := .bool false) (by rfl) ?_
  refine r_guard_f ?_
  have hw : T.within n dir = withinGo T dir (T.all.length + 1) n := by simp [Tree.within, hdd]
  rw [hw] at h
  obtain ⟨W, hW⟩ : ∃ W, withinGo T dir (T.all.length + 1) n = W := ⟨_, rfl⟩
  rw [hW] at h
  have hE := g.ends n
  refine r_loop2 (fun k u v σ => ∃ (m : Int) (z : Nd), σ = l ∧ u = vi m ∧ v = ptr (γ m) 0 ∧ T.dir m = some z ∧ withinGo T dir k m = W ∧ endsIn T k m = true) (T.all.length + 1) ⟨n, x, rfl, rfl, rfl, hd, hW, hE⟩ ?_
  rintro k u v σ ⟨m, z, hσ, rfl, rfl, hdz, hwg, hend⟩
  have hσ' := hσ.symm
  subst hσ'
  obtain ⟨hza, hzk⟩ := dir_at hdz
  obtain ⟨_, _, _, _, _, hatt, _⟩ := hT.open
  obtain ⟨ty, lv, hkz, -⟩ := hatt m z hza
  cases k with
  | zero => simp [endsIn] at hend
  | succ k =>
    simp only [withinGo, hdz] at hwg
    simp only [endsIn, hdz, Bool.or_eq_true, decide_eq_true_eq] at hend
    refine r_nil ?_
    refine r_fa ?_
    refine r_load1 (x := vi z.up) hkz (by rfl) ?_
    refine r_bin (v := .bool (z.up != m)) (by rfl) ?_
    by_cases hu : z.up = m
    · have : (z.up != m) = false := by simpa using hu
      rw [this]
      rw [if_pos hu] at hwg
      refine r_guard_f ?_
      rw [← hwg] at h; exact h
    · have : (z.up != m) = true := bne_iff_ne.2 hu
      rw [this]
      rw [if_neg hu] at hwg
      have hend' := hend.resolve_left hu
      refine r_guard_t ?_
      refine r_nil ?_
      refine r_fa ?_
      refine r_load1 (x := vi z.up) hkz (by rfl) ?_
      refine r_bin (v := .bool (z.up == dir)) (by rfl) ?_
      by_cases hud : z.up = dir
      · have : (z.up == dir) = true := by simpa using hud
        rw [this]
        rw [if_pos hud] at hwg
        refine r_guard_t ?_
        rw [← hwg] at h; exact h
      · have : (z.up == dir) = false := by simpa using hud
        rw [this]
        rw [if_neg hud] at hwg
        refine r_guard_f ?_
        obtain ⟨d, hdu⟩ := good_up g hza hzk hu
        obtain ⟨hdua, -⟩ := dir_at hdu
        refine rat_ok hT hS (fun y2 hy2 _ => ?_) (fun hy2 => by rw [hdua] at hy2; cases hy2)
        exact ⟨k, by omega, z.up, d, rfl, rfl, rfl, hdu, hwg, hend'⟩
end
end Go.Sl
namespace Go.Sl
variable [Ghost]
open Go Go.Mo Go.Proofs
attribute [local irreducible] snil sfa sext sfield sguard sun sbin slen sload sstore snew snewObj sbuildR sbuildSlR smakeMapR smakeSlR slookup smapset srangeMap snext sentry scall scallv sextern sbuiltin sidx sindex sslice sconv srangeX sarg sand sjoin0 sjoin1 sjoin2 sloop0 sloop1 sloop2
theorem nth_ext {α : Type} : ∀ (xs ys : List (Option α)), xs.length = ys.length → (∀ k x, nth xs k = some (some x) ↔ nth ys k = some (some x)) → xs = ys
  | [], [], _, _ => rfl
  | [], y :: ys, h, _ => by simp at h
  | x :: xs, [], h, _ => by simp at h
  | x :: xs, y :: ys, h, h2 => by
    have h0 : x = y := by
      have := h2 0
      simp only [nth, Option.some.injEq] at this
      cases x with
      | none =>
        cases y with
        | none => rfl
        | some b => exact absurd ((this b).2 rfl) (by simp)
      | some a => exact ((this a).1 rfl).symm
    have ht := nth_ext xs ys (by simpa using h) (fun k z => by have := h2 (k + 1) z; simpa [nth] using this)
    rw [h0, ht]
theorem tree_ext {T U : Tree} (h1 : T.most = U.most) (h2 : T.pool = U.pool) (h3 : T.all.length = U.all.length) (h4 : ∀ n, T.at n = U.at n) : T = U := by
  have h5 : T.all = U.all := by
    refine nth_ext _ _ h3 fun k x => ?_
    have h := h4 ((k + 1 : Nat) : Int)
    constructor
    · intro hk
      have h6 : T.at ((k + 1 : Nat) : Int) = some x := nth_geti hk
      rw [h] at h6
      obtain ⟨j, hj, hj2⟩ := geti_nth h6
      have : j = k := by omega
      rw [← this]; exact hj2
    · intro hk
      have h6 : U.at ((k + 1 : Nat) : Int) = some x := nth_geti hk
      rw [← h] at h6
      obtain ⟨j, hj, hj2⟩ := geti_nth h6
      have : j = k := by omega
      rw [← this]; exact hj2
  cases T; cases U
  simp only at h1 h2 h5
  rw [h1, h2, h5]
def rawT (T : Tree) (st : Stt) (text : Str) : Tree := (addT T st text).put ((T.all.length + 1 : Nat) : Int) (some { newNd T st text with up := 0 })
theorem raw_at {T : Tree} {st : Stt} {text : Str} (k : Int) : (rawT T st text).at k = if k = ((T.all.length + 1 : Nat) : Int) then some { newNd T st text with up := 0 } else T.at k := by
  unfold rawT
  have h : (addT T st text).at ((T.all.length + 1 : Nat) : Int) = some (newNd T st text) := by rw [add_at, if_pos rfl]
  rw [put_at h]
  split
  · rfl
  · rename_i hk; rw [add_at, if_neg hk]
theorem raw_all {T : Tree} {st : Stt} {text : Str} : (rawT T st text).all = T.all ++ [some { newNd T st text with up := 0 }] := by
  show setNth (T.all ++ [some (newNd T st text)]) T.all.length _ = _
  generalize T.all = xs
  induction xs with
  | nil => rfl
  | cons o r ih => simp only [List.cons_append, List.length_cons, setNth, ih]
theorem raw_give {T : Tree} {st : Stt} {text : Str} {dir : Int} {d : Nd} {s : Str} (hd : T.at dir = some d) : (rawT T st text).give dir s ((T.all.length + 1 : Nat) : Int) = (addT T st text).give dir s ((T.all.length + 1 : Nat) : Int) := by
  have hne : ((T.all.length + 1 : Nat) : Int) ≠ dir := fun e => at_lt hd e.symm
  have hd1 : (rawT T st text).at dir = some d := by rw [raw_at, if_neg (fun e => hne e.symm)]; exact hd
  have hd2 : (addT T st text).at dir = some d := by rw [add_at, if_neg (fun e => hne e.symm)]; exact hd
  have hx1 : (rawT T st text).at ((T.all.length + 1 : Nat) : Int) = some { newNd T st text with up := 0 } := by rw [raw_at, if_pos rfl]
  have hx2 : (addT T st text).at ((T.all.length + 1 : Nat) : Int) = some (newNd T st text) := by rw [add_at, if_pos rfl]
  have hg : ∀ (U : Tree) (x : Nd), U.at dir = some d → U.at ((T.all.length + 1 : Nat) : Int) = some x → (U.give dir s ((T.all.length + 1 : Nat) : Int)).most = U.most ∧ (U.give dir s ((T.all.length + 1 : Nat) : Int)).pool = U.pool ∧ (U.give dir s ((T.all.length + 1 : Nat) : Int)).all.length = U.all.length := fun U x h1 h2 => by
    have h3 : (U.put dir (some { d with names := insS s ((T.all.length + 1 : Nat) : Int) d.names })).at ((T.all.length + 1 : Nat) : Int) = some x := by rw [put_at h1, if_neg hne]; exact h2
    simp only [Tree.give, h1, h3]
    exact ⟨rfl, rfl, by rw [put_len, put_len]⟩
  obtain ⟨a1, a2, a3⟩ := hg _ _ hd1 hx1
  obtain ⟨b1, b2, b3⟩ := hg _ _ hd2 hx2
  refine tree_ext (by rw [a1, b1]; rfl) (by rw [a2, b2]; rfl) (by rw [a3, b3]; exact put_len _ _ _) fun k => ?_
  rw [give_at hd1 hx1 hne, give_at hd2 hx2 hne]
  split
  · congr 1
    simp only [newNd]
    by_cases hk : st.kind = 1
    · simp [hk]
    · simp [hk]
  · rename_i hk
    split
    · rfl
    · rw [raw_at, if_neg hk, add_at, if_neg hk]
section
variable {l r : St} {t p : Nat} {T : Tree} {γ : Int → Nat} {c : Chunk} {n dir : Int} {x d : Nd} {s text : Str} {st : Stt} {P : Pool} {R : Value → SP}
theorem rnodes_upd {γ : Int → Nat} {xs : List (Int × Nd)} {cs : Chunk} (h : RNodes γ xs cs) {n : Int} {b : Nat} : n ∉ xs.map Prod.fst → RNodes (updB γ n b) xs cs := by
  induction h with
  | nil => intro _; exact .nil
  | @cons m y c xs cs hp hr ih =>
    intro hn
    simp only [List.map_cons, List.mem_cons, not_or] at hn
    refine .cons ?_ (ih hn.2)
    have : updB γ n b m = γ m := by unfold updB; rw [if_neg (fun e => hn.1 e.symm)]
    rw [this]; exact hp
theorem raw_shut {tt tn : TypeId} {nv : Value} {nc pc cs : Chunk} {xs : List (Int × Nd)} {nb : Nat}
    (hs : SlC 1 nv (T.all.length + 1) (ptrsR γ 1 T.all ++ [ptr nb 0]) nc) (h1 : xs.Perm T.lives) (h2 : RNodes γ xs cs) (h4 : RPool p (rawT T st text).pool pc) :
    RTree t (rawT T st text) (updB γ ((T.all.length + 1 : Nat) : Int) nb) [pt t (.cells #[vi T.most, ptr p 0, nv] tt), nc, pc, pt nb (.cells (rCells ((T.all.length + 1 : Nat) : Int) { newNd T st text with up := 0 } nilV) tn), cs].flatten := by
  have hnot : ((T.all.length + 1 : Nat) : Int) ∉ xs.map Prod.fst := fun hm => not_live_len T.all _ rfl ((h1.map _).mem_iff.1 hm)
  have hb : updB γ ((T.all.length + 1 : Nat) : Int) nb ((T.all.length + 1 : Nat) : Int) = nb := by unfold updB; rw [if_pos rfl]
  refine ⟨tt, p, nv, nc, (((T.all.length + 1 : Nat) : Int), { newNd T st text with up := 0 }) :: xs, [(nb, .cells (rCells ((T.all.length + 1 : Nat) : Int) { newNd T st text with up := 0 } nilV) tn)] ++ cs, pc, perm_of_ct fun a => ?_, ?_, ?_, .cons ?_ (rnodes_upd h2 hnot), h4⟩
  · simp only [List.flatten_cons, List.flatten_nil, ct_append, ct_cons, ct_nil, pt]
    show _ = c1 a (t, Obj.cells #[vi T.most, ptr p 0, nv] tt) + _
    omega
  · rw [raw_all, ptrsR_app, ptrsR_upd γ _ nb 1 T.all (by omega), List.length_append]
    have e1 : ((1 + T.all.length : Nat) : Int) = ((T.all.length + 1 : Nat) : Int) := by omega
    rw [e1, hb]; exact hs
  · show (_ :: xs).Perm (liveFrom 1 (rawT T st text).all)
    rw [raw_all, live_snoc]
    refine (h1.cons _).trans ?_
    have e : ((1 + T.all.length : Nat) : Int) = ((T.all.length + 1 : Nat) : Int) := by omega
    rw [e]
    exact (List.perm_append_singleton _ _).symm
  · rw [hb]; exact ⟨tn, nilV, [], rfl, slC_nil 2⟩
theorem rmake_ok (hk : Take l c r) (hP : RTree t T γ c) (g : Good 0 T) (hS : Small T) (hf : Full T) (hS1 : T.all.length + 1 ≤ 2 ^ 30) (hS2 : T.pool.fs.length + 1 ≤ 2 ^ 30) (hb : s.length ≤ 2 ^ 40)
    (h : ∀ c' γ', RTree t (T.make dir s st text).1 γ' c' → R (.tuple #[vi (T.make dir s st text).2.1, vi (T.make dir s st text).2.2]) (c' :: r)) :
    scall Tryz.prog 37 #[ptr t 0, vi dir, vstr' s, sttV st, vstr' text] R l := by
  have hA := r_at hk hP
  obtain ⟨tt, pp, nv, nc, xs, cs, pc, hc, hs, hxs, hns, hpp⟩ := hP
  have hP0 : RTree t T γ ((t, .cells #[vi T.most, ptr pp 0, nv] tt) :: (nc ++ (pc ++ cs))) := ⟨tt, pp, nv, nc, xs, cs, pc, .refl _, hs, hxs, hns, hpp⟩
  have hpm : l.flatten.Perm (pt t (.cells #[vi T.most, ptr pp 0, nv] tt) :: nc :: pc :: cs :: r).flatten := hk.trans (perm_of_ct fun a => by
    have h1 := ct_of_perm hc a
    simp only [List.flatten_cons, ct_append, ct_cons, ct_nil, pt] at h1 ⊢
    omega)
  have hA1 : RAt (pt t (.cells #[vi T.most, ptr pp 0, nv] tt) :: nc :: pc :: cs :: r) t T γ := hA.mono fun b o hb => by unfold Knows at hb ⊢; exact hpm.mem_iff.1 hb
  refine scall_perm hpm (scall_post (S37_ok ?_))
  unfold S37
  refine r_new fun b8 => ?_
  have k8 : ∀ σ : St, Knows (pt b8 (.cells (sttV st).cells 42) :: σ) b8 (.cells #[vi st.node, vi st.kind, vi st.mode, vi st.uid, vi st.gid, vi st.links, vi st.size] 42) := fun σ => knows_pt _ _ _
  have hA2 := hA1.there (pt b8 (.cells (sttV st).cells 42))
  have hPc : RTree t T γ [pt t (.cells #[vi T.most, ptr pp 0, nv] tt), nc, pc, cs].flatten := by
    refine ⟨tt, pp, nv, nc, xs, cs, pc, perm_of_ct fun a => ?_, hs, hxs, hns, hpp⟩
    simp only [List.flatten_cons, List.flatten_nil, ct_append, ct_cons, ct_nil, pt]; omega
  have bad : ∀ e : Int, T.make dir s st text = (T, 0, e) → ∃ l2, Ent (pt b8 (.cells (sttV st).cells 42) :: pt t (.cells #[vi T.most, ptr pp 0, nv] tt) :: nc :: pc :: cs :: r) l2 ∧ R (.tuple #[vi 0, vi e]) l2 := fun e hm => by
    rw [hm] at h
    exact ⟨_, (Ent.drop _ _).trans (ent_close [_, _, _, _] r), h _ γ hPc⟩
  have hmk : T.make dir s st text = (match T.dir dir with
    | none => (T, 0, 1)
    | some d =>
      if !rightN s || st.kind < 1 || 3 < st.kind || (text != [] && st.kind != 3) then (T, 0, 1)
      else if (getS s d.names).isSome then (T, 0, 35)
      else if !namedB dir d then (T, 0, 32)
      else if st.kind = 1 && 16 ≤ T.dirs dir d then (T, 0, 44)
      else if T.most ≤ T.live.length then (T, 0, 43)
      else ((addT T st text).give dir s ((T.all.length + 1 : Nat) : Int), ((T.all.length + 1 : Nat) : Int), 0) : Tree × Int × Int) := by
    unfold Tree.make addT
    rfl
  refine rdir_ok hA2 hS (fun d hd hda hdk hdn => ?_) (fun hd => ?_)
  rotate_left
  · rw [hd] at hmk
    refine r_join1 ?_
    refine r_bin (v := .bool true) (by rfl) ?_
    refine r_guard_t ?_
    refine r_guard_t ?_
    exact bad 1 hmk
  rw [hd] at hmk
  simp only at hmk
  unfold sjoin1
  refine ⟨fun vs σ => vs = [.bool (!rightN s || st.kind < 1 || 3 < st.kind || (text != [] && st.kind != 3))] ∧ σ = pt b8 (.cells (sttV st).cells 42) :: pt t (.cells #[vi T.most, ptr pp 0, nv] tt) :: nc :: pc :: cs :: r, ?_, ?_⟩
  rotate_left
  · refine r_bin (v := .bool false) (by rfl) ?_
    refine r_guard_f ?_
    refine rright_ok hb ?_
    refine r_not ?_
    cases hr : rightN s with
    | false =>
      refine r_guard_t ?_
      exact ⟨by simp, rfl⟩
    | true =>
      refine r_guard_f ?_
      refine r_fa ?_
      refine r_load1 (x := vi st.kind) (k8 _) (by rfl) ?_
      refine r_bin (by rfl) ?_
      refine r_guard_d (fun hg => ?_) (fun hg => ?_)
      · exact ⟨by simp [hg], rfl⟩
      refine r_fa ?_
      refine r_load1 (x := vi st.kind) (k8 _) (by rfl) ?_
      refine r_bin (by rfl) ?_
      refine r_guard_d (fun hg2 => ?_) (fun hg2 => ?_)
      · have hg2 : 3 < st.kind := hg2
        exact ⟨by simp [hg2], rfl⟩
      have hg2 : ¬ 3 < st.kind := hg2
      refine r_strne (a := text) (b := []) ?_
      by_cases ht : text = []
      · have : decide (text ≠ []) = false := by simpa using ht
        rw [this]
        refine r_guard_f ?_
        exact ⟨by simp [hg, hg2, ht], rfl⟩
      · have : decide (text ≠ []) = true := by simpa using ht
        rw [this]
        refine r_guard_t ?_
        refine r_fa ?_
        refine r_load1 (x := vi st.kind) (k8 _) (by rfl) ?_
        refine r_bin (v := .bool (st.kind != 3)) (by rfl) ?_
        exact ⟨by simp [hg, hg2, ht], rfl⟩
  rintro v σ ⟨hv, rfl⟩
  cases hv
  cases hcond : (!rightN s || decide (st.kind < 1) || decide (3 < st.kind) || (text != [] && st.kind != 3)) with
  | true =>
    rw [hcond] at hmk
    refine r_guard_t ?_
    exact bad 1 hmk
  | false =>
  rw [hcond] at hmk
  simp only [Bool.false_eq_true, if_false] at hmk
  refine r_guard_f ?_
  refine rnfind_ok hdn (hS.names dir d hda) ?_
  refine r_bin (by rfl) ?_
  refine r_guard_d (fun hg => ?_) (fun hg => ?_)
  · exact bad 35 (by rw [hmk, if_pos (posI_ge.1 hg)])
  have hgs : getS s d.names = none := by
    cases hq : getS s d.names with
    | none => rfl
    | some q => exact absurd (posI_ge.2 (by rw [hq]; rfl)) hg
  rw [hgs, if_neg (by decide)] at hmk
  have hdl := g.links dir d hda
  refine rgone_ok hA2 hS hda ?_ (by omega)
  cases hnb : namedB dir d with
  | false =>
    rw [hnb] at hmk
    refine r_guard_t ?_
    exact bad 32 hmk
  | true =>
  rw [hnb, if_neg (by decide)] at hmk
  refine r_guard_f ?_
  refine ⟨fun vs σ => vs = [.bool (st.kind = 1 && 16 ≤ T.dirs dir d)] ∧ σ = pt b8 (.cells (sttV st).cells 42) :: pt t (.cells #[vi T.most, ptr pp 0, nv] tt) :: nc :: pc :: cs :: r, ?_, ?_⟩
  rotate_left
  · refine r_fa ?_
    refine r_load1 (x := vi st.kind) (k8 _) (by rfl) ?_
    refine r_bin (v := .bool (st.kind == 1)) (by rfl) ?_
    by_cases hk1 : st.kind = 1
    · have : (st.kind == 1) = true := by simpa using hk1
      rw [this]
      refine r_guard_t ?_
      refine rlinks_ok hA2 hS g hda ?_
      rw [if_pos hdk]
      refine r_bin (v := .bool (decide (T.dirs dir d ≥ 16))) (by rfl) ?_
      exact ⟨by simp [hk1], rfl⟩
    · have : (st.kind == 1) = false := by simpa using hk1
      rw [this]
      refine r_guard_f ?_
      exact ⟨by simp [hk1], rfl⟩
  rintro v σ ⟨hv, rfl⟩
  cases hv
  cases hml : (decide (st.kind = 1) && decide (16 ≤ T.dirs dir d)) with
  | true =>
    rw [hml] at hmk
    refine r_guard_t ?_
    exact bad 44 hmk
  | false =>
  rw [hml, if_neg (by decide)] at hmk
  refine r_guard_f ?_
  refine rleft_ok hA2 hS hf ?_
  have hf2 : (T.live.length : Int) ≤ T.most ∧ T.most ≤ 64 := hf
  refine r_bin (v := .bool (T.most - T.live.length == 0)) (by rfl) ?_
  by_cases hfull : T.most ≤ T.live.length
  · have : (T.most - (T.live.length : Int) == 0) = true := by simp; omega
    rw [this]
    rw [if_pos hfull] at hmk
    refine r_guard_t ?_
    exact bad 43 hmk
  have : (T.most - (T.live.length : Int) == 0) = false := by simp; omega
  rw [this]
  rw [if_neg hfull] at hmk
  refine r_guard_f ?_
  rw [hmk] at h
  simp only at h
  have hcond' : ¬ st.kind < 1 ∧ ¬ 3 < st.kind := by
    simp only [Bool.or_eq_false_iff, decide_eq_false_iff_not] at hcond
    exact ⟨hcond.1.1.2, hcond.1.2⟩
  obtain ⟨nvp, nvn, nvc, rfl⟩ := hs.form
  have hnvn : nvn = T.all.length := by
    obtain ⟨-, -, ⟨e1, e2, -⟩ | ⟨b, cap, zs, ty', e1, -⟩⟩ := hs
    · injection e1 with _ e3; omega
    · injection e1
  subst hnvn
  refine r_nil ?_
  refine r_fa ?_
  refine r_load1 (knows_there _ (knows_pt _ _ _)) (by rfl) ?_
  refine r_len_slice ?_
  refine r_bin (by rfl) ?_
  have hwN : IntKind.i64.wrap ((T.all.length : Int) + 1) = ((T.all.length + 1 : Nat) : Int) := by rw [wrap_id (by omega) (by omega)]; simp
  rw [hwN]
  refine r_fa ?_
  refine r_load1 (x := vi st.kind) (k8 _) (by rfl) ?_
  refine r_fa ?_
  refine r_load1 (x := vi st.mode) (k8 _) (by rfl) ?_
  refine r_fa ?_
  refine r_load1 (x := vi st.uid) (k8 _) (by rfl) ?_
  refine r_fa ?_
  refine r_load1 (x := vi st.gid) (k8 _) (by rfl) ?_
  refine rmasked_ok ?_
  refine r_and (r_load1 (x := vi st.gid) (k8 _) (by rfl) rfl) ?_
  refine r_and (r_load1 (x := vi st.uid) (k8 _) (by rfl) rfl) ?_
  refine r_and (r_load1 (x := vi st.kind) (k8 _) (by rfl) rfl) ?_
  refine r_build (by rfl) ?_
  refine r_build (by rfl) ?_
  refine r_new fun nb => ?_
  have fin : ∀ (file : Int) (pc' : Chunk), RPool pp (rawT T st text).pool pc' → file = (newNd T st text).file →
      (snil (ptr t 0) fun v96 =>
    sfa 2 v96 fun v97 =>
    sload none v97 fun v98 =>
    sbuildSlR 123 1 (.pointer none) 1 #[(0, ptr nb 0)] fun v100 =>
    sbuiltin Tryz.prog .append #[148, 148] 148 #[false, false] #[v98, v100] fun v101 =>
    snil (ptr t 0) fun v102 =>
    sfa 2 v102 fun v103 =>
    sstore 1 v103 v101 <|
    scall Tryz.prog 85 #[ptr t 0, vi dir, vstr' s, vi ((T.all.length + 1 : Nat) : Int)] fun _ =>
    (fun v l' => ∃ l2, Ent l' l2 ∧ R v l2) (.tuple #[vi ((T.all.length + 1 : Nat) : Int), .int .i64 0])) (pt nb (.cells (rCells ((T.all.length + 1 : Nat) : Int) { newNd T st text with up := 0, file := file } nilV) 127) :: pt b8 (.cells (sttV st).cells 42) :: pt t (.cells #[vi T.most, ptr pp 0, .slice nvp T.all.length nvc] tt) :: nc :: pc' :: cs :: r) := by
    intro file pc' hpc' hfile
    subst hfile
    refine r_nil ?_
    refine r_fa ?_
    refine r_load1 (knows_there _ (knows_there _ (knows_pt _ _ _))) (by rfl) ?_
    refine r_buildSl (ds := [ptr nb 0]) rfl (by omega) rfl (fun e => ?_)
    refine r_append (e := 123) (i := Tryz.t123) (z := .pointer none) (m := 1) (news := [ptr nb 0]) (by kernel_rfl) (by kernel_rfl) (by kernel_rfl) (by kernel_rfl) rfl hs (take_there _ (take_there _ (take_there _ (take_there _ (take_here _ _)))))
      (srcAt_row (e' := 123) (by kernel_rfl) (knows_pt _ _ _) rfl rfl (by simp; rfl)) ?_ (by omega) (fun v' c' hs' => ?_)
    · have : Tryz.t123.bytes = 8 := by kernel_rfl
      rw [this]; omega
    obtain ⟨vp, vn, vcap, rfl⟩ := hs'.form
    refine r_nil ?_
    refine r_fa ?_
    refine r_store (l' := c' :: pt e (.cells (List.toArray [ptr nb 0]) 123) :: pt nb (.cells (rCells ((T.all.length + 1 : Nat) : Int) { newNd T st text with up := 0 } nilV) 127) :: pt b8 (.cells (sttV st).cells 42) :: pt t (.cells #[vi T.most, ptr pp 0, .slice vp vn vcap] tt) :: pc' :: cs :: r) (knows_there _ (knows_there _ (knows_there _ (knows_there _ (knows_pt _ _ _))))) (by rfl) (by rfl) (by rfl) (by rfl) (change_there _ (change_there _ (change_there _ (change_there _ (change_pt _ _ _ _))))) ?_
    have hR := raw_shut (t := t) (p := pp) (tt := tt) (tn := 127) (st := st) (text := text) (nb := nb) (by simpa [Value.cells] using hs') hxs hns hpc'
    have hne : ((T.all.length + 1 : Nat) : Int) ≠ dir := fun e => at_lt hda e.symm
    have hSr : Small (rawT T st text) := by
      refine (hS.add (st := st) (text := text) hS1 hS2).put (x := newNd T st text) (by rw [add_at, if_pos rfl]) ⟨?_, ?_, ?_⟩
      · show (0 : Nat) ≤ _; omega
      · show (0 : Int) ≤ 0 ∧ (0 : Int) ≤ 2 ^ 30; omega
      · show (0 : Int) ≤ 0 ∧ (0 : Int) ≤ 2 ^ 30; omega
    refine scall_perm (l' := [pt t (.cells #[vi T.most, ptr pp 0, .slice vp vn vcap] tt), c', pc', pt nb (.cells (rCells ((T.all.length + 1 : Nat) : Int) { newNd T st text with up := 0 } nilV) 127), cs].flatten :: pt e (.cells (List.toArray [ptr nb 0]) 123) :: pt b8 (.cells (sttV st).cells 42) :: r) (perm_of_ct fun a => by
      simp only [List.flatten_cons, List.flatten_nil, ct_append, ct_nil]; omega) ?_
    refine rput_ok (take_here _ _) hR hSr (by rw [raw_at, if_neg (fun e => hne e.symm)]; exact hda) (g.row dir d hda) hgs (by rw [raw_at, if_pos rfl]) hne (fun c2 v2 hc2 => ?_)
    rw [raw_give hda] at hc2
    exact ⟨c2 :: r, (ent_mid [_] _ _).trans (ent_mid [_] _ _), h c2 _ hc2⟩
  refine r_join0 ?_
  refine r_fa ?_
  refine r_load1 (x := vi st.kind) (knows_there _ (k8 _)) (by rfl) ?_
  refine r_bin (v := .bool (st.kind == 2)) (by rfl) ?_
  by_cases hk2 : st.kind = 2
  · have : (st.kind == 2) = true := by simpa using hk2
    rw [this]
    refine r_guard_t ?_
    refine r_nil ?_
    refine r_fa ?_
    refine r_load1 (x := ptr pp 0) (knows_there _ (knows_there _ (knows_pt _ _ _))) (by rfl) ?_
    refine rpfile_ok (P := T.pool) (take_there _ (take_there _ (take_there _ (take_there _ (take_here _ _))))) hpp hS.files (fun pc' hpc' => ?_)
    refine r_nil ?_
    refine r_fa ?_
    have hpo : (rawT T st text).pool = T.pool.file.1 := by
      show (if st.kind = 2 then T.pool.file else (T.pool, 0)).1 = _
      rw [if_pos hk2]
    have hfi : T.pool.file.2 = (newNd T st text).file := by
      show _ = (if st.kind = 2 then T.pool.file else (T.pool, 0)).2
      rw [if_pos hk2]
    refine r_store (l' := pt nb (.cells (rCells ((T.all.length + 1 : Nat) : Int) { newNd T st text with up := 0, file := T.pool.file.2 } nilV) 127) :: pt b8 (.cells (sttV st).cells 42) :: pt t (.cells #[vi T.most, ptr pp 0, .slice nvp T.all.length nvc] tt) :: nc :: pc' :: cs :: r) (knows_there _ (knows_pt _ _ _)) (by rfl) (by rfl) (by rfl) (by rfl) (change_perm (o := .cells (rCells ((T.all.length + 1 : Nat) : Int) { newNd T st text with up := 0, file := 0 } nilV) 127) (d := (pt b8 (.cells (sttV st).cells 42) :: pt t (.cells #[vi T.most, ptr pp 0, .slice nvp T.all.length nvc] tt) :: nc :: pc' :: cs :: r).flatten) ?_ ?_) ?_
    · refine perm_of_ct fun a => ?_
      show ct a (List.flatten (pc' :: pt nb (.cells (rCells ((T.all.length + 1 : Nat) : Int) { newNd T st text with up := 0, file := 0 } nilV) 127) :: pt b8 (.cells (sttV st).cells 42) :: pt t (.cells #[vi T.most, ptr pp 0, .slice nvp T.all.length nvc] tt) :: nc :: cs :: r)) = _
      simp only [List.flatten_cons, ct_append, ct_cons, ct_nil, pt]; omega
    · exact List.Perm.refl _
    · exact fin T.pool.file.2 pc' (by rw [hpo]; exact hpc') hfi
  · have : (st.kind == 2) = false := by simpa using hk2
    rw [this]
    refine r_guard_f ?_
    have hpo : (rawT T st text).pool = T.pool := by
      show (if st.kind = 2 then T.pool.file else (T.pool, 0)).1 = _
      rw [if_neg hk2]
    have hfi : (0 : Int) = (newNd T st text).file := by
      show _ = (if st.kind = 2 then T.pool.file else (T.pool, 0)).2
      rw [if_neg hk2]
    exact fin 0 pc (by rw [hpo]; exact hpp) hfi
end
end Go.Sl
namespace Go.Sl
variable [Ghost]
open Go Go.Mo Go.Proofs
attribute [local irreducible] snil sfa sext sfield sguard sun sbin slen sload sstore snew snewObj sbuildR sbuildSlR smakeMapR smakeSlR slookup smapset srangeMap snext sentry scall scallv sextern sbuiltin sidx sindex sslice sconv srangeX sarg sand sjoin0 sjoin1 sjoin2 sloop0 sloop1 sloop2
section
variable {T : Tree} {n dir to : Int} {x d e : Nd} {s s2 : Str}
theorem less_same (hd : T.at dir = some d) (hx : T.at n = some x) (hne : n ≠ dir) : (T.less dir s n).most = T.most ∧ (T.less dir s n).pool = T.pool ∧ (T.less dir s n).all.length = T.all.length := by
  have h3 : (T.put dir (some { d with names := delS s d.names })).at n = some x := by rw [put_at hd, if_neg hne]; exact hx
  simp only [Tree.less, hd, h3]
  exact ⟨rfl, rfl, by rw [put_len, put_len]⟩
theorem give_same (hd : T.at dir = some d) (hx : T.at n = some x) (hne : n ≠ dir) : (T.give dir s n).most = T.most ∧ (T.give dir s n).pool = T.pool ∧ (T.give dir s n).all.length = T.all.length := by
  have h3 : (T.put dir (some { d with names := insS s n d.names })).at n = some x := by rw [put_at hd, if_neg hne]; exact hx
  simp only [Tree.give, hd, h3]
  exact ⟨rfl, rfl, by rw [put_len, put_len]⟩
theorem held_same (hd : T.at dir = some d) (hx : T.at n = some x) (hne : n ≠ dir) (he : (T.less dir s n).at to = some e) (hnt : n ≠ to) (hh : 0 ≤ x.holds) :
    ∃ y, (T.put n (some { x with holds := x.holds + 1 })).take dir s n = (T.put n (some { x with holds := x.holds + 1 })).less dir s n ∧
      ((T.put n (some { x with holds := x.holds + 1 })).less dir s n).at to = some e ∧
      ((T.put n (some { x with holds := x.holds + 1 })).less dir s n).at n = some { x with holds := x.holds + 1, links := x.links - 1, up := if x.kind = 1 then n else x.up } ∧
      (((T.put n (some { x with holds := x.holds + 1 })).less dir s n).give to s2 n).at n = some y ∧ y.holds = x.holds + 1 ∧
      (((T.put n (some { x with holds := x.holds + 1 })).less dir s n).give to s2 n).put n (some { y with holds := y.holds - 1 }) = (T.less dir s n).give to s2 n := by
  have hd2 : (T.put n (some { x with holds := x.holds + 1 })).at dir = some d := by rw [put_at hx, if_neg (fun e => hne e.symm)]; exact hd
  have hx2 : (T.put n (some { x with holds := x.holds + 1 })).at n = some { x with holds := x.holds + 1 } := by rw [put_at hx, if_pos rfl]
  have hat := less_at (s := s) hd hx hne
  have hat2 := less_at (s := s) hd2 hx2 hne
  have hx3 : ((T.put n (some { x with holds := x.holds + 1 })).less dir s n).at n = some { x with holds := x.holds + 1, links := x.links - 1, up := if x.kind = 1 then n else x.up } := by rw [hat2, if_pos rfl]
  have he3 : ((T.put n (some { x with holds := x.holds + 1 })).less dir s n).at to = some e := by
    rw [hat2, if_neg (fun e => hnt e.symm)]
    rw [hat, if_neg (fun e => hnt e.symm)] at he
    by_cases hdt : to = dir
    · rw [if_pos hdt] at he ⊢; exact he
    · rw [if_neg hdt] at he ⊢
      rw [put_at hx, if_neg (fun e => hnt e.symm)]; exact he
  have hx4 : (T.less dir s n).at n = some { x with links := x.links - 1, up := if x.kind = 1 then n else x.up } := by rw [hat, if_pos rfl]
  have hgat := give_at (s := s2) he hx4 hnt
  have hgat2 := give_at (s := s2) he3 hx3 hnt
  refine ⟨{ x with holds := x.holds + 1, links := x.links - 1 + 1, up := if x.kind = 1 then to else if x.kind = 1 then n else x.up }, ?_, he3, hx3, by rw [hgat2, if_pos rfl], rfl, ?_⟩
  · unfold Tree.take Tree.reap
    rw [hx3]
    simp only
    rw [if_pos (by
      have : 0 < x.holds + 1 := by omega
      simp [this])]
  · have hy : (((T.put n (some { x with holds := x.holds + 1 })).less dir s n).give to s2 n).at n = some { x with holds := x.holds + 1, links := x.links - 1 + 1, up := if x.kind = 1 then to else if x.kind = 1 then n else x.up } := by rw [hgat2, if_pos rfl]
    obtain ⟨a1, a2, a3⟩ := less_same (s := s) hd hx hne
    obtain ⟨b1, b2, b3⟩ := give_same (s := s2) he hx4 hnt
    obtain ⟨c1, c2, c3⟩ := less_same (s := s) hd2 hx2 hne
    obtain ⟨d1, d2, d3⟩ := give_same (s := s2) he3 hx3 hnt
    refine tree_ext ?_ ?_ ?_ fun k => ?_
    · show (((T.put n (some { x with holds := x.holds + 1 })).less dir s n).give to s2 n).most = _
      rw [d1, c1, b1, a1]; rfl
    · show (((T.put n (some { x with holds := x.holds + 1 })).less dir s n).give to s2 n).pool = _
      rw [d2, c2, b2, a2]; rfl
    · rw [put_len, d3, c3, b3, a3, put_len]
    · rw [put_at hy, hgat]
      split
      · congr 1
        simp only [Nd.mk.injEq, true_and, and_true]
        omega
      · rename_i hk
        rw [hgat2, if_neg hk]
        split
        · rfl
        · rename_i hk2
          rw [hat2, if_neg hk, hat, if_neg hk]
          split
          · rfl
          · rw [put_at hx, if_neg hk]
end
section
variable {l r : St} {t : Nat} {T : Tree} {γ : Int → Nat} {c : Chunk} {n old dir to : Int} {x z d e : Nd} {s s2 : Str} {R : Value → SP}
theorem rmove_tail (hP : RTree t T γ c) (hS : Small T) (hd : T.at dir = some d) (hs : getS s d.names = some n) (hx : T.at n = some x) (hne : n ≠ dir) (hl1 : 1 ≤ x.links) (hh : x.holds + 1 ≤ 2 ^ 30)
    (he : (T.less dir s n).at to = some e) (hrow : RowOk e.names) (hnt : n ≠ to) (hs2 : getS s2 e.names = none) (h : ∀ c', RTree t ((T.less dir s n).give to s2 n) γ c' → R (vi 0) (c' :: r)) :
    (snil (ptr (γ n) 0) fun v132 =>
      sfa 11 v132 fun v133 =>
      sload none v133 fun v134 =>
      sbin Tryz.prog .none 3 .add v134 (.int .i64 1) fun v135 =>
      snil (ptr (γ n) 0) fun v136 =>
      sfa 11 v136 fun v137 =>
      sstore 1 v137 v135 <|
      scall Tryz.prog 88 #[ptr t 0, vi dir, vstr' s] fun _ =>
      scall Tryz.prog 85 #[ptr t 0, vi to, vstr' s2, vi n] fun _ =>
      snil (ptr (γ n) 0) fun v148 =>
      sfa 11 v148 fun v149 =>
      sload none v149 fun v150 =>
      sbin Tryz.prog .none 3 .sub v150 (.int .i64 1) fun v151 =>
      snil (ptr (γ n) 0) fun v152 =>
      sfa 11 v152 fun v153 =>
      sstore 1 v153 v151 <|
      (fun v l' => ∃ l2, Ent l' l2 ∧ R v l2) (vi 0)) (c :: r) := by
  obtain ⟨tt, tn, pp, nv, lv, nc, lc, xs, cs, pc, hpm, hls, hsn, hxs, hns, hpp⟩ := rtree_open1 (take_here c r) hP hx
  have hhh := hS.holds n x hx
  have hk1 : Knows (c :: r) (γ n) (.cells (rCells n x lv) tn) := by unfold Knows; exact hpm.mem_iff.2 (by simp [pt])
  refine r_nil ?_
  refine r_fa ?_
  refine r_load1 (x := vi x.holds) hk1 (by rfl) ?_
  refine r_bin (by rfl) ?_
  have hw : IntKind.i64.wrap (x.holds + 1) = x.holds + 1 := wrap_id (by omega) (by omega)
  rw [hw]
  refine r_nil ?_
  refine r_fa ?_
  refine r_store (l' := pt (γ n) (.cells (rCells n { x with holds := x.holds + 1 } lv) tn) :: lc :: pt t (.cells #[vi T.most, ptr pp 0, nv] tt) :: nc :: pc :: cs :: r) hk1 (by rfl) (by rfl) (by rfl) (by rfl) (change_perm (o := .cells (rCells n x lv) tn) (d := (lc :: pt t (.cells #[vi T.most, ptr pp 0, nv] tt) :: nc :: pc :: cs :: r).flatten) (by
    refine hpm.trans ?_
    exact List.Perm.refl _) (List.Perm.refl _)) ?_
  have hP2 := rtree_shut1 (x := x) (x' := { x with holds := x.holds + 1 }) (tt := tt) (tn := tn) (t := t) (p := pp) (P' := T.pool) hx hls hsn hxs hns hpp
  have hT2 : ({ T.put n (some { x with holds := x.holds + 1 }) with pool := T.pool } : Tree) = T.put n (some { x with holds := x.holds + 1 }) := rfl
  rw [hT2] at hP2
  obtain ⟨y, y1, y2, y3, y4, y5, y6⟩ := held_same (s2 := s2) hd hx hne he hnt hhh.1
  have hd2 : (T.put n (some { x with holds := x.holds + 1 })).at dir = some d := by rw [put_at hx, if_neg (fun e => hne e.symm)]; exact hd
  have hx2 : (T.put n (some { x with holds := x.holds + 1 })).at n = some { x with holds := x.holds + 1 } := by rw [put_at hx, if_pos rfl]
  have hlk := hS.links n x hx
  have hS2 : Small (T.put n (some { x with holds := x.holds + 1 })) := hS.put hx ⟨hS.names n x hx, hlk, by show 0 ≤ x.holds + 1 ∧ x.holds + 1 ≤ 2 ^ 30; omega⟩
  refine scall_close [_, _, _, _, _, _] r ?_
  refine rout_ok (take_here _ _) hP2 hS2 hd2 hs hx2 hne hl1 (fun c3 v3 hc3 => ?_)
  rw [y1] at hc3
  have hS3 : Small ((T.put n (some { x with holds := x.holds + 1 })).less dir s n) := hS2.less hx2 hd2 hne hl1
  refine rput_ok (take_here _ _) hc3 hS3 y2 hrow hs2 y3 hnt (fun c4 v4 hc4 => ?_)
  obtain ⟨tt2, tn2, pp2, nv2, lv2, nc2, lc2, xs2, cs2, pc2, hpm2, hls2, hsn2, hxs2, hns2, hpp2⟩ := rtree_open1 (take_here c4 r) hc4 y4
  have hk2 : Knows (c4 :: r) (γ n) (.cells (rCells n y lv2) tn2) := by unfold Knows; exact hpm2.mem_iff.2 (by simp [pt])
  refine r_nil ?_
  refine r_fa ?_
  refine r_load1 (x := vi y.holds) hk2 (by rfl) ?_
  refine r_bin (by rfl) ?_
  have hw2 : IntKind.i64.wrap (y.holds - 1) = y.holds - 1 := wrap_id (by omega) (by omega)
  rw [hw2]
  refine r_nil ?_
  refine r_fa ?_
  refine r_store (l' := pt (γ n) (.cells (rCells n { y with holds := y.holds - 1 } lv2) tn2) :: lc2 :: pt t (.cells #[vi (((T.put n (some { x with holds := x.holds + 1 })).less dir s n).give to s2 n).most, ptr pp2 0, nv2] tt2) :: nc2 :: pc2 :: cs2 :: r) hk2 (by rfl) (by rfl) (by rfl) (by rfl) (change_perm (o := .cells (rCells n y lv2) tn2) (d := (lc2 :: pt t (.cells #[vi (((T.put n (some { x with holds := x.holds + 1 })).less dir s n).give to s2 n).most, ptr pp2 0, nv2] tt2) :: nc2 :: pc2 :: cs2 :: r).flatten) (by
    refine hpm2.trans ?_
    exact List.Perm.refl _) (List.Perm.refl _)) ?_
  have hP5 := rtree_shut1 (x := y) (x' := { y with holds := y.holds - 1 }) (tt := tt2) (tn := tn2) (t := t) (p := pp2) (P' := (((T.put n (some { x with holds := x.holds + 1 })).less dir s n).give to s2 n).pool) y4 hls2 hsn2 hxs2 hns2 hpp2
  have hT5 : ({ (((T.put n (some { x with holds := x.holds + 1 })).less dir s n).give to s2 n).put n (some { y with holds := y.holds - 1 }) with pool := (((T.put n (some { x with holds := x.holds + 1 })).less dir s n).give to s2 n).pool } : Tree) = (T.less dir s n).give to s2 n := by
    rw [← y6]; rfl
  rw [hT5] at hP5
  exact ⟨_, ent_close [_, _, _, _, _, _] r, h _ hP5⟩
theorem rmove_ok (hk : Take l c r) (hP : RTree t T γ c) (g : Good 0 T) (hS : Small T) (hh : ∀ n x, T.at n = some x → x.holds + 1 ≤ 2 ^ 30) (hb : s2.length ≤ 2 ^ 40) (h : ∀ c', RTree t (T.move dir s to s2).1 γ c' → R (vi (T.move dir s to s2).2) (c' :: r)) :
    scall Tryz.prog 43 #[ptr t 0, vi dir, vstr' s, vi to, vstr' s2] R l := by
  refine scall_perm (l' := c :: r) (by rw [List.flatten_cons]; exact hk) (scall_post (S43_ok ?_))
  have hA := r_at (take_here c r) hP
  have fin : ∀ e : Int, T.move dir s to s2 = (T, e) → ∃ l2, Ent (c :: r) l2 ∧ R (vi e) l2 := fun e hm => by
    rw [hm] at h
    exact ⟨_, .refl _, h c hP⟩
  unfold S43
  refine r_join1 ?_
  refine rdir_ok hA hS (fun d hd hda hdk hdn => ?_) (fun hd => ?_)
  rotate_left
  · refine r_bin (v := .bool true) (by rfl) ?_
    refine r_guard_t ?_
    refine r_guard_t ?_
    exact fin 1 (move_none hd)
  refine r_bin (v := .bool false) (by rfl) ?_
  refine r_guard_f ?_
  refine rdir_ok hA hS (fun e he hea hek hen => ?_) (fun he => ?_)
  rotate_left
  · refine r_bin (v := .bool true) (by rfl) ?_
    refine r_guard_t ?_
    refine r_guard_t ?_
    exact fin 1 (move_none2 he)
  refine r_bin (v := .bool false) (by rfl) ?_
  refine r_guard_f ?_
  refine rright_ok hb ?_
  refine r_not ?_
  have hmv : T.move dir s to s2 = (if !rightN s2 then (T, 1) else match getS s d.names with
    | none => (T, 32)
    | some n =>
      if !namedB to e then (T, 32)
      else match T.at n with
      | none => (T, 1)
      | some x =>
        if x.kind = 1 && (to = n || T.within to n) then (T, 39)
        else match getS s2 e.names with
        | some old => if old = n then (T, 0) else match T.at old with
          | none => (T, 1)
          | some y =>
            if x.kind = 1 && y.kind != 1 then (T, 37)
            else if x.kind != 1 && y.kind = 1 then (T, 38)
            else if y.names.length != 0 then (T, 47)
            else (((T.take to s2 old).less dir s n).give to s2 n, 0)
        | none =>
          if x.kind = 1 && dir != to && 16 ≤ T.dirs to e then (T, 44)
          else ((T.less dir s n).give to s2 n, 0) : Tree × Int) := by
    unfold Tree.move; rw [hd, he]
    rfl
  cases hr : rightN s2 with
  | false =>
    rw [hr] at hmv
    refine r_guard_t ?_
    exact fin 1 hmv
  | true =>
  rw [hr] at hmv
  simp only [Bool.not_true, Bool.false_eq_true, if_false] at hmv
  refine r_guard_f ?_
  refine rfind_ok hA hS ?_
  have hf1 : T.find dir s = getS s d.names := by simp [Tree.find, hd]
  rw [hf1]
  refine r_ext (by rfl) ?_
  refine r_ext (by rfl) ?_
  refine r_join1 ?_
  refine r_not ?_
  cases hn : getS s d.names with
  | none =>
    rw [hn] at hmv
    refine r_guard_t ?_
    refine r_guard_t ?_
    exact fin 32 hmv
  | some n =>
  rw [hn] at hmv
  simp only at hmv
  refine r_guard_f ?_
  have hel := g.links to e hea
  refine rgone_ok hA hS hea ?_ (by omega)
  cases hnb : namedB to e with
  | false =>
    rw [hnb] at hmv
    refine r_guard_t ?_
    exact fin 32 hmv
  | true =>
  rw [hnb] at hmv
  simp only [Bool.not_true, Bool.false_eq_true, if_false] at hmv
  refine r_guard_f ?_
  obtain ⟨x, hx, hl1, hne, hw1⟩ := g.names.live dir d s n hd hn
  rw [hx] at hmv
  simp only at hmv
  rw [show (some n).getD 0 = n from rfl]
  refine rat_ok hA hS (fun x' hx' hxn => ?_) (fun hx' => by rw [hx] at hx'; cases hx')
  rw [hx] at hx'; cases hx'
  obtain ⟨ty, lv, hkx, -⟩ := hxn
  refine r_nil ?_
  refine r_fa ?_
  refine r_fa ?_
  refine r_load1 (x := vi x.kind) hkx (by rfl) ?_
  refine r_bin (v := .bool (x.kind == 1)) (by rfl) ?_
  have hxb : (x.kind == 1) = decide (x.kind = 1) := by by_cases hk : x.kind = 1 <;> simp [hk]
  rw [hxb]
  unfold sjoin1
  refine ⟨fun vs σ => vs = [.bool (x.kind = 1 && (to = n || T.within to n))] ∧ σ = c :: r, ?_, ?_⟩
  rotate_left
  · by_cases hxk : x.kind = 1
    · have : decide (x.kind = 1) = true := by simpa using hxk
      rw [this]
      refine r_guard_t ?_
      refine r_bin (v := .bool (to == n)) (by rfl) ?_
      by_cases hnt : to = n
      · have : (to == n) = true := by simpa using hnt
        rw [this]
        refine r_guard_t ?_
        refine ⟨?_, rfl⟩
        simp [hnt]
      · have : (to == n) = false := by simpa using hnt
        rw [this]
        refine r_guard_f ?_
        refine rwithin_ok hA g hS ?_
        refine ⟨?_, rfl⟩
        simp [hnt]
    · have : decide (x.kind = 1) = false := by simpa using hxk
      rw [this]
      refine r_guard_f ?_
      refine ⟨?_, rfl⟩
      simp
  rintro v σ ⟨hv, rfl⟩
  cases hv
  cases hin : (decide (x.kind = 1) && (decide (to = n) || T.within to n)) with
  | true =>
    rw [hin] at hmv
    refine r_guard_t ?_
    exact fin 39 hmv
  | false =>
  rw [hin] at hmv
  simp only [Bool.false_eq_true, if_false] at hmv
  have hnt : n ≠ to := fun e1 => by
    subst e1
    rw [hea] at hx; cases hx
    simp [hek] at hin
  refine r_guard_f ?_
  refine rfind_ok hA hS ?_
  have hf2 : T.find to s2 = getS s2 e.names := by simp [Tree.find, he]
  rw [hf2]
  refine r_ext (by rfl) ?_
  refine r_ext (by rfl) ?_
  cases hold : getS s2 e.names with
  | none =>
    rw [hold] at hmv
    simp only at hmv
    refine ⟨fun vs σ => vs = [.bool false] ∧ σ = c :: r, ?_, ?_⟩
    rotate_left
    · refine r_guard_f ?_
      exact ⟨rfl, rfl⟩
    rintro v σ ⟨hv, rfl⟩
    cases hv
    refine r_guard_f ?_
    unfold sjoin0
    refine ⟨fun _ σ => σ = c :: r, ?_, ?_⟩
    rotate_left
    · refine r_guard_f ?_
      rfl
    rintro σ rfl
    refine ⟨fun vs σ => vs = [.bool (x.kind = 1 && dir != to && 16 ≤ T.dirs to e)] ∧ σ = c :: r, ?_, ?_⟩
    rotate_left
    · by_cases hxk : x.kind = 1
      · have : decide (x.kind = 1) = true := by simpa using hxk
        rw [this]
        refine r_guard_t ?_
        refine r_bin (v := .bool (dir != to)) (by rfl) ?_
        cases hdt : (dir != to) with
        | false =>
          refine r_guard_f ?_
          exact ⟨by simp, rfl⟩
        | true =>
          refine r_guard_t ?_
          refine r_not ?_
          refine r_guard_t ?_
          refine rlinks_ok hA hS g hea ?_
          rw [if_pos hek]
          refine r_bin (v := .bool (decide (T.dirs to e ≥ 16))) (by rfl) ?_
          exact ⟨by simp, rfl⟩
      · have : decide (x.kind = 1) = false := by simpa using hxk
        rw [this]
        refine r_guard_f ?_
        exact ⟨by simp, rfl⟩
    rintro v σ ⟨hv, rfl⟩
    cases hv
    cases hc : (decide (x.kind = 1) && dir != to && decide (16 ≤ T.dirs to e)) with
    | true =>
      rw [hc] at hmv
      refine r_guard_t ?_
      exact fin 44 hmv
    | false =>
    rw [hc] at hmv
    simp only [Bool.false_eq_true, if_false] at hmv
    refine r_guard_f ?_
    refine ⟨fun _ σ => σ = c :: r, ?_, ?_⟩
    rotate_left
    · refine r_guard_f ?_
      rfl
    rintro σ rfl
    rw [hmv] at h
    have hat := less_at (s := s) hda hx hne
    obtain ⟨e2, he2, he2n, he2r⟩ : ∃ e2, (T.less dir s n).at to = some e2 ∧ getS s2 e2.names = none ∧ RowOk e2.names := by
      rw [hat, if_neg (fun e => hnt e.symm)]
      by_cases hdt : to = dir
      · subst hdt
        rw [hda] at hea; cases hea
        rw [if_pos rfl]
        exact ⟨_, rfl, getS_del_none hold, (g.row to d hda).sublist (delS_sub s _)⟩
      · rw [if_neg hdt]; exact ⟨e, hea, hold, g.row to e hea⟩
    exact rmove_tail hP hS hda hn hx hne hl1 (hh n x hx) he2 he2r hnt he2n (fun c' hc' => h c' hc')
  | some old =>
    rw [hold] at hmv
    simp only at hmv
    obtain ⟨z, hz, hzl1, hzne, hzw⟩ := g.names.live to e s2 old he hold
    rw [show (some old).getD 0 = old from rfl]
    refine ⟨fun vs σ => vs = [.bool (old == n)] ∧ σ = c :: r, ?_, ?_⟩
    rotate_left
    · refine r_guard_t ?_
      refine r_bin (v := .bool (old == n)) (by rfl) ?_
      exact ⟨rfl, rfl⟩
    rintro v σ ⟨hv, rfl⟩
    cases hv
    by_cases hon : old = n
    · have : (old == n) = true := by simpa using hon
      rw [this]
      rw [if_pos hon] at hmv
      refine r_guard_t ?_
      exact fin 0 hmv
    have : (old == n) = false := by simpa using hon
    rw [this]
    rw [if_neg hon, hz] at hmv
    simp only at hmv
    refine r_guard_f ?_
    have hzk9 : (z.kind != 1) = !decide (z.kind = 1) := by by_cases hk : z.kind = 1 <;> simp [hk]
    have hzk8 : (z.kind == 1) = decide (z.kind = 1) := by by_cases hk : z.kind = 1 <;> simp [hk]
    unfold sjoin0
    refine ⟨fun _ σ => σ = c :: r ∧ ¬ (decide (x.kind = 1) && z.kind != 1) = true ∧ ¬ (x.kind != 1 && decide (z.kind = 1)) = true ∧ ¬ (z.names.length != 0) = true, ?_, ?_⟩
    rotate_left
    · refine r_guard_t ?_
      refine rat_ok hA hS (fun z' hz' hzn => ?_) (fun hz' => by rw [hz] at hz'; cases hz')
      rw [hz] at hz'; cases hz'
      obtain ⟨tyz, lvz, hkz, hsz⟩ := hzn
      refine ⟨fun vs σ => vs = [.bool (x.kind = 1 && z.kind != 1)] ∧ σ = c :: r, ?_, ?_⟩
      rotate_left
      · by_cases hxk : x.kind = 1
        · have : decide (x.kind = 1) = true := by simpa using hxk
          rw [this]
          refine r_guard_t ?_
          refine r_nil ?_
          refine r_fa ?_
          refine r_fa ?_
          refine r_load1 (x := vi z.kind) hkz (by rfl) ?_
          refine r_bin (v := .bool (z.kind != 1)) (by rfl) ?_
          exact ⟨by simp, rfl⟩
        · have : decide (x.kind = 1) = false := by simpa using hxk
          rw [this]
          refine r_guard_f ?_
          exact ⟨by simp, rfl⟩
      rintro v σ ⟨hv, rfl⟩
      cases hv
      cases hc1 : (decide (x.kind = 1) && z.kind != 1) with
      | true =>
        rw [hc1] at hmv
        refine r_guard_t ?_
        exact fin 37 hmv
      | false =>
      rw [hc1] at hmv
      simp only [Bool.false_eq_true, if_false] at hmv
      refine r_guard_f ?_
      refine ⟨fun vs σ => vs = [.bool (x.kind != 1 && decide (z.kind = 1))] ∧ σ = c :: r, ?_, ?_⟩
      rotate_left
      · refine r_not ?_
        by_cases hxk : x.kind = 1
        · have h5 : decide (x.kind = 1) = true := by simpa using hxk
          rw [h5]
          refine r_guard_f ?_
          exact ⟨by simp [hxk], rfl⟩
        · have h5 : decide (x.kind = 1) = false := by simpa using hxk
          rw [h5]
          refine r_guard_t ?_
          refine r_nil ?_
          refine r_fa ?_
          refine r_fa ?_
          refine r_load1 (x := vi z.kind) hkz (by rfl) ?_
          refine r_bin (v := .bool (z.kind == 1)) (by rfl) ?_
          have h6 : (x.kind != 1) = true := bne_iff_ne.2 hxk
          exact ⟨by rw [hzk8, h6, Bool.true_and], rfl⟩
      rintro v σ ⟨hv, rfl⟩
      cases hv
      cases hc2 : (x.kind != 1 && decide (z.kind = 1)) with
      | true =>
        rw [hc2] at hmv
        refine r_guard_t ?_
        exact fin 38 hmv
      | false =>
      rw [hc2] at hmv
      simp only [Bool.false_eq_true, if_false] at hmv
      refine r_guard_f ?_
      refine r_nil ?_
      refine r_fa ?_
      refine r_load1 (x := lvz) hkz (by rfl) ?_
      refine r_slen hsz ?_
      refine r_bin (by rfl) ?_
      refine r_guard_d (fun hg => ?_) (fun hg => ?_)
      · rw [if_pos (by simp; intro e9; rw [e9] at hg; simp at hg)] at hmv
        exact fin 47 hmv
      · exact ⟨rfl, by decide, by decide, by
          have : z.names.length = 0 := by omega
          simp [this]⟩
    rintro σ ⟨rfl, n1, n2, n3⟩
    rw [if_neg n1, if_neg n2, if_neg n3] at hmv
    have hzn0 : z.names = [] := by simpa using n3
    refine ⟨fun vs σ => vs = [.bool false] ∧ σ = c :: r, ?_, ?_⟩
    rotate_left
    · by_cases hxk : x.kind = 1
      · have : decide (x.kind = 1) = true := by simpa using hxk
        rw [this]
        refine r_guard_t ?_
        refine r_bin (v := .bool (dir != to)) (by rfl) ?_
        cases hdt : (dir != to) with
        | false =>
          refine r_guard_f ?_
          exact ⟨rfl, rfl⟩
        | true =>
          refine r_guard_t ?_
          refine r_not ?_
          refine r_guard_f ?_
          exact ⟨rfl, rfl⟩
      · have : decide (x.kind = 1) = false := by simpa using hxk
        rw [this]
        refine r_guard_f ?_
        exact ⟨rfl, rfl⟩
    rintro v σ ⟨hv, rfl⟩
    cases hv
    refine r_guard_f ?_
    rw [hmv] at h
    have hod : dir ≠ old := fun e => by
      subst e; rw [hda] at hz; cases hz
      rw [hzn0] at hn; cases hn
    have hat1 := take_at (s := s2) hea hz hzne
    have hsa : s = s2 → dir ≠ to := fun e1 e2 => by
      subst e1; subst e2
      rw [hda] at hea; cases hea
      rw [hn] at hold; cases hold
      exact hon rfl
    have hx2 : (T.take to s2 old).at n = some x := by rw [hat1 n (fun e => hon e.symm), if_neg hnt]; exact hx
    have ht2 : (T.take to s2 old).at to = some { e with names := delS s2 e.names } := by rw [hat1 to (fun e => hzne e.symm), if_pos rfl]
    obtain ⟨d2, hd2, hs2⟩ : ∃ d2, (T.take to s2 old).at dir = some d2 ∧ getS s d2.names = some n := by
      rw [hat1 dir hod]
      by_cases e9 : dir = to
      · rw [if_pos e9]
        subst e9
        rw [hda] at hea; cases hea
        exact ⟨_, rfl, by rw [getS_del_ne fun e => hsa e rfl]; exact hn⟩
      · rw [if_neg e9]; exact ⟨d, hda, hn⟩
    have hat := less_at (s := s) hd2 hx2 hne
    have gt := g.take hea hold hz hzn0
    obtain ⟨e2, he2, he2n, he2r⟩ : ∃ e2, ((T.take to s2 old).less dir s n).at to = some e2 ∧ getS s2 e2.names = none ∧ RowOk e2.names := by
      rw [hat, if_neg (fun e => hnt e.symm)]
      by_cases hdt : to = dir
      · subst hdt
        rw [hd2] at ht2; cases ht2
        rw [if_pos rfl]
        exact ⟨_, rfl, getS_del_none (getS_del_self (g.row to e hea)), (gt.row to _ hd2).sublist (delS_sub s _)⟩
      · rw [if_neg hdt, ht2]; exact ⟨_, rfl, getS_del_self (g.row to e hea), gt.row to _ ht2⟩
    have hS1 : Small (T.take to s2 old) := (hS.less hz hea hzne hzl1).reap
    refine ⟨fun _ σ => ∃ c1, RTree t (T.take to s2 old) γ c1 ∧ σ = c1 :: r, ?_, ?_⟩
    rotate_left
    · refine r_guard_t ?_
      refine rout_ok (take_here c r) hP hS hea hold hz hzne hzl1 (fun c1 v1 hc1 => ⟨c1, hc1, rfl⟩)
    rintro σ ⟨c1, hc1, rfl⟩
    exact rmove_tail hc1 hS1 hd2 hs2 hx2 hne hl1 (hh n x hx) he2 he2r hnt he2n (fun c' hc' => h c' hc')
end
end Go.Sl
namespace Go.Sl
variable [Ghost]
open Go Go.Mo Go.Proofs
attribute [local irreducible] snil sfa sext sfield sguard sun sbin slen sload sstore snew snewObj sbuildR sbuildSlR smakeMapR smakeSlR slookup smapset srangeMap snext sentry scall scallv sextern sbuiltin sidx sindex sslice sconv srangeX sarg sand sjoin0 sjoin1 sjoin2 sloop0 sloop1 sloop2
section
variable {l r : St} {nodes blocks : Int} {R : Value → SP}
theorem rpnew_ok (h : ∀ p c, RPool p { blocks := blocks } c → R (ptr p 0) (c :: l)) : scall Tryz.prog 118 #[vi blocks] R l := by
  refine S118_ok ?_
  unfold S118
  refine r_build (by rfl) ?_
  refine r_new fun pb => ?_
  exact h pb _ ⟨207, nilV, [], [], [], fun _ => 0, .refl _, slC_nil 1, .refl _, .nil⟩
theorem rnew_ok (h1 : Tree.new nodes blocks = none → R (.tuple #[.pointer none, vi 1]) l)
    (h2 : ∀ T, Tree.new nodes blocks = some T → ∀ t γ c, RTree t T γ c → R (.tuple #[ptr t 0, vi 0]) (c :: l)) : scall Tryz.prog 71 #[vi nodes, vi blocks] R l := by
  refine scall_post (S71_ok ?_)
  unfold S71
  have bad : (nodes < 1 ∨ 64 < nodes ∨ blocks < 0 ∨ 256 < blocks) → ∃ l2, Ent l l2 ∧ R (.tuple #[.pointer none, vi 1]) l2 := fun hb => ⟨l, .refl _, h1 (by
    unfold Tree.new
    rw [if_pos (by simp only [Bool.or_eq_true, decide_eq_true_eq]; omega)])⟩
  refine r_join1 ?_
  refine r_bin (by rfl) ?_
  refine r_guard_d (fun hg => ?_) (fun hg1 => ?_)
  · exact r_guard_t (bad (.inl hg))
  refine r_bin (by rfl) ?_
  refine r_guard_d (fun hg => ?_) (fun hg2 => ?_)
  · exact r_guard_t (bad (.inr (.inl hg)))
  refine r_bin (by rfl) ?_
  refine r_guard_d (fun hg => ?_) (fun hg3 => ?_)
  · exact r_guard_t (bad (.inr (.inr (.inl hg))))
  refine r_bin (by rfl) ?_
  refine r_guard_d (fun hg => bad (.inr (.inr (.inr hg)))) (fun hg4 => ?_)
  have hT0 : Tree.new nodes blocks = some { most := nodes, pool := { blocks := blocks }, all := [some { kind := 1, mode := 493, uid := 0, gid := 0, up := 1 }] } := by
    unfold Tree.new
    rw [if_neg (by simp only [Bool.or_eq_true, decide_eq_true_eq]; omega)]
  refine rpnew_ok (fun p pc hpp => ?_)
  refine r_build (by rfl) ?_
  refine r_new fun tb => ?_
  refine r_nil ?_
  refine r_fa ?_
  refine r_load1 (x := nilV) (knows_pt _ _ _) (by rfl) ?_
  refine r_build (by rfl) ?_
  refine r_build (by rfl) ?_
  refine r_new fun nb => ?_
  refine r_buildSl (ds := [ptr nb 0]) rfl (by omega) rfl (fun e => ?_)
  refine r_append (e := 123) (i := Tryz.t123) (z := .pointer none) (m := 1) (n := 0) (xs := []) (c := []) (r := pt e (.cells (List.toArray [ptr nb 0]) 123) :: pt nb (.cells (rCells 1 { kind := 1, mode := 493, uid := 0, gid := 0, up := 1 } nilV) 127) :: pt tb (.cells #[vi nodes, ptr p 0, nilV] 150) :: pc :: l) (news := [ptr nb 0]) (by kernel_rfl) (by kernel_rfl) (by kernel_rfl) (by kernel_rfl) rfl (slC_nil 1) (by unfold Take; exact List.Perm.refl _)
    (srcAt_row (e' := 123) (by kernel_rfl) (knows_pt _ _ _) rfl rfl (by simp; rfl)) ?_ (by omega) (fun v' c' hs' => ?_)
  · have : Tryz.t123.bytes = 8 := by kernel_rfl
    rw [this]; omega
  obtain ⟨vp, vn, vcap, rfl⟩ := hs'.form
  refine r_nil ?_
  refine r_fa ?_
  refine r_store (l' := c' :: pt e (.cells (List.toArray [ptr nb 0]) 123) :: pt nb (.cells (rCells 1 { kind := 1, mode := 493, uid := 0, gid := 0, up := 1 } nilV) 127) :: pt tb (.cells #[vi nodes, ptr p 0, .slice vp vn vcap] 150) :: pc :: l) (knows_there _ (knows_there _ (knows_there _ (knows_pt _ _ _)))) (by rfl) (by rfl) (by rfl) (by rfl) (change_there _ (change_there _ (change_there _ (change_pt _ _ _ _)))) ?_
  refine ⟨[pt tb (.cells #[vi nodes, ptr p 0, .slice vp vn vcap] 150), c', pc, pt nb (.cells (rCells 1 { kind := 1, mode := 493, uid := 0, gid := 0, up := 1 } nilV) 127)].flatten :: l, ?_, h2 _ hT0 tb (fun _ => nb) _ ?_⟩
  · refine Ent.trans (l' := pt e (.cells (List.toArray [ptr nb 0]) 123) :: ([pt tb (.cells #[vi nodes, ptr p 0, .slice vp vn vcap] 150), c', pc, pt nb (.cells (rCells 1 { kind := 1, mode := 493, uid := 0, gid := 0, up := 1 } nilV) 127)].flatten :: l)) (Ent.of_perm (perm_of_ct fun a => ?_)) (Ent.drop _ _)
    simp only [List.flatten_cons, List.flatten_nil, ct_append, ct_nil]; omega
  · refine ⟨150, p, .slice vp vn vcap, c', [(1, { kind := 1, mode := 493, uid := 0, gid := 0, up := 1 })], [(nb, .cells (rCells 1 { kind := 1, mode := 493, uid := 0, gid := 0, up := 1 } nilV) 127)] ++ [], pc, perm_of_ct fun a => ?_, by simpa [Value.cells, ptrsR] using hs', .refl _, .cons ⟨127, nilV, [], rfl, slC_nil 2⟩ .nil, hpp⟩
    simp only [List.flatten_cons, List.flatten_nil, ct_append, ct_cons, ct_nil, pt]; omega
end
inductive MRows : List (Option Mnt) → List Value → Prop
  | nil : MRows [] []
  | live {x : Mnt} {L xs} : MRows L xs → MRows (some x :: L) ([vi x.lies.mount, vi x.lies.node, vi x.top, .bool true] ++ xs)
  | dead {L xs} (a b c : Int) : MRows L xs → MRows (none :: L) ([vi a, vi b, vi c, .bool false] ++ xs)
def MRow : Option Mnt → List Value → Prop
  | some x, r => r = [vi x.lies.mount, vi x.lies.node, vi x.top, .bool true]
  | none, r => ∃ a b c : Int, r = [vi a, vi b, vi c, .bool false]
theorem MRows.get {L : List (Option Mnt)} {xs : List Value} (h : MRows L xs) : ∀ {i : Nat} {o : Option Mnt}, nth L i = some o → ∃ row, MRow o row ∧ (xs.drop (i * 4)).take 4 = row ∧ ∀ j < 4, xs[i * 4 + j]? = row[j]? := by
  induction h with
  | nil => intro i o h; simp [nth] at h
  | @live x L xs hr ih =>
    intro i o h
    cases i with
    | zero =>
      simp only [nth, Option.some.injEq] at h
      subst h
      refine ⟨_, rfl, by simp, fun j hj => ?_⟩
      rw [Nat.zero_mul, Nat.zero_add, List.getElem?_append_left (by simpa using hj)]
    | succ i =>
      obtain ⟨row, h1, h2, h3⟩ := ih h
      have e : (i + 1) * 4 = i * 4 + 1 + 1 + 1 + 1 := by omega
      refine ⟨row, h1, by rw [e]; simpa using h2, fun j hj => ?_⟩
      have e2 : (i + 1) * 4 + j = i * 4 + j + 1 + 1 + 1 + 1 := by omega
      rw [e2]; simpa using h3 j hj
  | @dead L xs a b c hr ih =>
    intro i o h
    cases i with
    | zero =>
      simp only [nth, Option.some.injEq] at h
      subst h
      refine ⟨_, ⟨a, b, c, rfl⟩, by simp, fun j hj => ?_⟩
      rw [Nat.zero_mul, Nat.zero_add, List.getElem?_append_left (by simpa using hj)]
    | succ i =>
      obtain ⟨row, h1, h2, h3⟩ := ih h
      have e : (i + 1) * 4 = i * 4 + 1 + 1 + 1 + 1 := by omega
      refine ⟨row, h1, by rw [e]; simpa using h2, fun j hj => ?_⟩
      have e2 : (i + 1) * 4 + j = i * 4 + j + 1 + 1 + 1 + 1 := by omega
      rw [e2]; simpa using h3 j hj
theorem MRows.snoc {L : List (Option Mnt)} {xs : List Value} (h : MRows L xs) (x : Mnt) : MRows (L ++ [some x]) (xs ++ [vi x.lies.mount, vi x.lies.node, vi x.top, .bool true]) := by
  induction h with
  | nil => exact .live .nil
  | live _ ih => simpa using MRows.live ih
  | dead a b c _ ih => simpa using MRows.dead a b c ih
theorem MRows.kill {L : List (Option Mnt)} {xs : List Value} (h : MRows L xs) : ∀ {i : Nat}, i < L.length → MRows (setNth L i none) (xs.take (i * 4 + 3) ++ [.bool false] ++ xs.drop (i * 4 + 3 + 1)) := by
  induction h with
  | nil => intro i h; simp at h
  | @live x L xs hr ih =>
    intro i h
    cases i with
    | zero => simpa [setNth] using MRows.dead x.lies.mount x.lies.node x.top hr
    | succ i =>
      have := ih (by simpa using h)
      have e : (i + 1) * 4 + 3 = i * 4 + 3 + 1 + 1 + 1 + 1 := by omega
      have e3 : (i + 1) * 4 + 3 + 1 = i * 4 + 3 + 1 + 1 + 1 + 1 + 1 := by omega
      rw [e3, e]; simpa [setNth] using MRows.live this
  | @dead L xs a b c hr ih =>
    intro i h
    cases i with
    | zero => simpa [setNth] using MRows.dead a b c hr
    | succ i =>
      have := ih (by simpa using h)
      have e : (i + 1) * 4 + 3 = i * 4 + 3 + 1 + 1 + 1 + 1 := by omega
      have e3 : (i + 1) * 4 + 3 + 1 = i * 4 + 3 + 1 + 1 + 1 + 1 + 1 := by omega
      rw [e3, e]; simpa [setNth] using MRows.dead a b c this
def RTab (b : Nat) (M : Tab) (c : Chunk) : Prop := ∃ ty lv lc xs, c = (b, .cells #[lv] ty) :: lc ∧ SlC 4 lv M.l.length xs lc ∧ MRows M.l xs
def RTabAt (l : St) (b : Nat) (M : Tab) : Prop := ∃ ty lv xs, Knows l b (.cells #[lv] ty) ∧ SlAt l 4 lv M.l.length xs ∧ MRows M.l xs
theorem RTabAt.mono {l l' : St} {b : Nat} {M : Tab} (h : RTabAt l b M) (hl : ∀ b o, Knows l b o → Knows l' b o) : RTabAt l' b M := let ⟨ty, lv, xs, h1, h2, h3⟩ := h; ⟨ty, lv, xs, hl _ _ h1, h2.mono hl, h3⟩
theorem RTabAt.there {l : St} {b : Nat} {M : Tab} (h : RTabAt l b M) (d : Chunk) : RTabAt (d :: l) b M := h.mono fun _ _ => knows_there d
section
variable {l r : St} {b : Nat} {M : Tab} {m node : Int} {p : Plc} {c : Chunk} {R : Value → SP}
theorem tget_nat (M : Tab) (i : Nat) : M.get (i : Int) = match nth M.l i with | some o => o | none => none := by
  show geti M.l (Int.ofNat (i + 1)) = _
  simp only [geti]
  cases nth M.l i <;> rfl
theorem ris_ok (hT : RTabAt l b M) (h : R (.bool (M.get m).isSome) l) : scall Tryz.prog 98 #[ptr b 0, vi m] R l := by
  refine S98_ok ?_
  unfold S98
  obtain ⟨ty, lv, xs, hk, hs, hr⟩ := hT
  refine r_bin (by rfl) ?_
  refine r_guard_d (fun hg => ?_) (fun hg => ?_)
  rotate_left
  · have : M.get m = none := by
      cases hq : M.get m with
      | none => rfl
      | some x => have := tab_get_bound hq; omega
    rw [this] at h; exact h
  obtain ⟨i, rfl⟩ : ∃ i : Nat, m = (i : Int) := ⟨m.toNat, by omega⟩
  refine r_nil ?_
  refine r_fa ?_
  refine r_load1 (x := lv) hk (by rfl) ?_
  refine r_slen hs ?_
  refine r_bin (by rfl) ?_
  refine r_guard_d (fun hg2 => ?_) (fun hg2 => ?_)
  rotate_left
  · have : M.get (i : Int) = none := by
      cases hq : M.get (i : Int) with
      | none => rfl
      | some x => have := tab_get_bound hq; omega
    rw [this] at h; exact h
  have hlt : i < M.l.length := by omega
  obtain ⟨o, ho⟩ : ∃ o, nth M.l i = some o := by rw [nth_eq]; exact ⟨_, List.getElem?_eq_getElem hlt⟩
  obtain ⟨row, h1, h2, h3⟩ := hr.get ho
  refine r_nil ?_
  refine r_fa ?_
  refine r_load1 (x := lv) hk (by rfl) ?_
  have hget := tget_nat M i
  rw [ho] at hget
  cases o with
  | none =>
    obtain ⟨a, b', c', rfl⟩ := h1
    refine r_fld hs hlt (by omega) (h3 3 (by omega)) ?_
    rw [hget] at h; exact h
  | some x =>
    have h1 : row = _ := h1
    subst h1
    refine r_fld hs hlt (by omega) (h3 3 (by omega)) ?_
    rw [hget] at h; exact h
end
end Go.Sl
namespace Go.Sl
variable [Ghost]
open Go Go.Mo Go.Proofs
attribute [local irreducible] snil sfa sext sfield sguard sun sbin slen sload sstore snew snewObj sbuildR sbuildSlR smakeMapR smakeSlR slookup smapset srangeMap snext sentry scall scallv sextern sbuiltin sidx sindex sslice sconv srangeX sarg sand sjoin0 sjoin1 sjoin2 sloop0 sloop1 sloop2
theorem drop_nth {α : Type} {xs : List α} {i : Nat} {o : α} (h : nth xs i = some o) : xs.drop i = o :: xs.drop (i + 1) := by
  rw [nth_eq] at h
  obtain ⟨hi, e⟩ := List.getElem?_eq_some_iff.1 h
  rw [List.drop_eq_getElem_cons hi, e]
theorem live_take {α : Type} : ∀ (xs : List (Option α)) (i k : Nat) (o : Option α), nth xs k = some o → liveFrom i (xs.take (k + 1)) = liveFrom i (xs.take k) ++ (match o with | none => [] | some x => [(((i + k : Nat) : Int), x)])
  | [], i, k, o, h => by simp [nth] at h
  | y :: r, i, 0, o, h => by
    simp only [nth, Option.some.injEq] at h
    subst h
    cases y <;> simp [liveFrom]
  | y :: r, i, k + 1, o, h => by
    have ih := live_take r (i + 1) k o (by simpa [nth] using h)
    have e : i + 1 + k = i + (k + 1) := by omega
    rw [e] at ih
    cases y <;> simp only [List.take_succ_cons, liveFrom, List.cons_append] <;> rw [ih]
section
variable {l r : St} {b : Nat} {M : Tab} {m node : Int} {p : Plc} {c : Chunk} {R : Value → SP} {sz n i j w : Nat} {v x : Value} {xs ys : List Value} {k : Value → SP}
theorem r_fldn (hs : SlAt l sz v n xs) (hi : i < n) (hj : j + w ≤ sz) (hx : (xs.drop (i * sz + j)).take w = ys) (h : k (.agg ys.toArray) l) : sidx none sz v (vi (i : Int)) (fun p => sfa j p fun q => sload (some w) q k) l := by
  refine r_idx hs hi (fun b o cap cs ty fz _ h5 h6 => ?_)
  refine r_fa ?_
  refine r_loadn h5 (ys := ys) ?_ h
  rw [Nat.add_assoc]
  refine takeAt_take h6 (i * sz + j) w ?_ ys hx
  calc i * sz + j + w ≤ i * sz + sz := by omega
    _ = (i + 1) * sz := by rw [Nat.succ_mul]
    _ ≤ n * sz := Nat.mul_le_mul_right _ hi
theorem r_fld2 {j2 : Nat} (hs : SlAt l sz v n xs) (hi : i < n) (hj : j + j2 < sz) (hx : xs[i * sz + (j + j2)]? = some x) (h : k x l) : sidx none sz v (vi (i : Int)) (fun p => sfa j p fun q => sfa j2 q fun s => sload none s k) l := by
  refine r_idx hs hi (fun b o cap cs ty fz _ h5 h6 => ?_)
  refine r_fa ?_
  refine r_fa ?_
  refine r_load1 h5 (x := x) ?_ h
  rw [← hx, Nat.add_assoc, Nat.add_assoc]
  refine cellAt_take h6 (i * sz + (j + j2)) ?_
  calc i * sz + (j + j2) < i * sz + sz := by omega
    _ = (i + 1) * sz := by rw [Nat.succ_mul]
    _ ≤ n * sz := Nat.mul_le_mul_right _ hi
theorem over_one (M : Tab) (p : Plc) : M.over p = overFrom p 1 (M.l.drop 1) := by
  unfold Tab.over
  cases M.l with
  | nil => rfl
  | cons o r => cases o <;> simp [overFrom]
theorem rover_ok (hT : RTabAt l b M) (hS : M.l.length ≤ 2 ^ 30) (h : R (vi ((M.over p).getD (-1))) l) : scall Tryz.prog 127 #[ptr b 0, plV p] R l := by
  refine scall_post (S127_ok ?_)
  unfold S127
  refine r_new fun b3 => ?_
  obtain ⟨ty, lv, xs, hk, hs, hr⟩ := hT
  refine r_loop1 (fun k u σ => ∃ i : Nat, σ = pt b3 (.cells (plV p).cells 27) :: l ∧ u = vi i ∧ 1 ≤ i ∧ M.over p = overFrom p i (M.l.drop i) ∧ k = M.l.length + 1 - i) M.l.length ⟨1, rfl, rfl, Nat.le_refl _, over_one M p, by omega⟩ ?_
  rintro k u σ ⟨i, rfl, rfl, hi, hov, rfl⟩
  refine r_nil ?_
  refine r_fa ?_
  refine r_load1 (x := lv) (knows_there _ hk) (by rfl) ?_
  refine r_slen (hs.there _) ?_
  refine r_bin (by rfl) ?_
  refine r_guard_d (fun hg => ?_) (fun hg => ?_)
  · have hlt : i < M.l.length := by omega
    obtain ⟨o, ho⟩ : ∃ o, nth M.l i = some o := by rw [nth_eq]; exact ⟨_, List.getElem?_eq_getElem hlt⟩
    obtain ⟨row, h1, h2, h3⟩ := hr.get ho
    rw [drop_nth ho] at hov
    have hw : IntKind.i64.wrap ((i : Int) + 1) = ((i + 1 : Nat) : Int) := by rw [wrap_id (by omega) (by omega)]; simp
    refine r_join1 ?_
    refine r_nil ?_
    refine r_fa ?_
    refine r_load1 (x := lv) (knows_there _ hk) (by rfl) ?_
    cases o with
    | none =>
      obtain ⟨a, b', c', rfl⟩ := h1
      refine r_fld (hs.there _) hlt (by omega) (h3 3 (by omega)) ?_
      refine r_guard_f ?_
      refine r_guard_f ?_
      refine r_bin (by rfl) ?_
      rw [hw]
      exact ⟨_, by omega, i + 1, rfl, rfl, by omega, by simpa [overFrom] using hov, rfl⟩
    | some x =>
      have h1 : row = _ := h1
      subst h1
      refine r_fld (hs.there _) hlt (by omega) (h3 3 (by omega)) ?_
      refine r_guard_t ?_
      refine r_nil ?_
      refine r_fa ?_
      refine r_load1 (x := lv) (knows_there _ hk) (by rfl) ?_
      refine r_fldn (ys := [vi x.lies.mount, vi x.lies.node]) (hs.there _) hlt (by omega) ?_ ?_
      · have := congrArg (List.take 2) h2
        rw [List.take_take] at this
        simpa using this
      refine r_loadn (ys := [vi p.mount, vi p.node]) (knows_pt _ _ _) (by rfl) ?_
      refine r_placeEq (p := x.lies) (q := p) ?_
      refine r_guard_d (fun he => ?_) (fun he => ?_)
      · have : M.over p = some (i : Int) := by rw [hov]; simp only [overFrom]; rw [if_pos ⟨by omega, he⟩]
        rw [this] at h
        exact ⟨l, Ent.drop _ _, h⟩
      · refine r_bin (by rfl) ?_
        rw [hw]
        exact ⟨_, by omega, i + 1, rfl, rfl, by omega, by rw [hov]; simp only [overFrom]; rw [if_neg (fun h => he h.2)], rfl⟩
  · have : M.over p = none := by rw [hov, List.drop_eq_nil_of_le (by omega)]; rfl
    rw [this] at h
    exact ⟨l, Ent.drop _ _, h⟩
theorem rmlist_ok (hT : RTabAt l b M) (hS : M.l.length ≤ 2 ^ 30) (h : ∀ v c, SlC 1 v M.list.length (M.list.map vi) c → R v (c :: l)) : scall Tryz.prog 65 #[ptr b 0] R l := by
  refine scall_perm (l' := [] :: l) (by simp) (scall_post (S65_ok ?_))
  unfold S65
  obtain ⟨ty, lv, xs, hk, hs, hr⟩ := hT
  refine r_loop2 (fun k u w σ => ∃ (i : Nat) (c : Chunk) (g : St), σ = c :: (g ++ l) ∧ SlC 1 u ((liveFrom 0 (M.l.take i)).map (·.1)).length (((liveFrom 0 (M.l.take i)).map (·.1)).map vi) c ∧ w = vi i ∧ i ≤ M.l.length ∧ k = M.l.length - i) M.l.length ⟨0, [], [], rfl, by simpa [liveFrom] using slC_nil 1, rfl, Nat.zero_le _, rfl⟩ ?_
  rintro k u w σ ⟨i, c, g, rfl, hsc, rfl, hi, rfl⟩
  have kup : ∀ {q : Nat} {o : Obj}, Knows l q o → Knows (c :: (g ++ l)) q o := fun h => knows_there _ (knows_right g h)
  refine r_nil ?_
  refine r_fa ?_
  refine r_load1 (x := lv) (kup hk) (by rfl) ?_
  refine r_slen (hs.mono fun _ _ => kup) ?_
  refine r_bin (by rfl) ?_
  refine r_guard_d (fun hg => ?_) (fun hg => ?_)
  · have hlt : i < M.l.length := by omega
    obtain ⟨o, ho⟩ : ∃ o, nth M.l i = some o := by rw [nth_eq]; exact ⟨_, List.getElem?_eq_getElem hlt⟩
    obtain ⟨row, h1, h2, h3⟩ := hr.get ho
    have htk := live_take M.l 0 i o ho
    have hw : IntKind.i64.wrap ((i : Int) + 1) = ((i + 1 : Nat) : Int) := by rw [wrap_id (by omega) (by omega)]; simp
    have hll : ((liveFrom 0 (M.l.take i)).map (·.1)).length ≤ 2 ^ 30 := by
      rw [List.length_map]
      have h1 := liveFrom_len (M.l.take i) 0
      have h2 := List.length_take_le i M.l
      omega
    refine r_join1 ?_
    refine r_nil ?_
    refine r_fa ?_
    refine r_load1 (x := lv) (kup hk) (by rfl) ?_
    cases o with
    | none =>
      obtain ⟨a, b', c', rfl⟩ := h1
      refine r_fld (hs.mono fun _ _ => kup) hlt (by omega) (h3 3 (by omega)) ?_
      refine r_guard_f ?_
      refine r_bin (by rfl) ?_
      rw [hw]
      refine ⟨M.l.length - (i + 1), by omega, i + 1, c, g, rfl, ?_, rfl, by omega, rfl⟩
      rw [htk]; simpa using hsc
    | some x =>
      have h1 : row = _ := h1
      subst h1
      refine r_fld (hs.mono fun _ _ => kup) hlt (by omega) (h3 3 (by omega)) ?_
      refine r_guard_t ?_
      refine r_buildSl (ds := [vi (i : Int)]) rfl (by omega) rfl (fun e => ?_)
      refine r_append (e := 3) (i := Tryz.t3) (z := .int .i64 0) (m := 1) (news := [vi (i : Int)]) (by kernel_rfl) (by kernel_rfl) (by kernel_rfl) (by kernel_rfl) rfl hsc (r := pt e (.cells #[vi (i : Int)] 3) :: (g ++ l)) (take_there _ (take_here _ _))
        (srcAt_row (e' := 3) (by kernel_rfl) (knows_pt _ _ _) rfl rfl (by simp; rfl)) ?_ (by omega) (fun v' c' hs' => ?_)
      · have : Tryz.t3.bytes = 8 := by kernel_rfl
        rw [this]; omega
      · refine r_bin (by rfl) ?_
        rw [hw]
        refine ⟨M.l.length - (i + 1), by omega, i + 1, c', pt e (.cells #[vi (i : Int)] 3) :: g, rfl, ?_, rfl, by omega, rfl⟩
        rw [htk]
        simp only [Nat.zero_add, List.map_append, List.map_cons, List.map_nil, List.length_append, List.length_cons, List.length_nil]
        simpa [Value.cells] using hs'
  · have hiL : i = M.l.length := by omega
    rw [hiL, List.take_length] at hsc
    exact ⟨c :: l, ent_behind c g l, h u c (by simpa [Tab.list] using hsc)⟩
theorem rabove_ok (hT : RTabAt l b M) (hS : M.l.length ≤ 2 ^ 30) (h : ∀ v c, SlC 1 v (M.above m).length ((M.above m).map vi) c → R v (c :: l)) : scall Tryz.prog 99 #[ptr b 0, vi m] R l := by
  refine scall_perm (l' := [] :: l) (by simp) (scall_post (S99_ok ?_))
  unfold S99
  obtain ⟨ty, lv, xs, hk, hs, hr⟩ := hT
  obtain ⟨ab, hab⟩ : ∃ ab : Nat → List Int, ∀ i, ab i = (((liveFrom 0 (M.l.take i)).filter fun q => 0 < q.1 && q.2.lies.mount = m).map (·.1)) := ⟨_, fun _ => rfl⟩
  have hab1 : ab 1 = [] := by
    rw [hab]
    cases M.l with
    | nil => rfl
    | cons o r => cases o <;> simp [liveFrom]
  refine r_loop2 (fun k u w σ => ∃ (i : Nat) (c : Chunk) (g : St), σ = c :: (g ++ l) ∧ SlC 1 u (ab i).length ((ab i).map vi) c ∧ w = vi i ∧ 1 ≤ i ∧ k = M.l.length + 1 - i) M.l.length ⟨1, [], [], rfl, by rw [hab1]; exact slC_nil 1, rfl, Nat.le_refl _, by omega⟩ ?_
  rintro k u w σ ⟨i, c, g, rfl, hsc, rfl, hi, rfl⟩
  have kup : ∀ {q : Nat} {o : Obj}, Knows l q o → Knows (c :: (g ++ l)) q o := fun h => knows_there _ (knows_right g h)
  refine r_nil ?_
  refine r_fa ?_
  refine r_load1 (x := lv) (kup hk) (by rfl) ?_
  refine r_slen (hs.mono fun _ _ => kup) ?_
  refine r_bin (by rfl) ?_
  refine r_guard_d (fun hg => ?_) (fun hg => ?_)
  · have hlt : i < M.l.length := by omega
    obtain ⟨o, ho⟩ : ∃ o, nth M.l i = some o := by rw [nth_eq]; exact ⟨_, List.getElem?_eq_getElem hlt⟩
    obtain ⟨row, h1, h2, h3⟩ := hr.get ho
    have htk := live_take M.l 0 i o ho
    have hw : IntKind.i64.wrap ((i : Int) + 1) = ((i + 1 : Nat) : Int) := by rw [wrap_id (by omega) (by omega)]; simp
    have hll : (ab i).length ≤ 2 ^ 30 := by
      rw [hab, List.length_map]
      have h1 := List.length_filter_le (fun q : Int × Mnt => 0 < q.1 && q.2.lies.mount = m) (liveFrom 0 (M.l.take i))
      have h1 := liveFrom_len (M.l.take i) 0
      have h2 := List.length_take_le i M.l
      omega
    have same : ab (i + 1) = ab i → ∃ k', k' < M.l.length + 1 - i ∧ ∃ (i' : Nat) (c' : Chunk) (g' : St), c :: (g ++ l) = c' :: (g' ++ l) ∧ SlC 1 u (ab i').length ((ab i').map vi) c' ∧ vi ((i + 1 : Nat) : Int) = vi i' ∧ 1 ≤ i' ∧ k' = M.l.length + 1 - i' := fun he =>
      ⟨M.l.length + 1 - (i + 1), by omega, i + 1, c, g, rfl, by rw [he]; exact hsc, rfl, by omega, rfl⟩
    refine r_join1 ?_
    refine r_join1 ?_
    refine r_nil ?_
    refine r_fa ?_
    refine r_load1 (x := lv) (kup hk) (by rfl) ?_
    cases o with
    | none =>
      obtain ⟨a, b', c', rfl⟩ := h1
      refine r_fld (hs.mono fun _ _ => kup) hlt (by omega) (h3 3 (by omega)) ?_
      refine r_guard_f ?_
      refine r_guard_f ?_
      refine r_bin (by rfl) ?_
      rw [hw]
      exact same (by rw [hab, hab, htk]; simp)
    | some x =>
      have h1 : row = _ := h1
      subst h1
      refine r_fld (hs.mono fun _ _ => kup) hlt (by omega) (h3 3 (by omega)) ?_
      refine r_guard_t ?_
      refine r_nil ?_
      refine r_fa ?_
      refine r_load1 (x := lv) (kup hk) (by rfl) ?_
      refine r_fld2 (hs.mono fun _ _ => kup) hlt (by omega) (h3 (0 + 0) (by omega)) ?_
      refine r_bin (v := .bool (x.lies.mount == m)) (by rfl) ?_
      by_cases he : x.lies.mount = m
      · have : (x.lies.mount == m) = true := by simpa using he
        rw [this]
        refine r_guard_t ?_
        refine r_buildSl (ds := [vi (i : Int)]) rfl (by omega) rfl (fun e => ?_)
        refine r_append (e := 3) (i := Tryz.t3) (z := .int .i64 0) (m := 1) (news := [vi (i : Int)]) (by kernel_rfl) (by kernel_rfl) (by kernel_rfl) (by kernel_rfl) rfl hsc (r := pt e (.cells #[vi (i : Int)] 3) :: (g ++ l)) (take_there _ (take_here _ _))
          (srcAt_row (e' := 3) (by kernel_rfl) (knows_pt _ _ _) rfl rfl (by simp; rfl)) ?_ (by omega) (fun v' c' hs' => ?_)
        · have : Tryz.t3.bytes = 8 := by kernel_rfl
          rw [this]; omega
        · refine r_bin (by rfl) ?_
          rw [hw]
          have hi0 : 0 < (i : Int) := by omega
          have e1 : ab (i + 1) = ab i ++ [(i : Int)] := by
            rw [hab, hab, htk]
            have hi2 : 0 < i := by omega
            simp [he, hi2]
          refine ⟨M.l.length + 1 - (i + 1), by omega, i + 1, c', pt e (.cells #[vi (i : Int)] 3) :: g, rfl, ?_, rfl, by omega, rfl⟩
          rw [e1]
          simp only [List.map_append, List.map_cons, List.map_nil, List.length_append, List.length_cons, List.length_nil]
          simpa [Value.cells] using hs'
      · have : (x.lies.mount == m) = false := by simpa using he
        rw [this]
        refine r_guard_f ?_
        refine r_bin (by rfl) ?_
        rw [hw]
        exact same (by rw [hab, hab, htk]; simp [he])
  · have hiL : M.l.take i = M.l := List.take_of_length_le (by omega)
    have e1 : ab i = M.above m := by rw [hab, hiL]; rfl
    rw [e1] at hsc
    exact ⟨c :: l, ent_behind c g l, h u c hsc⟩
theorem rmnew_ok (h : ∀ b c, RTab b (Tab.new node) c → R (ptr b 0) (c :: l)) : scall Tryz.prog 73 #[vi node] R l := by
  refine scall_post (S73_ok ?_)
  unfold S73
  refine r_build (by rfl) ?_
  refine r_buildSl (ds := [vi 0, vi 0, vi node, .bool true]) rfl (by omega) rfl (fun e => ?_)
  refine r_build (by rfl) ?_
  refine r_new fun b => ?_
  refine ⟨_, ent_close [_, _] l, h b _ ⟨169, .slice (some ⟨e, 0, none⟩) 1 1, _, _, rfl, ⟨rfl, ?_, .inr ⟨e, 1, [], 166, rfl, Nat.le_refl _, ?_, rfl⟩⟩, MRows.live (x := { top := node }) .nil⟩⟩
  · intro u hu
    simp at hu
    rcases hu with rfl | rfl | rfl | rfl <;> rfl
  · simp [pt]
end
end Go.Sl
namespace Go.Sl
variable [Ghost]
open Go Go.Mo Go.Proofs
attribute [local irreducible] snil sfa sext sfield sguard sun sbin slen sload sstore snew snewObj sbuildR sbuildSlR smakeMapR smakeSlR slookup smapset srangeMap snext sentry scall scallv sextern sbuiltin sidx sindex sslice sconv srangeX sarg sand sjoin0 sjoin1 sjoin2 sloop0 sloop1 sloop2
section
variable {l r : St} {b : Nat} {M : Tab} {m node : Int} {p : Plc} {c : Chunk} {R : Value → SP}
theorem rtab_two {lv : Value} {ty : TypeId} {xs : List Value} {lc : Chunk} (hs : SlC 4 lv M.l.length xs lc) (hr : MRows M.l xs) (r : St) : RTabAt (pt b (.cells #[lv] ty) :: lc :: r) b M :=
  ⟨ty, lv, xs, knows_pt _ _ _, hs.at fun q o hq => knows_there _ (knows_in hq _), hr⟩
theorem rbind_ok (hk : Take l c r) (hP : RTab b M c) (hS : M.l.length + 1 ≤ 2 ^ 30) (h : ∀ c', RTab b (M.bind p node).1 c' → R (.tuple #[vi (M.bind p node).2.1, vi (M.bind p node).2.2]) (c' :: r)) :
    scall Tryz.prog 94 #[ptr b 0, plV p, vi node] R l := by
  obtain ⟨ty, lv, lc, xs, rfl, hs, hr⟩ := hP
  refine scall_perm (l' := pt b (.cells #[lv] ty) :: lc :: r) (hk.trans (by simp [pt])) (scall_post (S94_ok ?_))
  have bad : ∀ (e : Int) (g : St), M.bind p node = (M, 0, e) → ∃ l2, Ent (g ++ (pt b (.cells #[lv] ty) :: lc :: r)) l2 ∧ R (.tuple #[vi 0, vi e]) l2 := fun e g hb => by
    rw [hb] at h
    exact ⟨_, (ent_front g _).trans (ent_close [_, _] r), h _ ⟨ty, lv, lc, xs, by simp [pt], hs, hr⟩⟩
  have hRT : RTabAt (pt b (.cells #[lv] ty) :: lc :: r) b M := rtab_two hs hr r
  unfold S94
  refine r_new fun b4 => ?_
  refine r_fa ?_
  refine r_load1 (x := vi p.mount) (knows_pt _ _ _) (by rfl) ?_
  refine ris_ok (hRT.there _) ?_
  refine r_not ?_
  cases hget : M.get p.mount with
  | none =>
    refine r_guard_t ?_
    exact bad 1 [_] (by simp [Tab.bind, hget])
  | some y =>
  refine r_guard_f ?_
  refine r_loadn (ys := [vi p.mount, vi p.node]) (knows_pt _ _ _) (by rfl) ?_
  refine rover_ok (p := p) (hRT.there _) (by omega) ?_
  refine r_bin (by rfl) ?_
  cases hov : M.over p with
  | some q =>
    have h0 := (over_some hov).1
    refine r_guard_d (fun hg => ?_) (fun hg => ?_)
    · exact bad 15 [_] (by simp [Tab.bind, hget, hov])
    · simp only [Option.getD_some] at hg; omega
  | none =>
  refine r_guard_d (fun hg => ?_) (fun hg => ?_)
  · simp at hg
  refine rmlist_ok (hRT.there _) (by omega) (fun lv2 lc2 hls => ?_)
  refine r_slen (hls.at fun q o hq => knows_in hq _) ?_
  refine r_bin (by rfl) ?_
  refine r_guard_d (fun hg2 => ?_) (fun hg2 => ?_)
  · exact bad 13 [_, _] (by
      have : 8 ≤ M.list.length := by omega
      simp [Tab.bind, hget, hov, this])
  have hlt : ¬ 8 ≤ M.list.length := by omega
  have hbd : M.bind p node = (({ l := M.l ++ [some { top := node, lies := p }] } : Tab), (M.l.length : Int), (0 : Int)) := by simp [Tab.bind, hget, hov, hlt]
  rw [hbd] at h
  simp only at h
  refine r_nil ?_
  refine r_fa ?_
  refine r_load1 (x := lv) (knows_there _ (knows_there _ (knows_pt _ _ _))) (by rfl) ?_
  refine r_loadn (ys := [vi p.mount, vi p.node]) (knows_there _ (knows_pt _ _ _)) (by rfl) ?_
  refine r_build (by rfl) ?_
  refine r_buildSl (ds := [vi p.mount, vi p.node, vi node, .bool true]) rfl (by omega) rfl (fun e => ?_)
  refine r_and (r_load1 (x := lv) (knows_there _ (knows_there _ (knows_there _ (knows_pt _ _ _)))) (by rfl) rfl) ?_
  refine r_append (e := 166) (i := Tryz.t166) (z := .agg #[.int .i64 0, .int .i64 0, .int .i64 0, .bool false]) (m := 1) (news := [vi p.mount, vi p.node, vi node, .bool true]) (by kernel_rfl) (by kernel_rfl) (by kernel_rfl) (by kernel_rfl) rfl hs (take_there _ (take_there _ (take_there _ (take_there _ (take_here _ _)))))
    (srcAt_row (e' := 166) (by kernel_rfl) (knows_pt _ _ _) rfl rfl (by
      intro u hu
      simp at hu
      rcases hu with rfl | rfl | rfl | rfl <;> rfl)) ?_ (by omega) (fun v' c' hs' => ?_)
  · have : Tryz.t166.bytes = 32 := by kernel_rfl
    rw [this]; omega
  obtain ⟨vp, vn, vcap, rfl⟩ := hs'.form
  refine r_nil ?_
  refine r_fa ?_
  refine r_store (knows_there _ (knows_there _ (knows_there _ (knows_there _ (knows_pt _ _ _))))) (by rfl) (by rfl) (by rfl) (by rfl) (change_there _ (change_there _ (change_there _ (change_there _ (change_pt _ _ _ _))))) ?_
  refine r_nil ?_
  refine r_fa ?_
  refine r_load1 (knows_there _ (knows_there _ (knows_there _ (knows_there _ (knows_pt _ _ _))))) (by rfl) ?_
  have hvn : vn = M.l.length + 1 := by
    obtain ⟨-, -, ⟨e1, e2, -⟩ | ⟨b, cap, zs, ty', e1, -⟩⟩ := hs'
    · omega
    · injection e1
  subst hvn
  refine r_len_slice ?_
  refine r_bin (by rfl) ?_
  have hw : IntKind.i64.wrap (((M.l.length + 1 : Nat) : Int) - 1) = (M.l.length : Int) := by rw [wrap_id (by omega) (by omega)]; omega
  rw [hw]
  refine ⟨[pt b (.cells #[.slice vp (M.l.length + 1) vcap] ty), c'].flatten :: r, ?_, h _ ⟨ty, .slice vp (M.l.length + 1) vcap, c', _, by simp [pt], by simpa [Value.cells] using hs', hr.snoc { top := node, lies := p }⟩⟩
  refine Ent.trans (l' := lc2 :: pt e (.cells (List.toArray [vi p.mount, vi p.node, vi node, .bool true]) 166) :: pt b4 (.cells (plV p).cells 27) :: ([pt b (.cells #[.slice vp (M.l.length + 1) vcap] ty), c'].flatten :: r)) (Ent.of_perm (perm_of_ct fun a => ?_)) ((Ent.drop _ _).trans ((Ent.drop _ _).trans (Ent.drop _ _)))
  simp only [List.flatten_cons, List.flatten_nil, ct_append, ct_nil]
  try omega
theorem runbind_ok (hk : Take l c r) (hP : RTab b M c) (hS : M.l.length ≤ 2 ^ 30) (h : ∀ c', RTab b (M.unbind m).1 c' → R (vi (M.unbind m).2) (c' :: r)) :
    scall Tryz.prog 46 #[ptr b 0, vi m] R l := by
  obtain ⟨ty, lv, lc, xs, rfl, hs, hr⟩ := hP
  refine scall_perm (l' := pt b (.cells #[lv] ty) :: lc :: r) (hk.trans (by simp [pt])) (scall_post (S46_ok ?_))
  have bad : ∀ (e : Int) (g : St), M.unbind m = (M, e) → ∃ l2, Ent (g ++ (pt b (.cells #[lv] ty) :: lc :: r)) l2 ∧ R (vi e) l2 := fun e g hb => by
    rw [hb] at h
    exact ⟨_, (ent_front g _).trans (ent_close [_, _] r), h _ ⟨ty, lv, lc, xs, by simp [pt], hs, hr⟩⟩
  have hRT : RTabAt (pt b (.cells #[lv] ty) :: lc :: r) b M := rtab_two hs hr r
  unfold S46
  refine r_join1 ?_
  refine r_bin (v := .bool (m == 0)) (by rfl) ?_
  by_cases h0 : m = 0
  · have : (m == 0) = true := by simpa using h0
    rw [this]
    refine r_guard_t ?_
    refine r_guard_t ?_
    exact bad 1 [] (by unfold Tab.unbind; cases M.get m <;> simp [h0])
  have : (m == 0) = false := by simpa using h0
  rw [this]
  refine r_guard_f ?_
  refine ris_ok hRT ?_
  refine r_not ?_
  cases hget : M.get m with
  | none =>
    refine r_guard_t ?_
    exact bad 1 [] (by simp [Tab.unbind, hget])
  | some x =>
  refine r_guard_f ?_
  refine rabove_ok hRT hS (fun av ac ha => ?_)
  refine r_slen (ha.at fun q o hq => knows_in hq _) ?_
  refine r_bin (by rfl) ?_
  refine r_guard_d (fun hg => ?_) (fun hg => ?_)
  · have hne : M.above m ≠ [] := fun e => by rw [e] at hg; simp at hg
    exact bad 15 [_] (by simp [Tab.unbind, hget, h0, hne])
  have he : M.above m = [] := by
    cases hq : M.above m with
    | nil => rfl
    | cons a as2 => rw [hq] at hg; simp only [List.length_cons] at hg; omega
  have hb := tab_get_bound hget
  have hun : M.unbind m = (({ l := seti M.l (m + 1) none } : Tab), (0 : Int)) := by simp [Tab.unbind, hget, h0, he]
  rw [hun] at h
  simp only at h
  obtain ⟨i, rfl⟩ : ∃ i : Nat, m = (i : Int) := ⟨m.toNat, by omega⟩
  have hlt : i < M.l.length := by omega
  refine r_nil ?_
  refine r_fa ?_
  refine r_load1 (x := lv) (knows_there _ (knows_pt _ _ _)) (by rfl) ?_
  obtain ⟨q, cap, zs, ty', rfl, rfl⟩ := slC_base hs (by omega)
  refine r_idx (hs.at (l := ac :: pt b (.cells #[.slice (some ⟨q, 0, none⟩) M.l.length cap] ty) :: [(q, .cells (xs ++ zs).toArray ty')] :: r) fun q o hq => knows_there _ (knows_there _ (knows_in hq _))) hlt (fun b2 o2 cap2 cs2 ty2 fz2 e _ _ => ?_)
  injection e with e1 e2 e3
  injection e1 with e1
  injection e1 with e1 e4
  subst e1; subst e4
  refine r_fa ?_
  refine r_setC (y := .bool false) hs (take_there _ (take_there _ (take_here _ _))) ⟨cap, rfl⟩ (by rfl) (by omega) (by rfl) (fun c' hc' => ?_)
  refine ⟨[pt b (.cells #[.slice (some ⟨q, 0, none⟩) M.l.length cap] ty), c'].flatten :: r, ?_, h _ ⟨ty, .slice (some ⟨q, 0, none⟩) M.l.length cap, c', xs.take (i * 4 + 3) ++ [.bool false] ++ xs.drop (i * 4 + 3 + 1), by simp [pt], ?_, ?_⟩⟩
  · refine Ent.trans (l' := ac :: ([pt b (.cells #[.slice (some ⟨q, 0, none⟩) M.l.length cap] ty), c'].flatten :: r)) (Ent.of_perm (perm_of_ct fun a => ?_)) (Ent.drop _ _)
    simp only [List.flatten_cons, List.flatten_nil, ct_append, ct_nil]
    try omega
  · have : (seti M.l ((i : Int) + 1) none).length = M.l.length := seti_len _ _ _
    rw [this]
    have e0 : 0 + i * 4 + 3 = i * 4 + 3 := by omega
    rw [e0] at hc'
    exact hc'
  · have hk := hr.kill hlt
    have : seti M.l ((i : Int) + 1) none = setNth M.l i none := rfl
    rw [this]
    exact hk
end
end Go.Sl
namespace Go.Sl
variable [Ghost]
open Go.Mo
def alive (T : Tree) : Nat := sumO (fun _ => 1) T.all
theorem live_sum : ∀ (xs : List (Option Nd)) (i : Nat), (liveFrom i xs).length = sumO (fun _ => 1) xs
  | [], _ => rfl
  | some x :: r, i => by rw [sumO_cons]; simp only [liveFrom, List.length_cons, live_sum r (i + 1), opt]; omega
  | none :: r, i => by rw [sumO_cons]; simp only [liveFrom, live_sum r (i + 1), opt]; omega
theorem live_len (T : Tree) : T.live.length = alive T := by
  unfold Tree.live Tree.lives; rw [List.length_map]; exact live_sum T.all 1
structure Keep (B : Nat) (T : Tree) : Prop where
  room : (alive T : Int) ≤ T.most
  most : T.most ≤ 64
  texts : ∀ n x, T.at n = some x → x.text.length ≤ B
section
variable {B : Nat} {T : Tree} {n dir to : Int} {x y d : Nd} {s s2 : Str} {st : Stt} {text : Str}
theorem alive_put (hx : T.at n = some x) (y : Nd) : alive (T.put n (some y)) = alive T := by
  have := put_sum (fun _ => 1) hx (some y)
  simp only [opt] at this
  unfold alive; omega
theorem Keep.put (h : Keep B T) (hx : T.at n = some x) (e : y.text = x.text) : Keep B (T.put n (some y)) := by
  refine ⟨by rw [alive_put hx]; exact h.room, h.most, fun m z hz => ?_⟩
  rw [put_at hx] at hz
  split at hz
  · cases hz; rw [e]; exact h.texts n x hx
  · exact h.texts m z hz
theorem give_alive : alive (T.give dir s n) = alive T ∧ (T.give dir s n).most = T.most := by
  unfold Tree.give
  split
  · exact ⟨rfl, rfl⟩
  · rename_i d hd
    simp only
    split
    · exact ⟨alive_put hd _, rfl⟩
    · rename_i x hx
      exact ⟨by rw [alive_put hx, alive_put hd], rfl⟩
theorem give_texts (h : ∀ n x, T.at n = some x → x.text.length ≤ B) : ∀ m x, (T.give dir s n).at m = some x → x.text.length ≤ B := by
  unfold Tree.give
  split
  · exact h
  · rename_i d hd
    have h1 : ∀ m x, (T.put dir (some { d with names := insS s n d.names })).at m = some x → x.text.length ≤ B := fun m z hz => by
      rw [put_at hd] at hz
      split at hz
      · cases hz; exact h dir d hd
      · exact h m z hz
    simp only
    split
    · exact h1
    · rename_i x hx
      intro m z hz
      rw [put_at hx] at hz
      split at hz
      · cases hz; exact h1 n x hx
      · exact h1 m z hz
theorem Keep.give (h : Keep B T) : Keep B (T.give dir s n) := by
  obtain ⟨h1, h2⟩ := give_alive (T := T) (dir := dir) (s := s) (n := n)
  exact ⟨by rw [h1, h2]; exact h.room, by rw [h2]; exact h.most, give_texts h.texts⟩
theorem Keep.less (h : Keep B T) : Keep B (T.less dir s n) := by
  unfold Tree.less
  split
  · exact h
  · rename_i d hd
    have h1 : Keep B (T.put dir (some { d with names := delS s d.names })) := h.put hd rfl
    simp only
    split
    · exact h1
    · rename_i x hx
      exact h1.put hx rfl
theorem Keep.reap (h : Keep B T) : Keep B (T.reap n) := by
  refine ⟨?_, ?_, fun m z hz => h.texts m z (reap_some m hz)⟩
  · unfold Tree.reap
    split
    · exact h.room
    · rename_i x hx
      split
      · exact h.room
      · have := put_sum (fun _ => 1) hx none
        simp only [opt] at this
        have hr := h.room
        show ((alive (T.put n none) : Nat) : Int) ≤ T.most
        unfold alive at hr ⊢
        omega
  · unfold Tree.reap
    split
    · exact h.most
    · split <;> exact h.most
theorem Keep.take (h : Keep B T) : Keep B (T.take dir s n) := h.less.reap
theorem Keep.make (h : Keep B T) (ht : text.length ≤ B) : Keep B (T.make dir s st text).1 := by
  rcases make_cases (T := T) dir s st text with ⟨w, h', -⟩ | ⟨d, hd, hr, k1, k3, htx, hg, hnb, h'⟩
  · rw [h']; exact h
  · have hroom : ¬ T.most ≤ T.live.length := fun hm => by
      have h0 : (T.make dir s st text).2.2 = 0 := by rw [h']
      unfold Tree.make at h0
      rw [hd] at h0
      simp only at h0
      split at h0
      · cases h0
      · split at h0
        · cases h0
        · split at h0
          · cases h0
          · split at h0
            · cases h0
            · cases h0
    rw [h']
    obtain ⟨h1, h2⟩ := give_alive (T := addT T st text) (dir := dir) (s := s) (n := ((T.all.length + 1 : Nat) : Int))
    rw [live_len] at hroom
    refine ⟨?_, by rw [h2]; exact h.most, give_texts fun m z hz => ?_⟩
    · rw [h1, h2]
      have := sumO_app (fun _ => 1) T.all (some (newNd T st text))
      simp only [opt] at this
      show ((sumO (fun _ => 1) (T.all ++ [some (newNd T st text)]) : Nat) : Int) ≤ T.most
      unfold alive at hroom
      omega
    · rw [add_at] at hz
      split at hz
      · cases hz; exact ht
      · exact h.texts m z hz
theorem Keep.join (h : Keep B T) : Keep B (T.join dir s n).1 := by
  unfold Tree.join
  split
  · repeat' split
    all_goals first | exact h | exact h.give
  · exact h
theorem Keep.part (h : Keep B T) : Keep B (T.part dir s).1 := by
  unfold Tree.part
  repeat' split
  all_goals first | exact h | exact h.take
theorem Keep.move (h : Keep B T) : Keep B (T.move dir s to s2).1 := by
  rcases move_cases (T := T) dir s to s2 with ⟨w, h'⟩ | ⟨d, y, n, x, -, -, -, -, -, -, -, -, -, ⟨old, z, -, -, -, -, -, h'⟩ | ⟨-, h'⟩⟩
  · rw [h']; exact h
  · rw [h']; exact h.take.less.give
  · rw [h']; exact h.less.give
theorem Keep.hold (h : Keep B T) : Keep B (T.hold n).1 := by
  unfold Tree.hold
  split
  · exact h
  · rename_i x hx
    exact h.put hx rfl
theorem Keep.setMode {j : Int} (h : Keep B T) : Keep B (T.setMode n j).1 := by
  unfold Tree.setMode
  split
  · exact h
  · rename_i x hx
    exact h.put hx rfl
theorem Keep.setOwner {u v : Int} (h : Keep B T) : Keep B (T.setOwner n u v).1 := by
  unfold Tree.setOwner
  split
  · exact h
  · rename_i x hx
    exact h.put hx rfl
theorem Keep.new {a b : Int} (h : Tree.new a b = some T) : Keep B T := by
  unfold Tree.new at h
  split at h
  · cases h
  · rename_i hb
    cases h
    simp only [Bool.or_eq_true, decide_eq_true_eq, not_or] at hb
    refine ⟨?_, ?_, fun n x hx => ?_⟩
    · show ((1 : Nat) : Int) ≤ a; omega
    · show a ≤ 64; omega
    · obtain ⟨j, rfl, hj⟩ := geti_nth hx
      cases j with
      | zero => cases hj; exact Nat.zero_le _
      | succ j => cases j <;> cases hj
end
theorem TabOk.new (n : Int) : TabOk (Tab.new n) := by
  refine ⟨⟨_, rfl⟩, fun m x hx hm => ?_⟩
  obtain ⟨k, h1, h2⟩ := geti_nth' hx
  cases k with
  | zero => omega
  | succ k => cases k <;> cases h2
theorem tab_snoc {M : Tab} {y : Mnt} {m : Int} {x : Mnt} (h : ({ l := M.l ++ [some y] } : Tab).get m = some x) : M.get m = some x ∨ (m = (M.l.length : Int) ∧ x = y) := by
  obtain ⟨k, h1, h2⟩ := geti_nth' h
  have hm : m = (k : Int) := by omega
  subst hm
  rw [nth_eq] at h2
  by_cases hk : k < M.l.length
  · left
    rw [List.getElem?_append_left hk, ← nth_eq] at h2
    exact nth_geti' h2
  · rw [List.getElem?_append_right (by omega)] at h2
    cases hj : k - M.l.length with
    | zero => rw [hj] at h2; right; cases h2; exact ⟨by omega, rfl⟩
    | succ j => rw [hj] at h2; simp at h2
theorem tab_snoc_of {M : Tab} {y : Mnt} {m : Int} {x : Mnt} (h : M.get m = some x) : ({ l := M.l ++ [some y] } : Tab).get m = some x := by
  obtain ⟨k, h1, h2⟩ := geti_nth' h
  have hk := nth_lt _ _ _ h2
  have : m = (k : Int) := by omega
  subst this
  refine nth_geti' (k := k) ?_
  show nth (M.l ++ [some y]) k = _
  rw [nth_eq, List.getElem?_append_left hk, ← nth_eq]; exact h2
theorem TabOk.bind {M : Tab} {p : Plc} {node : Int} (ok : TabOk M) : TabOk (M.bind p node).1 := by
  unfold Tab.bind
  split
  · exact ok
  · rename_i y hy
    split
    · exact ok
    · split
      · exact ok
      · have hb := tab_get_bound hy
        refine ⟨?_, fun m x hx hm => ?_⟩
        · obtain ⟨x, hx⟩ := ok.root
          exact ⟨x, tab_snoc_of hx⟩
        · rcases tab_snoc hx with h | ⟨rfl, rfl⟩
          · exact ok.below m x h hm
          · exact hb
theorem seti_get {α : Type} {xs : List (Option α)} {n m : Int} {x : α} (h : geti (seti xs n none) m = some x) : geti xs m = some x ∧ m ≠ n := by
  obtain ⟨k, rfl, h2⟩ := geti_nth' h
  unfold seti at h2
  split at h2
  · rename_i j
    by_cases hj : k = j
    · subst hj
      rw [nth_eq] at h2
      have : ∀ (xs : List (Option α)) (j : Nat), (setNth xs j none)[j]? = some (some x) → False := by
        intro xs
        induction xs with
        | nil => intro j h; simp [setNth] at h
        | cons y ys ih => intro j h; cases j with
          | zero => simp [setNth] at h
          | succ j => exact ih j (by simpa [setNth] using h)
      exact (this _ _ h2).elim
    · have : ∀ (xs : List (Option α)) (j k : Nat), k ≠ j → nth (setNth xs j none) k = nth xs k := by
        intro xs
        induction xs with
        | nil => intro j k _; rfl
        | cons y ys ih => intro j k h; cases j with
          | zero => cases k with
            | zero => exact absurd rfl h
            | succ k => rfl
          | succ j => cases k with
            | zero => rfl
            | succ k => exact ih j k (fun e => h (by rw [e]))
      rw [this _ _ _ hj] at h2
      refine ⟨nth_geti' h2, fun e => hj ?_⟩
      have : ((k + 1 : Nat) : Int) = ((j + 1 : Nat) : Int) := e
      omega
  · rename_i hn
    refine ⟨nth_geti' h2, fun e => hn k e.symm⟩
theorem seti_get_of {α : Type} {xs : List (Option α)} {n m : Int} {x : α} (h : geti xs m = some x) (hne : m ≠ n) : geti (seti xs n none) m = some x := by
  obtain ⟨k, rfl, h2⟩ := geti_nth' h
  refine nth_geti' ?_
  unfold seti
  split
  · rename_i j
    have hj : k ≠ j := fun e => hne (by rw [e]; rfl)
    have : ∀ (xs : List (Option α)) (j k : Nat), k ≠ j → nth (setNth xs j none) k = nth xs k := by
      intro xs
      induction xs with
      | nil => intro j k _; rfl
      | cons y ys ih => intro j k h; cases j with
        | zero => cases k with
          | zero => exact absurd rfl h
          | succ k => rfl
        | succ j => cases k with
          | zero => rfl
          | succ k => exact ih j k (fun e => h (by rw [e]))
    rw [this _ _ _ hj]; exact h2
  · exact h2
theorem TabOk.unbind {M : Tab} {m : Int} (ok : TabOk M) : TabOk (M.unbind m).1 := by
  unfold Tab.unbind
  split
  · exact ok
  · split
    · exact ok
    · rename_i h0
      split
      · exact ok
      · obtain ⟨x, hx⟩ := ok.root
        refine ⟨⟨x, seti_get_of hx (by omega)⟩, fun k y hy hk => ?_⟩
        exact ok.below k y (seti_get hy).1 hk
theorem bind_len {M : Tab} {p : Plc} {node : Int} : (M.bind p node).1.l.length ≤ M.l.length + 1 := by
  unfold Tab.bind
  split
  · simp
  · split
    · simp
    · split
      · simp
      · simp
theorem unbind_len {M : Tab} {m : Int} : (M.unbind m).1.l.length = M.l.length := by
  unfold Tab.unbind
  split
  · rfl
  · split
    · rfl
    · split
      · rfl
      · exact seti_len _ _ _
end Go.Sl
