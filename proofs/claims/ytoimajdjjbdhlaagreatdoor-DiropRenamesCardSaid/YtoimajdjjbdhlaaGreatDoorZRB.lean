/- Texts that are joined (R1 R2 R3 R4 R5 R6 M0 P0 G0 G1 G2 G5 T1 T2 P1 P2 R8 M1 G3). Conditions: none beyond those that each theorem states. -/
import Derived.Test.YtoimajdjjbdhlaaGreatDoorZRA
import Derived.Deep.AppendSrc
import Derived.Sort.Row
import Derived.Sort.Grow
set_option linter.unusedSectionVars false
set_option linter.unusedSimpArgs false
set_option linter.unusedVariables false
namespace Go.Sl
variable [Ghost]
open Go
structure KeyK (κ : Type) [DecidableEq κ] where
  kd : TypeDesc
  enc : κ → Value
  same : ∀ a b, Instr.sameNow kd (enc a) (enc b) = some (decide (a = b))
theorem bs_inj {a b : List UInt8} (h : bs a = bs b) : a = b := by
  have := congrArg (fun x : ByteArray => x.data.toList) h
  simpa [bs_toList] using this
theorem bytes_beq' (a b : List UInt8) : (bs a == bs b) = decide (a = b) := by
  cases h : (bs a == bs b) with
  | true => have := (MapKept.bytes_beq _ _).1 h; simp [bs_inj this]
  | false =>
    have : a ≠ b := fun e => by
      subst e
      have := (MapKept.bytes_beq (bs a) (bs a)).2 rfl
      rw [h] at this; cases this
    simp [this]
def kInt : KeyK Int := ⟨.int .i64, fun n => .int .i64 n, fun a b => by
  show (if IntKind.i64 = IntKind.i64 then some (a == b) else none) = _
  rw [if_pos rfl]; congr 1⟩
def kStr : KeyK (List UInt8) := ⟨.string, fun s => .string (bs s), fun a b => by
  show some (bs a == bs b) = _
  rw [bytes_beq']⟩
variable {κ : Type} [DecidableEq κ]
def lk (a : κ) : List (κ × Value) → Option Value
  | [] => none
  | (b, v) :: r => if a = b then some v else lk a r
def putK (a : κ) (v : Value) : List (κ × Value) → List (κ × Value)
  | [] => [(a, v)]
  | (b, u) :: r => if a = b then (a, v) :: r else (b, u) :: putK a v r
def delK (a : κ) : List (κ × Value) → List (κ × Value)
  | [] => []
  | (b, u) :: r => if a = b then r else (b, u) :: delK a r
def EntsOf (K : KeyK κ) (es : List MapEntry) (kvs : List (κ × Value)) : Prop := es.map (fun e => (e.key, e.val)) = kvs.map fun p => (K.enc p.1, p.2)
def MapOf (K : KeyK κ) (es : Array MapEntry) (clk : Nat) (kvs : List (κ × Value)) : Prop :=
  ∃ kvs', kvs'.Perm kvs ∧ EntsOf K es.toList kvs' ∧ (kvs.map Prod.fst).Nodup ∧ (∀ e ∈ es.toList, e.born < clk) ∧ (es.toList.map (·.born)).Nodup
theorem lk_perm {a : κ} {x y : List (κ × Value)} (hp : x.Perm y) (hn : (x.map Prod.fst).Nodup) : lk a x = lk a y := by
  induction hp with
  | nil => rfl
  | cons p _ ih =>
    simp only [List.map_cons, List.nodup_cons] at hn
    simp only [lk, ih hn.2]
  | swap p q r =>
    simp only [List.map_cons, List.nodup_cons, List.mem_cons, not_or] at hn
    simp only [lk]
    by_cases h1 : a = q.1
    · by_cases h2 : a = p.1
      · exact absurd (h1.symm.trans h2) hn.1.1
      · rw [if_pos h1, if_neg h2, if_pos h1]
    · by_cases h2 : a = p.1
      · rw [if_neg h1, if_pos h2, if_pos h2]
      · rw [if_neg h1, if_neg h2, if_neg h2, if_neg h1]
  | trans h1 _ ih1 ih2 => exact (ih1 hn).trans (ih2 ((h1.map _).nodup_iff.1 hn))
theorem ents_find {K : KeyK κ} {a : κ} : ∀ {es : List MapEntry} {kvs : List (κ × Value)} (i : Nat), EntsOf K es kvs → ∃ fr, Instr.findNow K.kd (K.enc a) es i = some fr ∧ fr.map (·.2) = lk a kvs ∧
    (match fr with
      | none => a ∉ kvs.map Prod.fst
      | some (j, _) => ∃ x y u, kvs = x ++ (a, u) :: y ∧ j = i + x.length ∧ a ∉ x.map Prod.fst)
  | [], [], i, _ => ⟨none, rfl, rfl, by simp⟩
  | [], _ :: _, i, h => by simp [EntsOf] at h
  | _ :: _, [], i, h => by simp [EntsOf] at h
  | e :: es, (b, u) :: kvs, i, h => by
    simp only [EntsOf, List.map_cons, List.cons.injEq, Prod.mk.injEq] at h
    obtain ⟨⟨h1, h2⟩, h3⟩ := h
    unfold Instr.findNow
    rw [h1, K.same]
    by_cases hab : a = b
    · subst hab
      simp only [decide_true]
      exact ⟨_, rfl, by simp [lk, h2], [], kvs, u, rfl, by simp, by simp⟩
    · simp only [hab, decide_false]
      obtain ⟨fr, f1, f2, f3⟩ := ents_find (K := K) (a := a) (i + 1) (show EntsOf K es kvs from h3)
      refine ⟨fr, f1, by simp [lk, hab, f2], ?_⟩
      cases fr with
      | none => simp only at f3 ⊢; simp only [List.map_cons, List.mem_cons, not_or]; exact ⟨hab, f3⟩
      | some q =>
        obtain ⟨j, w⟩ := q
        obtain ⟨x, y, u', hx, hj, hnx⟩ := f3
        refine ⟨(b, u) :: x, y, u', by rw [hx]; rfl, by simp only [List.length_cons]; omega, ?_⟩
        simp only [List.map_cons, List.mem_cons, not_or]; exact ⟨hab, hnx⟩
theorem MapOf.perm {K : KeyK κ} {es : Array MapEntry} {clk : Nat} {x y : List (κ × Value)} (h : MapOf K es clk x) (hp : x.Perm y) : MapOf K es clk y := by
  obtain ⟨k, h1, h2, h3, h4⟩ := h
  exact ⟨k, h1.trans hp, h2, (hp.map _).nodup_iff.1 h3, h4⟩
theorem MapOf.find {K : KeyK κ} {es : Array MapEntry} {clk : Nat} {kvs : List (κ × Value)} (h : MapOf K es clk kvs) (a : κ) : ∃ fr, Instr.findNow K.kd (K.enc a) es.toList 0 = some fr ∧ fr.map (·.2) = lk a kvs := by
  obtain ⟨k, hp, he, hn, -, -⟩ := h
  obtain ⟨fr, h1, h2, -⟩ := ents_find (a := a) 0 he
  exact ⟨fr, h1, by rw [h2, lk_perm hp ((hp.map _).nodup_iff.2 hn)]⟩
theorem MapOf.size {K : KeyK κ} {es : Array MapEntry} {clk : Nat} {kvs : List (κ × Value)} (h : MapOf K es clk kvs) : es.size = kvs.length := by
  obtain ⟨k, hp, he, -⟩ := h
  have := congrArg List.length he
  simpa [hp.length_eq] using this
theorem mapOf_empty (K : KeyK κ) : MapOf K #[] 0 [] := ⟨[], .refl _, rfl, by simp, by simp, by simp⟩
theorem putK_fst (a : κ) (v : Value) : ∀ kvs : List (κ × Value), (putK a v kvs).map Prod.fst = if a ∈ kvs.map Prod.fst then kvs.map Prod.fst else kvs.map Prod.fst ++ [a]
  | [] => by simp [putK]
  | (b, u) :: r => by
    unfold putK
    by_cases h : a = b
    · subst h; simp
    · rw [if_neg h]
      simp only [List.map_cons, putK_fst a v r, List.mem_cons, h, false_or]
      split <;> rfl
theorem putK_nodup {a : κ} {v : Value} {kvs : List (κ × Value)} (h : (kvs.map Prod.fst).Nodup) : ((putK a v kvs).map Prod.fst).Nodup := by
  rw [putK_fst]
  split
  · exact h
  · rename_i hn
    rw [List.nodup_append]
    exact ⟨h, by simp, fun x hx y hy e => by simp at hy; subst hy; subst e; exact hn hx⟩
theorem putK_of_split {a : κ} {v u : Value} : ∀ {x y : List (κ × Value)}, a ∉ x.map Prod.fst → putK a v (x ++ (a, u) :: y) = x ++ (a, v) :: y
  | [], y, _ => by simp [putK]
  | (b, w) :: x, y, h => by
    simp only [List.map_cons, List.mem_cons, not_or] at h
    simp [putK, h.1, putK_of_split h.2]
theorem putK_of_not {a : κ} {v : Value} : ∀ {x : List (κ × Value)}, a ∉ x.map Prod.fst → putK a v x = x ++ [(a, v)]
  | [], _ => rfl
  | (b, w) :: x, h => by
    simp only [List.map_cons, List.mem_cons, not_or] at h
    simp [putK, h.1, putK_of_not h.2]
theorem putK_perm {a : κ} {v : Value} {x y : List (κ × Value)} (hp : x.Perm y) (hn : (x.map Prod.fst).Nodup) : (putK a v x).Perm (putK a v y) := by
  induction hp with
  | nil => exact .refl _
  | cons p _ ih =>
    simp only [List.map_cons, List.nodup_cons] at hn
    obtain ⟨b, w⟩ := p
    unfold putK
    by_cases h : a = b
    · rw [if_pos h, if_pos h]; exact List.Perm.cons _ (by assumption)
    · rw [if_neg h, if_neg h]; exact (ih hn.2).cons _
  | swap p q r =>
    simp only [List.map_cons, List.nodup_cons, List.mem_cons, not_or] at hn
    obtain ⟨b, w⟩ := p; obtain ⟨c, z⟩ := q
    simp only [putK]
    by_cases h1 : a = c
    · by_cases h2 : a = b
      · exact absurd (h1.symm.trans h2) hn.1.1
      · rw [if_pos h1, if_neg h2]; subst h1; simp; exact .swap _ _ _
    · by_cases h2 : a = b
      · rw [if_neg h1, if_pos h2]; subst h2; simp; exact .swap _ _ _
      · rw [if_neg h1, if_neg h2]; simp [h1, h2]; exact .swap _ _ _
  | trans h1 _ ih1 ih2 => exact (ih1 hn).trans (ih2 ((h1.map _).nodup_iff.1 hn))
theorem delK_of_split {a : κ} {u : Value} : ∀ {x y : List (κ × Value)}, a ∉ x.map Prod.fst → delK a (x ++ (a, u) :: y) = x ++ y
  | [], y, _ => by simp [delK]
  | (b, w) :: x, y, h => by
    simp only [List.map_cons, List.mem_cons, not_or] at h
    simp [delK, h.1, delK_of_split h.2]
theorem delK_of_not {a : κ} : ∀ {x : List (κ × Value)}, a ∉ x.map Prod.fst → delK a x = x
  | [], _ => rfl
  | (b, w) :: x, h => by
    simp only [List.map_cons, List.mem_cons, not_or] at h
    simp [delK, h.1, delK_of_not h.2]
theorem delK_sub (a : κ) : ∀ kvs : List (κ × Value), (delK a kvs).Sublist kvs
  | [] => .refl _
  | (b, u) :: r => by
    unfold delK
    split
    · exact List.sublist_cons_self _ _
    · exact (delK_sub a r).cons_cons _
theorem delK_perm {a : κ} {x y : List (κ × Value)} (hp : x.Perm y) (hn : (x.map Prod.fst).Nodup) : (delK a x).Perm (delK a y) := by
  induction hp with
  | nil => exact .refl _
  | cons p _ ih =>
    simp only [List.map_cons, List.nodup_cons] at hn
    obtain ⟨b, w⟩ := p
    unfold delK
    by_cases h : a = b
    · rw [if_pos h, if_pos h]; assumption
    · rw [if_neg h, if_neg h]; exact (ih hn.2).cons _
  | swap p q r =>
    simp only [List.map_cons, List.nodup_cons, List.mem_cons, not_or] at hn
    obtain ⟨b, w⟩ := p; obtain ⟨c, z⟩ := q
    simp only [delK]
    by_cases h1 : a = c
    · by_cases h2 : a = b
      · exact absurd (h1.symm.trans h2) hn.1.1
      · rw [if_pos h1, if_neg h2]; subst h1; simp
    · by_cases h2 : a = b
      · rw [if_neg h1, if_pos h2]; subst h2; simp
      · rw [if_neg h1, if_neg h2]; simp [h1, h2]; exact .swap _ _ _
  | trans h1 _ ih1 ih2 => exact (ih1 hn).trans (ih2 ((h1.map _).nodup_iff.1 hn))
theorem MapOf.set {K : KeyK κ} {es : Array MapEntry} {clk : Nat} {kvs : List (κ × Value)} (h : MapOf K es clk kvs) (a : κ) (v : Value) :
    ∃ fr es' clk', Instr.findNow K.kd (K.enc a) es.toList 0 = some fr ∧ mset es clk (K.enc a) v fr = .map es' clk' ∧ MapOf K es' clk' (putK a v kvs) := by
  obtain ⟨k, hp, he, hn, hb, hbn⟩ := h
  have hkn := (hp.map Prod.fst).nodup_iff.2 hn
  obtain ⟨fr, h1, -, h3⟩ := ents_find (a := a) 0 he
  cases fr with
  | none =>
    refine ⟨none, _, _, h1, rfl, putK a v k, putK_perm hp hkn, ?_, putK_nodup hn, ?_, ?_⟩
    · rw [putK_of_not h3]
      unfold EntsOf at *
      simp [he]
    · intro e hm
      simp only [Array.toList_push, List.mem_append, List.mem_singleton] at hm
      rcases hm with hm | rfl
      · have := hb e hm; omega
      · simp
    · simp only [Array.toList_push, List.map_append, List.map_cons, List.map_nil]
      rw [List.nodup_append]
      refine ⟨hbn, by simp, fun x hx y hy e => ?_⟩
      simp at hy
      obtain ⟨e', hm, rfl⟩ := List.mem_map.1 hx
      have := hb e' hm; omega
  | some q =>
    obtain ⟨i, w⟩ := q
    obtain ⟨x, y, u, hx, hi, hnx⟩ := h3
    have hi' : i = x.length := by omega
    subst hi'
    refine ⟨some (x.length, w), _, _, h1, rfl, putK a v k, putK_perm hp hkn, ?_, putK_nodup hn, ?_, ?_⟩
    · rw [hx, putK_of_split hnx]
      unfold EntsOf at *
      rw [Array.toList_modify]
      rw [hx] at he
      have hl : ∀ (es : List MapEntry) (x : List (κ × Value)), es.map (fun e => (e.key, e.val)) = (x ++ (a, u) :: y).map (fun p => (K.enc p.1, p.2)) →
          (es.modify x.length fun e => { e with key := K.enc a, val := v }).map (fun e => (e.key, e.val)) = (x ++ (a, v) :: y).map (fun p => (K.enc p.1, p.2)) := by
        intro es x
        induction x generalizing es with
        | nil =>
          intro h
          cases es with
          | nil => simp at h
          | cons e es => simp at h ⊢; exact h.2
        | cons p x ih =>
          intro h
          cases es with
          | nil => simp at h
          | cons e es =>
            simp only [List.cons_append, List.map_cons, List.cons.injEq] at h
            simp only [List.length_cons, List.modify_succ_cons, List.map_cons, List.cons_append, h.1, ih es h.2]
      exact hl _ _ he
    · intro e hm
      rw [Array.toList_modify] at hm
      obtain ⟨j, hj, rfl⟩ := List.mem_iff_getElem.1 hm
      rw [List.getElem_modify]
      split
      · have hj2 : j < es.toList.length := by simpa using hj
        show es.toList[j].born < clk
        exact hb _ (List.getElem_mem _)
      · exact hb _ (List.getElem_mem _)
    · rw [Array.toList_modify]
      have : (es.toList.modify x.length fun e => { e with key := K.enc a, val := v }).map (·.born) = es.toList.map (·.born) := by
        apply List.ext_getElem (by simp)
        intro j h1 h2
        simp only [List.getElem_map, List.getElem_modify]
        split <;> rfl
      rw [this]; exact hbn
theorem MapOf.del {K : KeyK κ} {es : Array MapEntry} {clk : Nat} {kvs : List (κ × Value)} (h : MapOf K es clk kvs) (a : κ) :
    ∃ fr, Instr.findNow K.kd (K.enc a) es.toList 0 = some fr ∧ MapOf K (match fr with | some (i, _) => es.eraseIdxIfInBounds i | none => es) clk (delK a kvs) := by
  obtain ⟨k, hp, he, hn, hb, hbn⟩ := h
  have hkn := (hp.map Prod.fst).nodup_iff.2 hn
  obtain ⟨fr, h1, -, h3⟩ := ents_find (a := a) 0 he
  have hdn : ((delK a kvs).map Prod.fst).Nodup := ((delK_sub a kvs).map _).nodup hn
  refine ⟨fr, h1, ?_⟩
  cases fr with
  | none =>
    refine ⟨delK a k, delK_perm hp hkn, ?_, hdn, hb, hbn⟩
    rw [delK_of_not h3]; exact he
  | some q =>
    obtain ⟨i, w⟩ := q
    obtain ⟨x, y, u, hx, hi, hnx⟩ := h3
    have hi' : i = x.length := by omega
    subst hi'
    have hlt : x.length < es.size := by
      have := congrArg List.length he
      rw [hx] at this
      simp at this; omega
    have hel : (es.eraseIdxIfInBounds x.length).toList = es.toList.eraseIdx x.length := by
      unfold Array.eraseIdxIfInBounds; rw [dif_pos hlt]; simp
    refine ⟨delK a k, delK_perm hp hkn, ?_, hdn, ?_, ?_⟩
    · show EntsOf K (es.eraseIdxIfInBounds x.length).toList _
      rw [hel, hx, delK_of_split hnx]
      unfold EntsOf at *
      rw [hx] at he
      rw [List.eraseIdx_eq_take_drop_succ, List.map_append, List.map_take, List.map_drop, he]
      simp [List.drop_append]
    · intro e hm
      have hm : e ∈ (es.eraseIdxIfInBounds x.length).toList := hm
      rw [hel] at hm
      exact hb e (List.mem_of_mem_eraseIdx hm)
    · show ((es.eraseIdxIfInBounds x.length).toList.map (·.born)).Nodup
      rw [hel]
      exact ((List.eraseIdx_sublist _ _).map _).nodup hbn
variable {K : KeyK κ} {kvs : List (κ × Value)} {es : Array MapEntry} {clk r : Nat} {k : Value → SP} {l : St}
theorem r_look2 {a : κ} {z : Value} (hk : Knows l r (.map es clk)) (hm : MapOf K es clk kvs) (h : k (.tuple #[(lk a kvs).getD z, .bool (lk a kvs).isSome]) l) :
    slookup K.kd (some z) (.map (some r)) (K.enc a) true k l := by
  obtain ⟨fr, h1, h2⟩ := hm.find a
  refine ⟨es, clk, fr, z, hk, rfl, h1, ?_⟩
  rw [h2, if_pos rfl]
  have : fr.isSome = (lk a kvs).isSome := by rw [← h2]; cases fr <;> rfl
  rw [this]; exact h
theorem r_look1 {a : κ} {z : Value} (hk : Knows l r (.map es clk)) (hm : MapOf K es clk kvs) (h : k ((lk a kvs).getD z) l) :
    slookup K.kd (some z) (.map (some r)) (K.enc a) false k l := by
  obtain ⟨fr, h1, h2⟩ := hm.find a
  refine ⟨es, clk, fr, z, hk, rfl, h1, ?_⟩
  rw [h2]; exact h
theorem r_mapset {a : κ} {v : Value} {k : SP} (hk : Knows l r (.map es clk)) (hm : MapOf K es clk kvs) (h : ∀ es' clk', MapOf K es' clk' (putK a v kvs) → ∃ l', Change l r (.map es' clk') l' ∧ k l') :
    smapset K.kd (.map (some r)) (K.enc a) v k l := by
  obtain ⟨fr, es', clk', h1, h2, h3⟩ := hm.set a v
  obtain ⟨l', h4, h5⟩ := h es' clk' h3
  exact ⟨es, clk, fr, l', hk, h1, by rw [h2]; exact h4, h5⟩
theorem r_delete {P : Program} {a : κ} {mt kt ety ty : TypeId} {cs : Array Bool} (hu : P.underlying mt = some (.map kt ety)) (hd : P.underlying kt = some K.kd) (hkd : (∃ i, K.kd = .int i) ∨ K.kd = .string)
    (hk : Knows l r (.map es clk)) (hm : MapOf K es clk kvs) (h : ∀ es', MapOf K es' clk (delK a kvs) → ∃ l', Change l r (.map es' clk) l' ∧ k (.tuple #[]) l') :
    sbuiltin P .delete #[mt, kt] ty cs #[.map (some r), K.enc a] k l := by
  obtain ⟨fr, h1, h2⟩ := hm.del a
  obtain ⟨l', h4, h5⟩ := h _ h2
  show SUpon P (nv (Builtin.delete_ #[mt, kt] ty #[.map (some r), K.enc a])) k l
  refine SUpon.val fun F w hs => ?_
  have hb := (hk.frame F).heap hs
  refine ⟨_, _, l', ?_, (h4.frame F).sat hs, h5⟩
  unfold Builtin.delete_
  have hf := run_findKey (P := P) hd h1 w
  have hset : ∀ o, (setObj r o).run P w = .ok () { w with heap := w.heap.setIfInBounds r o } := fun o => run_setObj hb o
  cases fr with
  | none => simp [run_underlying hu, run_getMap hk hs, run_checkKey hd hkd, hf, hset]
  | some q => simp [run_underlying hu, run_getMap hk hs, run_checkKey hd hkd, hf, hset]
end Go.Sl
namespace Go.Sl
variable [Ghost]
open Go
variable {κ : Type} [DecidableEq κ]
def kvE (e : MapEntry) : Value × Value := (e.key, e.val)
def encK (K : KeyK κ) (p : κ × Value) : Value × Value := (K.enc p.1, p.2)
def IterAt (K : KeyK κ) (es : Array MapEntry) (dn rs : List (κ × Value)) (seen : Array Nat) : Prop :=
  ∃ done rest : List MapEntry, es.toList.Perm (done ++ rest) ∧ seen.toList = done.map (·.born) ∧ done.map kvE = dn.map (encK K) ∧ rest.map kvE = rs.map (encK K)
def LastAt (K : KeyK κ) (es : Array MapEntry) (a : κ) (v : Value) (seen : Array Nat) : Prop :=
  ∃ stamp e, seen.back? = some stamp ∧ es.find? (·.born == stamp) = some e ∧ e.key = K.enc a ∧ e.val = v
variable {K : KeyK κ} {kvs dn rs : List (κ × Value)} {es : Array MapEntry} {clk m it : Nat} {k : Value → SP} {l : St} {seen : Array Nat}
theorem r_rangeMap (hk : Knows l m (.map es clk)) (hm : MapOf K es clk kvs) (h : ∀ b rs, rs.Perm kvs → IterAt K es [] rs #[] → k (ptr b 0) (pt b (.mapIter (some m) clk #[] clk) :: l)) : srangeMap (.map (some m)) k l := by
  obtain ⟨kvs', hp, he, -⟩ := hm
  exact ⟨es, clk, hk, fun b => h b kvs' hp ⟨[], es.toList, by simp, rfl, rfl, he⟩⟩
theorem r_next (hk : Knows l m (.map es clk)) (hm : MapOf K es clk kvs) (hI : IterAt K es dn rs seen)
    (hend : rs = [] → k (.tuple #[.bool false]) (pt it (.mapIter (some m) clk seen clk) :: l))
    (hgo : ∀ a v r1 r2 seen', rs = r1 ++ (a, v) :: r2 → IterAt K es (dn ++ [(a, v)]) (r1 ++ r2) seen' → LastAt K es a v seen' → k (.tuple #[.bool true, K.enc a, v]) (pt it (.mapIter (some m) clk seen' clk) :: l)) :
    snext (ptr it 0) k (pt it (.mapIter (some m) clk seen clk) :: l) := by
  obtain ⟨-, -, -, -, hb, hbn⟩ := hm
  obtain ⟨done, rest, hp, hs, hd, hr⟩ := hI
  have hdn : ((done ++ rest).map (·.born)).Nodup := (hp.map _).nodup_iff.1 hbn
  have hseen : ∀ e ∈ es.toList, (!seen.contains e.born) = true ↔ e ∈ rest := by
    intro e he
    have hmem : e ∈ done ++ rest := (hp.mem_iff).1 he
    rw [List.map_append, List.nodup_append] at hdn
    simp only [Bool.not_eq_true', ← Bool.not_eq_true, Array.contains_iff_mem, ← Array.mem_toList_iff, hs]
    constructor
    · intro hn
      rcases List.mem_append.1 hmem with h | h
      · exact absurd (List.mem_map.2 ⟨e, h, rfl⟩) hn
      · exact h
    · intro hm2 hc
      exact hdn.2.2 _ hc _ (List.mem_map.2 ⟨e, hm2, rfl⟩) rfl
  have hleft : (es.filter fun e => !seen.contains e.born).toList.Perm rest := by
    rw [Array.toList_filter]
    have h1 : (es.toList.filter fun e => !seen.contains e.born).Perm ((done ++ rest).filter fun e => !seen.contains e.born) := hp.filter _
    refine h1.trans ?_
    rw [List.filter_append]
    have e1 : done.filter (fun e => !seen.contains e.born) = [] := by
      rw [List.filter_eq_nil_iff]
      intro e he hc
      have := (hseen e (hp.mem_iff.2 (List.mem_append_left _ he))).1 hc
      rw [List.map_append, List.nodup_append] at hdn
      exact hdn.2.2 _ (List.mem_map.2 ⟨e, he, rfl⟩) _ (List.mem_map.2 ⟨e, this, rfl⟩) rfl
    have e2 : rest.filter (fun e => !seen.contains e.born) = rest := by
      rw [List.filter_eq_self]
      intro e he
      exact (hseen e (hp.mem_iff.2 (List.mem_append_right _ he))).2 he
    rw [e1, e2]; exact .refl _
  have hcand : mapCands es clk seen = (if (es.filter fun e => !seen.contains e.born).isEmpty then #[none] else #[]) ++ (es.filter fun e => !seen.contains e.born).map some := by
    unfold mapCands
    have e1 : (es.filter fun e => !seen.contains e.born).filter (·.born < clk) = (es.filter fun e => !seen.contains e.born) := by
      apply Array.filter_eq_self.2
      intro e he
      have := hb e (by simpa using (Array.mem_filter.1 he).1)
      simpa using this
    have e2 : (es.filter fun e => !seen.contains e.born).filter (·.born ≥ clk) = #[] := by
      apply Array.filter_eq_empty_iff.2
      intro e he
      have := hb e (by simpa using (Array.mem_filter.1 he).1)
      simp; omega
    simp only [e1, e2, Array.append_empty]
  have hno : (!seen.isEmpty && !es.isEmpty && es.all (·.born ≥ clk)) = false := by
    cases he : es.isEmpty with
    | true => simp
    | false =>
      have : es.all (·.born ≥ clk) = false := by
        have hne : es.toList ≠ [] := by
          intro h0; rw [Array.isEmpty_eq_false_iff] at he; exact he (Array.toList_eq_nil_iff.1 h0)
        obtain ⟨e, es', hes⟩ := List.exists_cons_of_ne_nil hne
        rw [Array.all_eq_false]
        have : e ∈ es.toList := by rw [hes]; simp
        obtain ⟨i, hi, hie⟩ := List.mem_iff_getElem.1 this
        refine ⟨i, by simpa using hi, ?_⟩
        have := hb e this
        have h2 : es[i]'(by simpa using hi) = e := by simpa using hie
        rw [h2]; simp; omega
      simp [this]
  have hkn : Knows (pt it (.mapIter (some m) clk seen clk) :: l) m (.map es clk) := knows_there _ hk
  refine .inr ⟨m, clk, seen, clk, es, clk, knows_pt _ _ _, hkn, hno, ?_, ?_, ?_⟩
  · rw [hcand]
    cases he : (es.filter fun e => !seen.contains e.born).isEmpty with
    | true => simp
    | false =>
      have : (es.filter fun e => !seen.contains e.born).size ≠ 0 := by
        intro h0; rw [Array.isEmpty_eq_false_iff] at he; exact he (Array.eq_empty_of_size_eq_zero h0)
      simp only [Bool.false_eq_true, if_false, Array.empty_append, Array.size_map]; exact this
  · intro hn
    refine hend ?_
    rw [hcand] at hn
    cases he : (es.filter fun e => !seen.contains e.born).isEmpty with
    | false => rw [he] at hn; simp at hn
    | true =>
      have h0 : (es.filter fun e => !seen.contains e.born).toList = [] := by rw [Array.isEmpty_iff] at he; rw [he]
      rw [h0] at hleft
      have := hleft.symm.eq_nil
      subst this
      simpa using hr.symm
  · intro e he
    have hme : e ∈ rest := by
      rw [hcand] at he
      refine hleft.mem_iff.1 ?_
      rw [Array.mem_toList_iff]
      rcases Array.mem_append.1 he with h | h
      · split at h <;> simp at h
      · simpa using h
    obtain ⟨x, y, hxy⟩ := List.append_of_mem hme
    have hrs : ∃ a v r1 r2, rs = r1 ++ (a, v) :: r2 ∧ kvE e = encK K (a, v) ∧ x.map kvE = r1.map (encK K) ∧ y.map kvE = r2.map (encK K) := by
      rw [hxy, List.map_append, List.map_cons] at hr
      obtain ⟨r1, r2', h1, h2, h3⟩ := List.append_eq_map_iff.1 hr
      cases r2' with
      | nil => simp at h3
      | cons p r2 =>
        simp only [List.map_cons, List.cons.injEq] at h3
        exact ⟨p.1, p.2, r1, r2, h1, h3.1.symm, h2.symm, h3.2.symm⟩
    obtain ⟨a, v, r1, r2, hrs, hkv, hx, hy⟩ := hrs
    simp only [kvE, encK, Prod.mk.injEq] at hkv
    have hgo' := hgo a v r1 r2 (seen.push e.born) hrs
      ⟨done ++ [e], x ++ y, by
        rw [hxy] at hp
        refine hp.trans ?_
        simp only [List.append_assoc, List.cons_append, List.nil_append]
        exact List.Perm.append_left _ List.perm_middle, by simp [hs], by simp [hd, kvE, encK, hkv], by simp [hx, hy]⟩
      ⟨e.born, e, by simp, by
        have hee : e ∈ es.toList := hp.mem_iff.2 (List.mem_append_right _ hme)
        rw [← Array.find?_toList]
        obtain ⟨p, q, hpq⟩ := List.append_of_mem hee
        rw [hpq] at hbn ⊢
        rw [List.find?_append]
        have : p.find? (fun x => x.born == e.born) = none := by
          rw [List.find?_eq_none]
          intro z hz hc
          rw [List.map_append, List.nodup_append] at hbn
          exact hbn.2.2 _ (List.mem_map.2 ⟨z, hz, rfl⟩) e.born (by simp) (by simpa using hc)
        rw [this]; simp, hkv.1, hkv.2⟩
    refine ⟨_, change_pt it _ _ l, ?_⟩
    rw [← hkv.1, ← hkv.2] at hgo'
    exact hgo'
theorem r_entry {a : κ} {v : Value} (hk : Knows l m (.map es clk)) (hL : LastAt K es a v seen) (h : k (.tuple #[K.enc a, v]) (pt it (.mapIter (some m) clk seen clk) :: l)) :
    sentry (ptr it 0) k (pt it (.mapIter (some m) clk seen clk) :: l) := by
  obtain ⟨stamp, e, h1, h2, h3, h4⟩ := hL
  exact ⟨m, clk, seen, clk, es, stamp, e, knows_pt _ _ _, knows_there _ hk, h1, h2, by rw [h3, h4]; exact h⟩
end Go.Sl
namespace Go.Sl
variable [Ghost]
open Go
def SlC (sz : Nat) (v : Value) (n : Nat) (xs : List Value) (c : Chunk) : Prop :=
  xs.length = n * sz ∧ (∀ u ∈ xs, u.oneCell' = true) ∧ ((v = .slice none 0 0 ∧ n = 0 ∧ c = []) ∨
    ∃ b cap zs ty, v = .slice (some ⟨b, 0, none⟩) n cap ∧ n ≤ cap ∧ c = [(b, .cells (xs ++ zs).toArray ty)] ∧ (xs ++ zs).length = cap * sz)
theorem slC_nil (sz : Nat) : SlC sz (.slice none 0 0) 0 [] [] := ⟨by simp, by simp, .inl ⟨rfl, rfl, rfl⟩⟩
def SrcAt (P : Program) (l : St) (sz : Nat) (tx : TypeId) (x : Value) (m : Nat) (news : List Value) : Prop := ∀ F w, Sat (l ++ F) w → Src P sz tx x m news w
theorem srcAt_row {P : Program} {l : St} {sz b o m c : Nat} {tx e' ty : TypeId} {fz : Nat × Nat} {cs : Array Value} {news : List Value} (ht : P.underlying tx = some (.slice e')) (hk : Knows l b (.cells cs ty fz)) (hl : news.length = m * sz)
    (hn : takeAt cs.toList o (m * sz) = some news) (h1 : ∀ u ∈ news, u.oneCell' = true) : SrcAt P l sz tx (.slice (some ⟨b, o, none⟩) m c) m news := by
  intro F w hs
  refine Src.ofSlice w ht ⟨b, o, none⟩ m c news hl (fun j u hj => ?_) h1
  rw [add_off, cell_of_knows hk hs]
  obtain ⟨h2, h3⟩ := takeAt_eq _ _ _ _ hn
  have hjl : j < news.length := (List.getElem?_eq_some_iff.1 hj).1
  rw [← Array.getElem?_toList]
  rw [← h2, List.getElem?_take] at hj
  rw [if_pos (by omega), List.getElem?_drop] at hj
  exact hj
theorem r_append {P : Program} {t tx e ty : TypeId} {i : TypeInfo} {z : Value} {sz n m : Nat} {v x : Value} {xs news : List Value} {c : Chunk} {cs : Array Bool} {k : Value → SP} {l r : St}
    (ht : P.underlying t = some (.slice e)) (hi : P.info? e = some i) (hz : i.zero = some z) (hsz : i.size = sz) (hzs : z.cells.size = sz)
    (hs : SlC sz v n xs c) (htk : Take l c r) (hx : SrcAt P l sz tx x m news) (hb : (n + m) * i.bytes ≤ 140737488355328) (hn : n + m ≤ 2 ^ 60)
    (h : ∀ v' c', SlC sz v' (n + m) (xs ++ news) c' → k v' (c' :: r)) : sbuiltin P .append #[t, tx] ty cs #[v, x] k l := by
  show SUpon P (nv (Builtin.append_ #[t, tx] ty #[v, x])) k l
  refine SUpon.val fun F w hw => ?_
  have hsrc := hx F w hw
  obtain ⟨hlen, hone, hv⟩ := hs
  have hnl : news.length = m * sz := hsrc.newsLen
  subst hsz
  have hlr : Sat (r ++ F) w := by
    have : Sat ((c :: r) ++ F) w := Sat.swap (by rw [List.flatten_cons]; exact htk) hw
    exact this.right (l := [c])
  have grow : ∀ (base : Option Addr) (cap : Nat), v = .slice base n cap → (Builtin.firstCells i.size n (.slice base n cap)).run P w.drew = .ok xs.toArray w.drew → cap < n + m →
      ∃ v' w' l', (Builtin.append_ #[t, tx] ty #[v, x]).run P w = .ok v' w' ∧ Sat (l' ++ F) w' ∧ k v' l' := by
    intro base cap hve hold hg
    have h2 := run_append_grow_src (P := P) w t tx ty e i z ht hi hz base n cap xs hold x m news hsrc hg (by omega) (growslice_fits hg hb)
    rw [hve, h2]
    have hge := grownCap_ge w (n + m) cap e
    refine ⟨_, _, _, rfl, ?_, h _ [(w.heap.size, .cells ((xs ++ news).toArray ++ Builtin.zeroCells z.cells (grownCap w (n + m) cap e - (n + m))) e)] ⟨?_, ?_, .inr ⟨w.heap.size, _, (Builtin.zeroCells z.cells (grownCap w (n + m) cap e - (n + m))).toList, e, rfl, hge, ?_, ?_⟩⟩⟩
    · have hd : Sat (r ++ F) w.drew := sat_heap hlr rfl
      have h3 := sat_alloc hd (.cells ((xs ++ news).toArray ++ Builtin.zeroCells z.cells (grownCap w (n + m) cap e - (n + m))) e)
      exact h3
    · rw [List.length_append, hlen, hnl, Nat.add_mul]
    · intro u hu
      rcases List.mem_append.1 hu with hu | hu
      · exact hone u hu
      · exact hsrc.one u hu
    · congr 2
      congr 1
      apply Array.ext'
      simp
    · rw [List.length_append, List.length_append, hlen, hnl]
      unfold Builtin.zeroCells
      simp only [Array.toList_map, List.length_map, Array.length_toList, Array.size_range, hzs]
      rw [← Nat.add_mul, ← Nat.add_mul]
      congr 1; omega
  rcases hv with ⟨rfl, rfl, rfl⟩ | ⟨b, cap, zs, ty', rfl, hcap, rfl, hall⟩
  · by_cases hm : m = 0
    · subst hm
      have hnn : news = [] := List.eq_nil_of_length_eq_zero (by omega)
      have hx0 : xs = [] := List.eq_nil_of_length_eq_zero (by omega)
      subst hnn; subst hx0
      refine ⟨.slice none 0 0, w, [] :: r, ?_, ?_, h _ [] (by simpa using slC_nil i.size)⟩
      · rcases hsrc.kind with ⟨e', hk⟩ | hk <;> simp [Builtin.append_, run_underlying ht, run_underlying hk, sizeOf, typeInfo, hi, hsrc.len, hsrc.cells]
      · exact Sat.perm (by simp) hlr
    · refine grow none 0 rfl ?_ (by omega)
      have hx0 : xs = [] := List.eq_nil_of_length_eq_zero (by omega)
      subst hx0
      exact run_firstCells_none w.drew i.size 0 0 0
  · have hbk : Knows l b (.cells (xs ++ zs).toArray ty') := by
      unfold Knows; exact (htk.mem_iff).2 (by simp)
    by_cases hroom : n + m ≤ cap
    · have hbw := (hbk.frame F).heap hw
      have hle : n * i.size + news.length ≤ (xs ++ zs).toArray.size := by
        simp only [List.size_toArray]; rw [hall, hnl, ← Nat.add_mul]; exact Nat.mul_le_mul_right _ hroom
      have hst := run_storeCells (P := P) (b := b) (o := n * i.size) news 0 (xs ++ zs).toArray w hbw (by simpa using hle) (by intro j _ _; simp) hsrc.one
      have hset : setRow (xs ++ zs).toArray (n * i.size) news = (xs ++ news ++ zs.drop news.length).toArray := by
        apply Array.ext'
        rw [setRow_toList _ _ _ hle]
        simp only [← hlen]
        simp [List.drop_append, Nat.add_sub_cancel_left]
      rw [Nat.add_zero, hset] at hst
      refine ⟨.slice (some ⟨b, 0, none⟩) (n + m) cap, { w with heap := w.heap.setIfInBounds b (.cells (xs ++ news ++ zs.drop news.length).toArray ty' (0, 0)) }, [(b, .cells (xs ++ news ++ zs.drop news.length).toArray ty')] :: r, ?_, ?_,
        h _ _ ⟨by rw [List.length_append, hlen, hnl, Nat.add_mul], ?_, .inr ⟨b, cap, zs.drop news.length, ty', rfl, hroom, rfl, ?_⟩⟩⟩
      · rcases hsrc.kind with ⟨e', hk⟩ | hk <;> simp [Builtin.append_, run_underlying ht, run_underlying hk, sizeOf, typeInfo, hi, hsrc.len, hroom, hsrc.cells, Addr.add_lit, hst]
      · have hc : Change l b (.cells (xs ++ news ++ zs.drop news.length).toArray ty') ([(b, .cells (xs ++ news ++ zs.drop news.length).toArray ty')] :: r) :=
          ⟨[], r.flatten, _, htk, by simp⟩
        exact (hc.frame F).sat hw
      · intro u hu
        rcases List.mem_append.1 hu with hu | hu
        · exact hone u hu
        · exact hsrc.one u hu
      · simp only [List.size_toArray, List.length_append, List.length_drop] at hle hall ⊢
        omega
    · refine grow (some ⟨b, 0, none⟩) cap rfl ?_ (by omega)
      refine run_firstCells_some w.drew i.size n ⟨b, 0, none⟩ n cap xs hlen (fun j u hj => ?_)
      have hd : Sat (l ++ F) w.drew := sat_heap hw rfl
      rw [add_off, cell_of_knows hbk hd]
      have hjl : j < xs.length := (List.getElem?_eq_some_iff.1 hj).1
      simp only [Nat.zero_add]
      rw [← Array.getElem?_toList, List.getElem?_append_left hjl]; exact hj
def fillS (sz : Nat) (cs : List Value) : List (Nat × Value) → Option (List Value)
  | [] => some cs
  | (i, v) :: rest => match Nat.beq (cellsL v).length sz with
    | true => match setAt cs (i * sz) (cellsL v) with
      | some ds => fillS sz ds rest
      | none => none
    | false => none
theorem fillS_ok {sz : Nat} : ∀ (ps : List (Nat × Value)) (cs : Array Value) (ds : List Value), fillS sz cs.toList ps = some ds → Instr.fill (fun j => some (j * sz, sz)) cs ps = some ds.toArray
  | [], cs, ds, h => by simp [fillS] at h; simp [Instr.fill, ← h]
  | (i, v) :: rest, cs, ds, h => by
    unfold fillS at h
    unfold Instr.fill
    cases hb : Nat.beq (cellsL v).length sz with
    | false => rw [hb] at h; cases h
    | true =>
      rw [hb] at h
      simp only at h
      cases hs : setAt cs.toList (i * sz) (cellsL v) with
      | none => rw [hs] at h; cases h
      | some es =>
        rw [hs] at h
        simp only at h
        have hsz : (cellsL v).length = sz := Nat.eq_of_beq_eq_true hb
        obtain ⟨h1, h2⟩ := setAt_row _ _ _ _ hs
        have hvs : v.cells.size = sz := by rw [← Array.length_toList, cellsL_eq, hsz]
        have hle : i * sz + v.cells.size ≤ cs.size := by rw [hvs]; rw [hsz] at h1; simpa using h1
        simp only
        rw [if_neg (by simp [hvs]; rw [hvs] at hle; omega)]
        have e1 : (v.cells.zipIdx.foldl (fun cs (p : Value × Nat) => cs.setIfInBounds (i * sz + p.2) p.1) cs) = es.toArray := by
          rw [← Array.foldl_toList, Array.toList_zipIdx, fold_set, cellsL_eq]
          apply Array.ext'
          rw [Nat.add_zero, setRow_toList _ _ _ (by rw [hvs] at hle; rw [hsz]; exact hle), h2]
        rw [e1]
        exact fillS_ok rest es.toArray ds (by simpa using h)
def rowZ (z : Value) : Nat → List Value
  | 0 => []
  | n + 1 => cellsL z ++ rowZ z n
theorem rowZ_len (z : Value) : ∀ n, (rowZ z n).length = n * (cellsL z).length
  | 0 => by simp [rowZ]
  | n + 1 => by simp [rowZ, rowZ_len z n, Nat.succ_mul]; omega
theorem rowZ_get (z : Value) : ∀ (n j : Nat), j < n * (cellsL z).length → (rowZ z n)[j]? = (cellsL z)[j % (cellsL z).length]?
  | 0, j, h => by simp at h
  | n + 1, j, h => by
    unfold rowZ
    by_cases hj : j < (cellsL z).length
    · rw [List.getElem?_append_left hj, Nat.mod_eq_of_lt hj]
    · rw [List.getElem?_append_right (by omega), rowZ_get z n _ (by rw [Nat.succ_mul] at h; omega)]
      congr 1
      exact (Nat.mod_eq_sub_mod (by omega)).symm
theorem zrow_rowZ {z : Value} {n sz : Nat} (h : (cellsL z).length = sz) : (zrow z (n * sz)).toList = rowZ z n := by
  rw [zrow_any]
  have hsz : z.cells.size = sz := by rw [← Array.length_toList, cellsL_eq, h]
  apply List.ext_getElem?
  intro j
  by_cases hj : j < n * sz
  · have hs : 0 < sz := by
      cases sz with
      | zero => simp at hj
      | succ s => omega
    have hm : j % sz < z.cells.size := by rw [hsz]; exact Nat.mod_lt _ hs
    rw [rowZ_get z n j (by rw [h]; exact hj), h]
    simp only [Array.toList_map, List.getElem?_map, Array.getElem?_toList]
    rw [Array.getElem?_eq_getElem (by simpa using hj)]
    simp only [Array.getElem_range, Option.map_some, hsz]
    rw [getElem!_pos z.cells (j % sz) hm, ← cellsL_eq, Array.getElem?_toList, Array.getElem?_eq_getElem hm]
  · rw [List.getElem?_eq_none (by simp; omega), List.getElem?_eq_none (by rw [rowZ_len, h]; omega)]
theorem r_buildSl {e : TypeId} {sz len : Nat} {z : Value} {ps : Array (Nat × Value)} {ds : List Value} {k : Value → SP} {l : St} (hz : (cellsL z).length = sz) (hb : len * sz ≤ 2 ^ 24) (hf : fillS sz (rowZ z len) ps.toList = some ds)
    (h : ∀ b, k (.slice (some ⟨b, 0, none⟩) len len) (pt b (.cells ds.toArray e) :: l)) : sbuildSlR e sz z len ps k l :=
  ⟨ds.toArray, by omega, fillS_ok _ _ _ (by rw [zrow_rowZ hz]; exact hf), fun b => h b⟩
end Go.Sl
namespace Go.Sl
variable [Ghost]
open Go Go.Proofs Go.Sort
theorem sat_grow {l : St} {w : World} (h : Sat l w) (os : Array Obj) : Sat l (grow w os) := by
  refine ⟨⟨h.1.1, fun b o hm => ?_⟩, h.2⟩
  have := h.1.2 b o hm
  show (w.heap ++ os)[b]? = some o
  rw [Array.getElem?_append_left (Array.getElem?_eq_some_iff.1 this).1]; exact this
theorem putCells_zero {α : Type} [Inhabited α] (enc : α → Value) (d : List α) (zs : List Value) (xs : List Value) (hl : xs.length = d.length) : putCells enc 0 d.toArray (xs ++ zs).toArray = (d.map enc ++ zs).toArray := by
  unfold putCells
  apply Array.ext'
  simp only [Array.toList_mapIdx]
  apply List.ext_getElem?
  intro j
  simp only [List.getElem?_mapIdx, Nat.zero_le, true_and, Nat.zero_add, List.size_toArray, Nat.sub_zero]
  by_cases hj : j < d.length
  · have hx : j < xs.length := by omega
    rw [List.getElem?_append_left hx, List.getElem?_append_left (by simpa using hj), List.getElem?_eq_getElem hx]
    simp [hj]
  · rw [List.getElem?_append_right (by omega), List.getElem?_append_right (by simp; omega)]
    simp [hj, hl]
theorem sort_sl {α : Type} [Inhabited α] {enc : α → Value} {P : Program} {f : FuncId} {srt : List α → List α}
    (hC : ∀ blk cap (zs : List α) w, Holds enc w blk 0 zs.toArray → blk < w.heap.size → zs.length < 4611686018427387904 → Calls P f #[.slice (some ⟨blk, 0, none⟩) zs.length cap] w fun e w' => e = .returned (.tuple #[]) ∧ ∃ n os, w' = grow (putRow enc (Sort.ahead w n) blk 0 (srt zs).toArray) os)
    (hC0 : ∀ p cap w, Calls P f #[.slice p 0 cap] w fun e w' => e = .returned (.tuple #[]) ∧ w' = w) (hone : ∀ a, (enc a).oneCell' = true)
    {v : Value} {zs : List α} {c : Chunk} {k : Value → SP} {l r : St} (hlen : (srt zs).length = zs.length) (hs : SlC 1 v zs.length (zs.map enc) c) (htk : Take l c r) (hb : zs.length ≤ 2 ^ 40)
    (h : ∀ c', SlC 1 v zs.length ((srt zs).map enc) c' → k (.tuple #[]) (c' :: r)) : scall P f #[v] k l := by
  intro F w hw
  have hw' : Sat ((c :: r) ++ F) w := Sat.swap (by rw [List.flatten_cons]; exact htk) hw
  obtain ⟨-, h1, hv⟩ := hs
  have hone' : ∀ u ∈ (srt zs).map enc, u.oneCell' = true := fun u hu => by
    obtain ⟨a, -, rfl⟩ := List.mem_map.1 hu
    exact hone a
  rcases hv with ⟨rfl, hn, rfl⟩ | ⟨b, cap, ws, ty, rfl, hcap, rfl, hall⟩
  · have hz : zs = [] := List.eq_nil_of_length_eq_zero hn
    subst hz
    refine Calls.mono (hC0 none 0 w) ?_
    rintro e w' ⟨rfl, rfl⟩
    have hs0 : srt [] = [] := List.eq_nil_of_length_eq_zero (by simpa using hlen)
    exact ⟨_, rfl, [] :: r, hw', h [] (by rw [hs0]; exact slC_nil 1)⟩
  · have hbw : w.heap[b]? = some (.cells (zs.map enc ++ ws).toArray ty) := hw'.1.2 b _ (by simp)
    have hlt : b < w.heap.size := (Array.getElem?_eq_some_iff.1 hbw).1
    have hH : Holds enc w b 0 zs.toArray := by
      intro j hj
      have hj' : j < zs.length := by simpa using hj
      refine ⟨?_, by simp [World.frozen?, hbw]⟩
      simp only [World.cell?, hbw, Nat.zero_add]
      rw [← Array.getElem?_toList]
      simp only
      rw [List.getElem?_append_left (by simpa using hj'), List.getElem?_map, List.getElem?_eq_getElem hj']
      simp [hj']
    refine Calls.mono (hC b cap zs w hH hlt (by omega)) ?_
    rintro e w' ⟨rfl, n, os, rfl⟩
    refine ⟨_, rfl, [(b, .cells ((srt zs).map enc ++ ws).toArray ty)] :: r, ?_, h _ ⟨by simp [hlen], hone', .inr ⟨b, cap, ws, ty, rfl, hcap, rfl, by simpa [hlen] using hall⟩⟩⟩
    have hc : Change ([(b, .cells (zs.map enc ++ ws).toArray ty)] :: r) b (.cells ((srt zs).map enc ++ ws).toArray ty) ([(b, .cells ((srt zs).map enc ++ ws).toArray ty)] :: r) := change_pt b _ _ r
    have hs2 := (hc.frame F).sat hw'
    have hput : (putRow enc (Sort.ahead w n) b 0 (srt zs).toArray).heap = w.heap.setIfInBounds b (.cells ((srt zs).map enc ++ ws).toArray ty) := by
      show w.heap.modify b (onCells (putCells enc 0 (srt zs).toArray)) = _
      apply Array.ext_getElem?
      intro j
      rw [Array.getElem?_modify, Array.getElem?_setIfInBounds]
      by_cases hj : b = j
      · subst hj
        rw [if_pos rfl, if_pos rfl, if_pos hlt, hbw]
        simp only [Option.map_some, onCells]
        rw [putCells_zero enc (srt zs) ws (zs.map enc) (by simp [hlen])]
      · rw [if_neg hj, if_neg hj]
    exact sat_grow (sat_heap hs2 hput) os
end Go.Sl
namespace Go.Sl
variable [Ghost]
open Go
def IterV (P : Program) (gv : Value) (G : St) (A : List Value → Prop) : Prop :=
  IterC P gv G (List Value) (fun d xs => ∃ v rest, xs = #[v] ∧ A (d ++ v :: rest)) (fun d xs => d ++ xs.toList) [] A
theorem scallv_frame {P : Program} {y : Value} {args : Array Value} {k : Value → SP} {l m r : St} (hs : l.flatten.Perm (r ++ m).flatten) (h : scallv P y args (fun v m' => k v (r ++ m')) m) : scallv P y args k l := by
  intro F w hw
  have hw' : Sat (m ++ (r ++ F)) w := Sat.perm (by
    simp only [List.flatten_append] at hs ⊢
    refine (hs.append_right _).trans ?_
    rw [← List.append_assoc]
    exact List.perm_append_comm.append_right _) hw
  refine (h (r ++ F) w hw').mono fun v w' ⟨m', h1, h2⟩ => ⟨r ++ m', ?_, h2⟩
  refine Sat.perm ?_ h1
  simp only [List.flatten_append]
  rw [← List.append_assoc]
  exact List.perm_append_comm.append_right _
theorem scallv_mono {P : Program} {y : Value} {args : Array Value} {k k' : Value → SP} {l : St} (h : scallv P y args k l) (hk : ∀ v l', k v l' → k' v l') : scallv P y args k' l := SUpon.mono h hk
theorem knows_left {l : St} {b : Nat} {o : Obj} (h : Knows l b o) (m : St) : Knows (l ++ m) b o := h.frame m
theorem ent_mid (a : St) (c : Chunk) (b : St) : Ent (a ++ (c :: b)) (a ++ b) := fun F w hs => by
  have h1 : Sat ([c] ++ ((a ++ b) ++ F)) w := Sat.perm (by
    simp only [List.flatten_append, List.flatten_cons, List.flatten_nil, List.append_nil, List.append_assoc]
    exact List.perm_append_comm_assoc _ _ _) hs
  exact h1.right
theorem ent_tail (a b : St) : Ent (a ++ b) a := fun F w hs => by
  have h1 : Sat (b ++ (a ++ F)) w := Sat.perm (by
    simp only [List.flatten_append, List.append_assoc]
    exact List.perm_append_comm_assoc _ _ _) hs
  exact h1.right
theorem sarg_one {v : Value} {k : Value → SP} {l : St} (h : k v l) : sarg #[v] 0 k l := h
theorem change_perm {l l' : St} {b : Nat} {o o' : Obj} {d : Chunk} (h : l.flatten.Perm ((b, o) :: d)) (h' : l'.flatten.Perm ((b, o') :: d)) : Change l b o' l' := ⟨[], d, o, h, h'⟩
theorem slC_one {sz n : Nat} {v : Value} {xs : List Value} {c : Chunk} (h : SlC sz v n xs c) : cellsL v = [v] ∧ v.oneCell' = true := by
  obtain ⟨-, -, ⟨rfl, -⟩ | ⟨b', cap, zs, ty', rfl, -⟩⟩ := h <;> exact ⟨rfl, rfl⟩
end Go.Sl
namespace Go.Sl
variable [Ghost]
open Go
def SlAt (l : St) (sz : Nat) (v : Value) (n : Nat) (xs : List Value) : Prop := xs.length = n * sz ∧ (∃ p cap, v = .slice p n cap) ∧
  (n = 0 ∨ ∃ b o cap cs ty fz, v = .slice (some ⟨b, o, none⟩) n cap ∧ Knows l b (.cells cs ty fz) ∧ takeAt cs.toList o (n * sz) = some xs)
theorem SlAt.there {l : St} {sz n : Nat} {v : Value} {xs : List Value} (d : Chunk) (h : SlAt l sz v n xs) : SlAt (d :: l) sz v n xs := by
  obtain ⟨h1, h2, h3 | ⟨b, o, cap, cs, ty, fz, h4, h5, h6⟩⟩ := h
  · exact ⟨h1, h2, .inl h3⟩
  · exact ⟨h1, h2, .inr ⟨b, o, cap, cs, ty, fz, h4, knows_there _ h5, h6⟩⟩
theorem takeAt_append (xs : List Value) : ∀ zs : List Value, takeAt (xs ++ zs) 0 xs.length = some xs := by
  induction xs with
  | nil => intro zs; cases zs <;> rfl
  | cons x xs ih => intro zs; simp only [List.cons_append, List.length_cons, takeAt, ih zs]
theorem SlC.at {l : St} {sz n : Nat} {v : Value} {xs : List Value} {c : Chunk} (h : SlC sz v n xs c) (hin : ∀ b o, (b, o) ∈ c → Knows l b o) : SlAt l sz v n xs := by
  obtain ⟨h1, -, ⟨rfl, rfl, -⟩ | ⟨b, cap, zs, ty, rfl, hc, rfl, hl⟩⟩ := h
  · exact ⟨h1, ⟨_, _, rfl⟩, .inl rfl⟩
  · refine ⟨h1, ⟨_, _, rfl⟩, .inr ⟨b, 0, cap, _, ty, _, rfl, hin b (.cells (xs ++ zs).toArray ty) (by simp), ?_⟩⟩
    rw [← h1]; exact takeAt_append xs zs
section
variable {l : St} {sz n i : Nat} {v x : Value} {xs : List Value} {k : Value → SP}
theorem r_slen (hs : SlAt l sz v n xs) (h : k (vi n) l) : slen .slice v k l := by
  obtain ⟨-, ⟨p, cap, rfl⟩, -⟩ := hs
  exact h
theorem cellAt_take {cs : List Value} {o n : Nat} {xs : List Value} (h : takeAt cs o n = some xs) (i : Nat) (hi : i < n) : cellAt cs (o + i) = xs[i]? := by
  obtain ⟨h1, h2⟩ := takeAt_eq _ _ _ _ h
  rw [cellAt_eq, ← h1, List.getElem?_take, if_pos hi, List.getElem?_drop]
theorem r_elem1 (hs : SlAt l 1 v n xs) (hx : xs[i]? = some x) (h : k x l) : sidx none 1 v (vi (i : Int)) (fun p => sload none p k) l := by
  obtain ⟨h1, -, h3⟩ := hs
  have hi : i < n := by have := (List.getElem?_eq_some_iff.1 hx).1; omega
  rcases h3 with rfl | ⟨b, o, cap, cs, ty, fz, rfl, h5, h6⟩
  · omega
  · refine ⟨by omega, by omega, ?_⟩
    show sload none (.pointer (some (Addr.add ⟨b, o, none⟩ ((i : Int).toNat * 1)))) k l
    rw [add_off]
    refine r_load1 h5 (x := x) ?_ h
    rw [← hx, ← cellAt_take h6 i (by omega)]
    congr 1; simp
theorem takeAt_take {cs : List Value} {o n : Nat} {xs : List Value} (h : takeAt cs o n = some xs) (a m : Nat) (hm : a + m ≤ n) : ∀ ys, (xs.drop a).take m = ys → takeAt cs (o + a) m = some ys := by
  obtain ⟨h1, h2⟩ := takeAt_eq _ _ _ _ h
  rintro ys rfl
  have key : ∀ (cs : List Value) (o m : Nat), o + m ≤ cs.length → takeAt cs o m = some ((cs.drop o).take m) := by
    intro cs
    induction cs with
    | nil => intro o m h; simp at h; obtain ⟨rfl, rfl⟩ := h; rfl
    | cons c cs ih =>
      intro o m h
      cases o with
      | zero => cases m with
        | zero => rfl
        | succ m =>
          simp only [List.length_cons] at h
          simp only [takeAt, ih 0 m (by omega), List.drop_zero, List.take_succ_cons]
      | succ o =>
        simp only [List.length_cons] at h
        cases m with
        | zero =>
          have := ih o 0 (by omega)
          simp only [takeAt, this, List.drop_succ_cons]
        | succ m => simp only [takeAt, ih o (m + 1) (by omega), List.drop_succ_cons]
  rw [key cs (o + a) m (by omega), ← h1, List.drop_take, List.take_take, List.drop_drop, Nat.min_eq_left (by omega)]
theorem r_elemn {ys : List Value} (hs : SlAt l sz v n xs) (hi : i < n) (hx : (xs.drop (i * sz)).take sz = ys) (h : k (.agg ys.toArray) l) : sidx none sz v (vi (i : Int)) (fun p => sload (some sz) p k) l := by
  obtain ⟨h1, -, h3⟩ := hs
  rcases h3 with rfl | ⟨b, o, cap, cs, ty, fz, rfl, h5, h6⟩
  · omega
  · refine ⟨by omega, by omega, ?_⟩
    show sload (some sz) (.pointer (some (Addr.add ⟨b, o, none⟩ ((i : Int).toNat * sz)))) k l
    rw [add_off]
    refine r_loadn h5 (ys := ys) ?_ h
    have := takeAt_take h6 (i * sz) sz (by rw [← Nat.succ_mul]; exact Nat.mul_le_mul_right _ hi) ys hx
    simpa using this
end
end Go.Sl
namespace Go.Mo
abbrev Str := List UInt8
structure Stt where
  node : Int := 0
  kind : Int := 0
  mode : Int := 0
  uid : Int := 0
  gid : Int := 0
  links : Int := 0
  size : Int := 0
  deriving DecidableEq, Inhabited
structure Plc where
  mount : Int := 0
  node : Int := 0
  deriving DecidableEq, Inhabited
structure Cred where
  uid : Int := 0
  gid : Int := 0
  deriving DecidableEq, Inhabited
def nth {α : Type} : List α → Nat → Option α
  | [], _ => none
  | x :: _, 0 => some x
  | _ :: xs, n + 1 => nth xs n
def setNth {α : Type} : List α → Nat → α → List α
  | [], _, _ => []
  | _ :: xs, 0, y => y :: xs
  | x :: xs, n + 1, y => x :: setNth xs n y
def geti {α : Type} (xs : List (Option α)) : Int → Option α
  | .ofNat (n + 1) => match nth xs n with
    | some x => x
    | none => none
  | _ => none
def seti {α : Type} (xs : List (Option α)) (n : Int) (y : Option α) : List (Option α) := match n with
  | .ofNat (n + 1) => setNth xs n y
  | _ => xs
def lessS : Str → Str → Bool
  | _, [] => false
  | [], _ :: _ => true
  | a :: as', b :: bs => if a.toNat < b.toNat then true else if b.toNat < a.toNat then false else lessS as' bs
def getS (s : Str) : List (Str × Int) → Option Int
  | [] => none
  | (t, n) :: r => if s = t then some n else getS s r
def insS (s : Str) (n : Int) : List (Str × Int) → List (Str × Int)
  | [] => [(s, n)]
  | (t, m) :: r => if lessS t s then (t, m) :: insS s n r else (s, n) :: (t, m) :: r
def delS (s : Str) : List (Str × Int) → List (Str × Int)
  | [] => []
  | (t, m) :: r => if s = t then r else (t, m) :: delS s r
structure Pool where
  blocks : Int := 0
  fs : List (Option Int) := []
  deriving DecidableEq, Inhabited
def Pool.size (p : Pool) (f : Int) : Int := (geti p.fs f).getD 0
def Pool.file (p : Pool) : Pool × Int := ({ p with fs := p.fs ++ [some 0] }, (p.fs.length + 1 : Nat))
def Pool.drop (p : Pool) (f : Int) : Pool := { p with fs := seti p.fs f none }
def Pool.cut (p : Pool) (f size : Int) : Pool × Int := match geti p.fs f with
  | none => (p, 1)
  | some _ => if size < 0 then (p, 39) else if size > 1024 then (p, 42) else ({ p with fs := seti p.fs f (some size) }, 0)
structure Nd where
  kind : Int
  mode : Int
  uid : Int
  gid : Int
  names : List (Str × Int) := []
  up : Int := 0
  links : Int := 0
  holds : Int := 0
  text : Str := []
  file : Int := 0
  deriving DecidableEq, Inhabited
structure Tree where
  most : Int
  pool : Pool
  all : List (Option Nd)
  deriving DecidableEq, Inhabited
def Tree.at (t : Tree) (n : Int) : Option Nd := geti t.all n
def Tree.dir (t : Tree) (n : Int) : Option Nd := match t.at n with
  | some x => if x.kind = 1 then some x else none
  | none => none
def namedB (n : Int) (x : Nd) : Bool := n = 1 || 0 < x.links
def dirCount (t : Tree) : List (Str × Int) → Int
  | [] => 0
  | (_, n) :: r => (if (t.dir n).isSome then 1 else 0) + dirCount t r
def Tree.dirs (t : Tree) (n : Int) (x : Nd) : Int := if namedB n x then 2 + dirCount t x.names else 0
def Tree.stat (t : Tree) (n : Int) : Option Stt := match t.at n with
  | none => none
  | some x =>
    if x.kind = 1 then some { node := n, kind := x.kind, mode := x.mode, uid := x.uid, gid := x.gid, links := t.dirs n x, size := x.names.length }
    else if x.kind = 2 then some { node := n, kind := x.kind, mode := x.mode, uid := x.uid, gid := x.gid, links := x.links, size := t.pool.size x.file }
    else some { node := n, kind := x.kind, mode := x.mode, uid := x.uid, gid := x.gid, links := x.links, size := x.text.length }
def Tree.find (t : Tree) (n : Int) (s : Str) : Option Int := match t.dir n with
  | none => none
  | some x => getS s x.names
def Tree.names (t : Tree) (n : Int) : List Str := match t.dir n with
  | none => []
  | some x => x.names.map (·.1)
def Tree.up (t : Tree) (n : Int) : Int := match t.dir n with
  | none => 0
  | some x => x.up
def Tree.text (t : Tree) (n : Int) : Str := match t.at n with
  | none => []
  | some x => x.text
def Tree.file (t : Tree) (n : Int) : Int := match t.at n with
  | none => 0
  | some x => x.file
def liveFrom {α : Type} (i : Nat) : List (Option α) → List (Int × α)
  | [] => []
  | some x :: r => ((i : Int), x) :: liveFrom (i + 1) r
  | none :: r => liveFrom (i + 1) r
def Tree.lives (t : Tree) : List (Int × Nd) := liveFrom 1 t.all
def Tree.live (t : Tree) : List Int := t.lives.map (·.1)
def Tree.put (t : Tree) (n : Int) (x : Option Nd) : Tree := { t with all := seti t.all n x }
def Tree.give (t : Tree) (dir : Int) (s : Str) (n : Int) : Tree := match t.at dir with
  | none => t
  | some d => let t := t.put dir (some { d with names := insS s n d.names })
    match t.at n with
    | none => t
    | some x => t.put n (some { x with links := x.links + 1, up := if x.kind = 1 then dir else x.up })
def Tree.reap (t : Tree) (n : Int) : Tree := match t.at n with
  | none => t
  | some x => if namedB n x || 0 < x.links || 0 < x.holds then t
    else { (t.put n none) with pool := if x.kind = 2 then t.pool.drop x.file else t.pool }
def Tree.less (t : Tree) (dir : Int) (s : Str) (n : Int) : Tree := match t.at dir with
  | none => t
  | some d => let t := t.put dir (some { d with names := delS s d.names })
    match t.at n with
    | none => t
    | some x => t.put n (some { x with links := x.links - 1, up := if x.kind = 1 then n else x.up })
def Tree.take (t : Tree) (dir : Int) (s : Str) (n : Int) : Tree := (t.less dir s n).reap n
def masked (m : Int) : Int := m % 4096
def rightN (s : Str) : Bool := s.length != 0 && s.length ≤ 255 && !s.contains 47 && !s.contains 0 && !(s == [46] || s == [46, 46])
def Tree.make (t : Tree) (dir : Int) (s : Str) (st : Stt) (text : Str) : Tree × Int × Int := match t.dir dir with
  | none => (t, 0, 1)
  | some d =>
    if !rightN s || st.kind < 1 || 3 < st.kind || (text != [] && st.kind != 3) then (t, 0, 1)
    else if (getS s d.names).isSome then (t, 0, 35)
    else if !namedB dir d then (t, 0, 32)
    else if st.kind = 1 && 16 ≤ t.dirs dir d then (t, 0, 44)
    else if t.most ≤ t.live.length then (t, 0, 43)
    else
      let n : Int := (t.all.length + 1 : Nat)
      let pf := if st.kind = 2 then t.pool.file else (t.pool, 0)
      let t : Tree := { t with pool := pf.1, all := t.all ++ [some { kind := st.kind, mode := masked st.mode, uid := st.uid, gid := st.gid, text := text, file := pf.2, up := if st.kind = 1 ∧ n ≠ 1 then n else 0 }] }
      (t.give dir s n, n, 0)
def Tree.join (t : Tree) (dir : Int) (s : Str) (n : Int) : Tree × Int := match t.dir dir, t.at n with
  | some d, some x =>
    if x.kind = 1 || !rightN s then (t, 1)
    else if (getS s d.names).isSome then (t, 35)
    else if !namedB dir d then (t, 32)
    else if 16 ≤ x.links then (t, 44)
    else (t.give dir s n, 0)
  | _, _ => (t, 1)
def Tree.part (t : Tree) (dir : Int) (s : Str) : Tree × Int := match t.dir dir with
  | none => (t, 1)
  | some d => match getS s d.names with
    | none => (t, 32)
    | some n => match t.at n with
      | none => (t, 1)
      | some x => if x.names.length != 0 then (t, 47) else (t.take dir s n, 0)
def withinGo (t : Tree) (dir : Int) : Nat → Int → Bool
  | 0, _ => false
  | k + 1, n => match t.dir n with
    | none => false
    | some x => if x.up = n then false else if x.up = dir then true else withinGo t dir k x.up
def Tree.within (t : Tree) (n dir : Int) : Bool := (t.dir dir).isSome && withinGo t dir (t.all.length + 1) n
def Tree.move (t : Tree) (dir : Int) (s : Str) (to : Int) (as' : Str) : Tree × Int := match t.dir dir, t.dir to with
  | some d, some e =>
    if !rightN as' then (t, 1)
    else match getS s d.names with
    | none => (t, 32)
    | some n =>
      if !namedB to e then (t, 32)
      else match t.at n with
      | none => (t, 1)
      | some x =>
        if x.kind = 1 && (to = n || t.within to n) then (t, 39)
        else match getS as' e.names with
        | some old => if old = n then (t, 0) else match t.at old with
          | none => (t, 1)
          | some y =>
            if x.kind = 1 && y.kind != 1 then (t, 37)
            else if x.kind != 1 && y.kind = 1 then (t, 38)
            else if y.names.length != 0 then (t, 47)
            else (((t.take to as' old).less dir s n).give to as' n, 0)
        | none =>
          if x.kind = 1 && dir != to && 16 ≤ t.dirs to e then (t, 44)
          else ((t.less dir s n).give to as' n, 0)
  | _, _ => (t, 1)
def Tree.hold (t : Tree) (n : Int) : Tree × Int := match t.at n with
  | none => (t, 1)
  | some x => (t.put n (some { x with holds := x.holds + 1 }), 0)
def Tree.loose (t : Tree) (n : Int) : Tree × Int := match t.at n with
  | none => (t, 1)
  | some x => if x.holds = 0 then (t, 16) else ((t.put n (some { x with holds := x.holds - 1 })).reap n, 0)
def Tree.setMode (t : Tree) (n mode : Int) : Tree × Int := match t.at n with
  | none => (t, 1)
  | some x => (t.put n (some { x with mode := masked mode }), 0)
def Tree.setOwner (t : Tree) (n uid gid : Int) : Tree × Int := match t.at n with
  | none => (t, 1)
  | some x => (t.put n (some { x with uid := uid, gid := gid }), 0)
def Tree.cut (t : Tree) (n size : Int) : Tree × Int := let r := t.pool.cut (t.file n) size; ({ t with pool := r.1 }, r.2)
def Tree.new (nodes blocks : Int) : Option Tree :=
  if nodes < 1 || 64 < nodes || blocks < 0 || 256 < blocks then none
  else some { most := nodes, pool := { blocks := blocks }, all := [some { kind := 1, mode := 493, uid := 0, gid := 0, up := 1 }] }
end Go.Mo
namespace Go.Sl
variable [Ghost]
open Go Go.Mo
def sttL (s : Stt) : List Value := [vi s.node, vi s.kind, vi s.mode, vi s.uid, vi s.gid, vi s.links, vi s.size]
abbrev sttV (s : Stt) : Value := .agg (sttL s).toArray
abbrev plV (p : Plc) : Value := .agg #[vi p.mount, vi p.node]
abbrev crV (c : Cred) : Value := .agg #[vi c.uid, vi c.gid]
def namesK (l : List (Str × Int)) : List (List UInt8 × Value) := l.map fun p => (p.1, vi p.2)
def PNode (n : Int) (x : Nd) (b : Nat) (c : Chunk) : Prop :=
  ∃ (ty : TypeId) (up : Int) (nm : Value) (mc : Chunk),
    c = (b, .cells #[vi n, vi x.kind, vi x.mode, vi x.uid, vi x.gid, vi 0, vi 0, nm, vi up, vi x.links, vi x.holds, vstr' x.text, vi x.file] ty) :: mc ∧
    (x.kind = 1 → (if namedB n x = true then up else n) = x.up) ∧
    ((x.kind = 1 ∧ ∃ m es clk, nm = .map (some m) ∧ mc = [(m, .map es clk)] ∧ MapOf kStr es clk (namesK x.names)) ∨ (x.kind ≠ 1 ∧ nm = .map none ∧ mc = [] ∧ x.names = []))
inductive PNodes (β : Int → Nat) : List (Int × Nd) → Chunk → Prop
  | nil : PNodes β [] []
  | cons {n x c xs cs} : PNode n x (β n) c → PNodes β xs cs → PNodes β ((n, x) :: xs) (c ++ cs)
def kvOf (β : Int → Nat) (xs : List (Int × Nd)) : List (Int × Value) := xs.map fun p => (p.1, ptr (β p.1) 0)
def PFile (s : Int) (b : Nat) (c : Chunk) : Prop := ∃ ty m, c = [(b, .cells #[vi s, .map (some m)] ty), (m, .map #[] 0)]
inductive PFiles : List (Int × Int) → List (Int × Value) → Chunk → Prop
  | nil : PFiles [] [] []
  | cons {n s b c xs kv cs} : PFile s b c → PFiles xs kv cs → PFiles ((n, s) :: xs) ((n, ptr b 0) :: kv) (c ++ cs)
def PPool (p : Nat) (P : Pool) (c : Chunk) : Prop :=
  ∃ ty m es clk kv xs cs, c.Perm ((p, .cells #[vi P.blocks, .map (some m), vi P.fs.length] ty) :: (m, .map es clk) :: cs) ∧ xs.Perm (liveFrom 1 P.fs) ∧ MapOf kInt es clk kv ∧ PFiles xs kv cs
def PTree (t : Nat) (T : Tree) (β : Int → Nat) (c : Chunk) : Prop :=
  ∃ ty p m turns es clk xs cs pc, c.Perm ((t, .cells #[vi T.most, ptr p 0, .map (some m), vi T.all.length, vi turns] ty) :: (m, .map es clk) :: (pc ++ cs)) ∧ xs.Perm T.lives ∧ MapOf kInt es clk (kvOf β xs) ∧ PNodes β xs cs ∧ PPool p T.pool pc
def In (l : St) (c : Chunk) : Prop := ∀ b o, (b, o) ∈ c → Knows l b o
theorem In.here (c : Chunk) (l : St) : In (c :: l) c := fun _ _ h => knows_in h l
theorem In.there {l : St} {c : Chunk} (d : Chunk) (h : In l c) : In (d :: l) c := fun b o hm => knows_there d (h b o hm)
theorem In.of_take {l r : St} {c : Chunk} (h : Take l c r) : In l c := fun b o hm => by
  unfold Knows; exact (h.mem_iff).2 (List.mem_append_left _ hm)
def TreeAt (l : St) (t : Nat) (T : Tree) (β : Int → Nat) : Prop := ∃ c, In l c ∧ PTree t T β c
theorem TreeAt.there {l : St} {t : Nat} {T : Tree} {β : Int → Nat} (d : Chunk) (h : TreeAt l t T β) : TreeAt (d :: l) t T β := let ⟨c, h1, h2⟩ := h; ⟨c, h1.there d, h2⟩
theorem nth_eq {α : Type} : ∀ (xs : List α) (n : Nat), nth xs n = xs[n]?
  | [], n => by simp [nth]
  | x :: xs, 0 => by simp [nth]
  | x :: xs, n + 1 => by simp [nth, nth_eq xs n]
theorem liveFrom_ge {α : Type} : ∀ (xs : List (Option α)) (i : Nat) (n : Int) (x : α), (n, x) ∈ liveFrom i xs → (i : Int) ≤ n
  | [], i, n, x, h => by simp [liveFrom] at h
  | some y :: r, i, n, x, h => by
    simp only [liveFrom, List.mem_cons, Prod.mk.injEq] at h
    rcases h with ⟨rfl, -⟩ | h
    · exact Int.le_refl _
    · have := liveFrom_ge r (i + 1) n x h; omega
  | none :: r, i, n, x, h => by
    have := liveFrom_ge r (i + 1) n x h; omega
theorem liveFrom_mem {α : Type} : ∀ (xs : List (Option α)) (i : Nat) (k : Nat) (x : α), ((((i + k : Nat) : Int)), x) ∈ liveFrom i xs ↔ xs[k]? = some (some x)
  | [], i, k, x => by simp [liveFrom]
  | o :: r, i, 0, x => by
    have h2 : ((((i + 0 : Nat) : Int)), x) ∉ liveFrom (i + 1) r := fun h => by have := liveFrom_ge r (i + 1) _ x h; omega
    cases o with
    | none => simp only [liveFrom, h2, false_iff]; simp
    | some y =>
      simp only [liveFrom, List.mem_cons, Prod.mk.injEq, h2, or_false]
      simp [eq_comm]
  | o :: r, i, k + 1, x => by
    have e : i + (k + 1) = (i + 1) + k := by omega
    have ih := liveFrom_mem r (i + 1) k x
    cases o with
    | none => simp only [liveFrom]; rw [e, ih]; simp
    | some y =>
      simp only [liveFrom, List.mem_cons, Prod.mk.injEq]
      rw [e, ih, List.getElem?_cons_succ]
      refine ⟨fun h => h.resolve_left fun h2 => ?_, .inr⟩
      have := h2.1; omega
theorem liveFrom_nodup {α : Type} : ∀ (xs : List (Option α)) (i : Nat), ((liveFrom i xs).map Prod.fst).Nodup
  | [], i => by simp [liveFrom]
  | some y :: r, i => by
    simp only [liveFrom, List.map_cons, List.nodup_cons]
    refine ⟨fun h => ?_, liveFrom_nodup r (i + 1)⟩
    obtain ⟨⟨n, x⟩, hm, hn⟩ := List.mem_map.1 h
    have h3 := liveFrom_ge r (i + 1) n x hm
    simp only at hn; omega
  | none :: r, i => liveFrom_nodup r (i + 1)
theorem geti_live {α : Type} (xs : List (Option α)) (n : Int) (x : α) : geti xs n = some x ↔ (n, x) ∈ liveFrom 1 xs := by
  match n with
  | .ofNat 0 =>
    constructor
    · intro h; cases h
    · intro h; have := liveFrom_ge xs 1 _ x h; simp at this
  | .negSucc k =>
    constructor
    · intro h; cases h
    · intro h; have := liveFrom_ge xs 1 _ x h; omega
  | .ofNat (k + 1) =>
    have e : (Int.ofNat (k + 1)) = ((1 + k : Nat) : Int) := by simp; omega
    show (match nth xs k with | some x => x | none => none) = some x ↔ _
    rw [e, liveFrom_mem, nth_eq]
    cases xs[k]? with
    | none => simp
    | some o => simp
theorem lk_kvOf (β : Int → Nat) (n : Int) : ∀ xs : List (Int × Nd), lk n (kvOf β xs) = if n ∈ xs.map Prod.fst then some (ptr (β n) 0) else none
  | [] => rfl
  | (m, y) :: xs => by
    have ih := lk_kvOf β n xs
    unfold kvOf at *
    simp only [List.map_cons, lk, List.mem_cons]
    by_cases h : n = m
    · subst h; simp
    · simp only [h, if_false, false_or]; exact ih
theorem pnodes_at {β : Int → Nat} {xs : List (Int × Nd)} {cs : Chunk} (h : PNodes β xs cs) : ∀ {n : Int} {x : Nd}, (n, x) ∈ xs → ∃ c, PNode n x (β n) c ∧ ∀ p ∈ c, p ∈ cs := by
  induction h with
  | nil => intro n x h; cases h
  | @cons m y c xs cs hp hr ih =>
    intro n x hx
    rcases List.mem_cons.1 hx with e | hx2
    · simp only [Prod.mk.injEq] at e
      obtain ⟨rfl, rfl⟩ := e
      exact ⟨c, hp, fun p hp => List.mem_append_left _ hp⟩
    · obtain ⟨c', h1, h3⟩ := ih hx2
      exact ⟨c', h1, fun p hp => List.mem_append_right _ (h3 p hp)⟩
def NodeAt (l : St) (b : Nat) (n : Int) (x : Nd) : Prop := ∃ c, In l c ∧ PNode n x b c
theorem NodeAt.there {l : St} {b : Nat} {n : Int} {x : Nd} (d : Chunk) (h : NodeAt l b n x) : NodeAt (d :: l) b n x := let ⟨c, h1, h2⟩ := h; ⟨c, h1.there d, h2⟩
theorem NodeAt.cells {l : St} {b : Nat} {n : Int} {x : Nd} (h : NodeAt l b n x) : ∃ ty up nm, Knows l b (.cells #[vi n, vi x.kind, vi x.mode, vi x.uid, vi x.gid, vi 0, vi 0, nm, vi up, vi x.links, vi x.holds, vstr' x.text, vi x.file] ty) ∧
    (x.kind = 1 → (if namedB n x = true then up else n) = x.up) ∧ ((x.kind = 1 ∧ ∃ m es clk, nm = .map (some m) ∧ Knows l m (.map es clk) ∧ MapOf kStr es clk (namesK x.names)) ∨ (x.kind ≠ 1 ∧ nm = .map none ∧ x.names = [])) := by
  obtain ⟨c, hin, ty, up, nm, mc, rfl, hup, hm⟩ := h
  refine ⟨ty, up, nm, hin _ _ (by simp), hup, ?_⟩
  rcases hm with ⟨hk, m, es, clk, h1, rfl, h2⟩ | ⟨hk, h1, -, h2⟩
  · exact .inl ⟨hk, m, es, clk, h1, hin _ _ (by simp), h2⟩
  · exact .inr ⟨hk, h1, h2⟩
theorem NodeAt.dirCells {l : St} {b : Nat} {n : Int} {x : Nd} (h : NodeAt l b n x) (hk : x.kind = 1) : ∃ ty up m es clk, Knows l b (.cells #[vi n, vi x.kind, vi x.mode, vi x.uid, vi x.gid, vi 0, vi 0, .map (some m), vi up, vi x.links, vi x.holds, vstr' x.text, vi x.file] ty) ∧
    (if namedB n x = true then up else n) = x.up ∧ Knows l m (.map es clk) ∧ MapOf kStr es clk (namesK x.names) := by
  obtain ⟨ty, up, nm, h1, h2, ⟨-, m, es, clk, rfl, h3, h4⟩ | ⟨h5, -⟩⟩ := h.cells
  · exact ⟨ty, up, m, es, clk, h1, h2 hk, h3, h4⟩
  · exact absurd hk h5
theorem TreeAt.open {l : St} {t : Nat} {T : Tree} {β : Int → Nat} (h : TreeAt l t T β) : ∃ ty p m turns es clk xs, Knows l t (.cells #[vi T.most, ptr p 0, .map (some m), vi T.all.length, vi turns] ty) ∧ Knows l m (.map es clk) ∧ MapOf kInt es clk (kvOf β xs) ∧
    (∀ n x, T.at n = some x → NodeAt l (β n) n x) ∧ (∃ pc, In l pc ∧ PPool p T.pool pc) ∧ xs.Perm T.lives := by
  obtain ⟨c, hin, ty, p, m, turns, es, clk, xs, cs, pc, hc, hxs, hm, hn, hp⟩ := h
  have hin : In l ((t, .cells #[vi T.most, ptr p 0, .map (some m), vi T.all.length, vi turns] ty) :: (m, .map es clk) :: (pc ++ cs)) := fun b o hb => hin b o ((hc.mem_iff).2 hb)
  refine ⟨ty, p, m, turns, es, clk, xs, hin _ _ (by simp), hin _ _ (by simp), hm, fun n x ha => ?_, ⟨pc, fun b o hb => hin b o (by simp [hb]), hp⟩, hxs⟩
  obtain ⟨c', h3, h5⟩ := pnodes_at hn (hxs.mem_iff.2 ((geti_live T.all n x).1 ha))
  exact ⟨c', fun q o hq => hin q o (by simp [h5 _ hq]), h3⟩
section
variable {l l0 : St} {m clk : Nat} {es : Array MapEntry} {T : Tree} {β : Int → Nat} {xs : List (Int × Nd)} {n : Int} {k : Value → SP}
theorem r_all (hk : Knows l m (.map es clk)) (hm : MapOf kInt es clk (kvOf β xs)) (hxs : xs.Perm T.lives)
    (h1 : ∀ x, T.at n = some x → k (ptr (β n) 0) l) (h2 : T.at n = none → k (.pointer none) l) : slookup (.int .i64) (some (.pointer none)) (.map (some m)) (vi n) false k l := by
  refine r_look1 (K := kInt) (a := n) hk hm ?_
  rw [lk_kvOf]
  cases hx : T.at n with
  | some x =>
    have : n ∈ xs.map Prod.fst := List.mem_map.2 ⟨(n, x), hxs.mem_iff.2 ((geti_live T.all n x).1 hx), rfl⟩
    rw [if_pos this]; exact h1 x hx
  | none =>
    have : n ∉ xs.map Prod.fst := fun h => by
      obtain ⟨⟨m, x⟩, hm, rfl⟩ := List.mem_map.1 h
      have := (geti_live T.all m x).2 (hxs.mem_iff.1 hm)
      unfold Tree.at at hx; rw [this] at hx; cases hx
    rw [if_neg this]; exact h2 hx
theorem lk_names (s : Str) : ∀ l : List (Str × Int), lk s (namesK l) = (getS s l).map fun n => vi n
  | [] => rfl
  | (t, m) :: r => by
    simp only [namesK, List.map_cons, lk, getS]
    split
    · rfl
    · exact lk_names s r
theorem r_name {s : Str} {names : List (Str × Int)} (hk : Knows l m (.map es clk)) (hm : MapOf kStr es clk (namesK names)) (h1 : ∀ q, getS s names = some q → k (.tuple #[vi q, .bool true]) l) (h2 : getS s names = none → k (.tuple #[vi 0, .bool false]) l) :
    slookup .string (some (.int .i64 0)) (.map (some m)) (vstr' s) true k l := by
  refine r_look2 (K := kStr) (a := s) hk hm ?_
  rw [lk_names]
  cases hg : getS s names with
  | none => exact h2 hg
  | some q => exact h1 q hg
theorem r_name1 {s : Str} {names : List (Str × Int)} (hk : Knows l m (.map es clk)) (hm : MapOf kStr es clk (namesK names)) (h : k (vi ((getS s names).getD 0)) l) :
    slookup .string (some (.int .i64 0)) (.map (some m)) (vstr' s) false k l := by
  refine r_look1 (K := kStr) (a := s) hk hm ?_
  rw [lk_names]
  cases hg : getS s names with
  | none => rw [hg] at h; exact h
  | some q => rw [hg] at h; exact h
end
theorem pfiles_at {xs : List (Int × Int)} {kv : List (Int × Value)} {cs : Chunk} (h : PFiles xs kv cs) (n : Int) : (xs.map Prod.fst).Nodup →
    (∀ x, (n, x) ∈ xs → ∃ b c, PFile x b c ∧ lk n kv = some (ptr b 0) ∧ ∀ p ∈ c, p ∈ cs) ∧ ((∀ x, (n, x) ∉ xs) → lk n kv = none) := by
  induction h with
  | nil => exact fun _ => ⟨fun x h => (by cases h), fun _ => rfl⟩
  | @cons m y b c xs kv cs hp hr ih =>
    intro hn
    simp only [List.map_cons, List.nodup_cons] at hn
    obtain ⟨i1, i2⟩ := ih hn.2
    refine ⟨fun x hx => ?_, fun hx => ?_⟩
    · rcases List.mem_cons.1 hx with e | hx2
      · simp only [Prod.mk.injEq] at e
        obtain ⟨rfl, rfl⟩ := e
        exact ⟨b, c, hp, by simp [lk], fun p hp => List.mem_append_left _ hp⟩
      · obtain ⟨b', c', h1, h2, h3⟩ := i1 x hx2
        have hne : n ≠ m := fun e => hn.1 (List.mem_map.2 ⟨(n, x), hx2, e⟩)
        exact ⟨b', c', h1, by simp [lk, hne, h2], fun p hp => List.mem_append_right _ (h3 p hp)⟩
    · have hne : n ≠ m := fun e => by subst e; exact hx y (by simp)
      simp only [lk, hne, if_false]
      exact i2 fun x hm => hx x (by simp [hm])
def PoolAt (l : St) (p : Nat) (P : Pool) : Prop := ∃ c, In l c ∧ PPool p P c
theorem PoolAt.there {l : St} {p : Nat} {P : Pool} (d : Chunk) (h : PoolAt l p P) : PoolAt (d :: l) p P := let ⟨c, h1, h2⟩ := h; ⟨c, h1.there d, h2⟩
theorem PoolAt.open {l : St} {p : Nat} {P : Pool} (h : PoolAt l p P) : ∃ ty m es clk kv, Knows l p (.cells #[vi P.blocks, .map (some m), vi P.fs.length] ty) ∧ Knows l m (.map es clk) ∧ MapOf kInt es clk kv ∧
    (∀ n, (∃ s b ty m, geti P.fs n = some s ∧ lk n kv = some (ptr b 0) ∧ Knows l b (.cells #[vi s, .map (some m)] ty) ∧ Knows l m (.map #[] 0)) ∨ (geti P.fs n = none ∧ lk n kv = none)) := by
  obtain ⟨c, hin, ty, m, es, clk, kv, xs, cs, hc, hxs, hm, hf⟩ := h
  have hin : In l ((p, .cells #[vi P.blocks, .map (some m), vi P.fs.length] ty) :: (m, .map es clk) :: cs) := fun b o hb => hin b o ((hc.mem_iff).2 hb)
  refine ⟨ty, m, es, clk, kv, hin _ _ (by simp), hin _ _ (by simp), hm, fun n => ?_⟩
  obtain ⟨h1, h2⟩ := pfiles_at hf n ((hxs.map _).nodup_iff.2 (liveFrom_nodup _ _))
  cases ha : geti P.fs n with
  | none => exact .inr ⟨rfl, h2 fun x hx => by have := (geti_live P.fs n x).2 (hxs.mem_iff.1 hx); rw [this] at ha; cases ha⟩
  | some x =>
    obtain ⟨b, c', ⟨ty', m', rfl⟩, h4, h5⟩ := h1 x (hxs.mem_iff.2 ((geti_live P.fs n x).1 ha))
    exact .inl ⟨x, b, ty', m', rfl, h4, hin _ _ (by simp [h5]), hin _ _ (by simp [h5])⟩
end Go.Sl
namespace Go.Sl
variable [Ghost]
open Go Go.Proofs
def S9 (R : Value → SP) : SP := snew #[.pointer none, .pointer none, .int .i64 0, .int .i64 0, .pointer none, .pointer none, .int .i64 0, .int .i64 0, .slice none 0 0] 35 fun b => scall Tryz.prog 35 #[] fun k => sext k 0 fun l => sext k 1 fun m => snew #[.pointer none, .pointer none, .pointer none, .pointer none] 39 fun a => sstore 4 a l <| sun .not m fun n => sguard n ( sbuildR [(0, 4), (4, 5)] #[.pointer none, .pointer none, .int .i64 0, .int .i64 0, .pointer none, .pointer none, .int .i64 0, .int .i64 0, .slice none 0 0] #[] fun o => sstore 9 b o <| sload (some 9) b fun vr => R (.tuple #[vr, .bool false])) ( sfa 0 a fun c => sload none c fun d => sfa 1 a fun e => sload none e fun f => sfa 2 a fun g => sload none g fun h => sfa 3 a fun i => sload none i fun j => scall Tryz.prog 14 #[] fun p => sand (sload none i fun v' _ => v' = j) <| sand (sload none g fun v' _ => v' = h) <| sand (sload none e fun v' _ => v' = f) <| sand (sload none c fun v' _ => v' = d) <| sbuildR [(0, 1), (1, 1), (2, 2)] #[.pointer none, .pointer none, .int .i64 0, .int .i64 0] #[(0, d), (1, f), (2, p)] fun q => scall Tryz.prog 14 #[] fun r => sand (sload none i fun v' _ => v' = j) <| sand (sload none g fun v' _ => v' = h) <| sand (sload none e fun v' _ => v' = f) <| sand (sload none c fun v' _ => v' = d) <| sbuildR [(0, 1), (1, 1), (2, 2), (4, 1)] #[.pointer none, .pointer none, .int .i64 0, .int .i64 0, .slice none 0 0] #[(0, h), (1, j), (2, r)] fun t => sbuildR [(0, 4), (4, 5)] #[.pointer none, .pointer none, .int .i64 0, .int .i64 0, .pointer none, .pointer none, .int .i64 0, .int .i64 0, .slice none 0 0] #[(0, q), (1, t)] fun u => sstore 9 b u <| sload (some 9) b fun w => R (.tuple #[w, .bool true]))
theorem S9_ok {R : Value → SP} {l : St} (h : S9 R l) : scall Tryz.prog 9 #[] R l := sok [] (.seq .leaf (.seq .leaf (.seq (.seq .leaf (.cond (.seq .leaf .leaf) .leaf)) (.seq (.draw [(0, []), (1, []), (2, []), (3, []), (6, []), (7, []), (8, []), (9, []), (4, [1, 3, 7, 9]), (5, []), (10, [1, 3, 7, 9]), (11, []), (12, []), (13, []), (14, [])]) .leaf)))) Tryz.func9 (by kernel_rfl) (by kernel_rfl) h
def S10 (a2 a3 : Value) (R : Value → SP) : SP := snew (Value.cells a2) 39 fun b => snew (Value.cells a3) 44 fun a => sfa 0 a fun a4 => sload none a4 fun c => sbin Tryz.prog .none 3 .eql c (.int .i64 1) fun a5 => sguard a5 ( sfa 0 b fun a6 => sload none a6 fun a7 => sfa 1 a fun a8 => sload none a8 fun a9 => sfa 4 a fun a10 => sload none a10 fun a11 => sfa 6 a fun a12 => sload (some 7) a12 fun a13 => sfa 5 a fun a14 => sload none a14 fun a15 => scall Tryz.prog 36 #[a7, a9, a11, a13, a15] fun d => sext d 0 fun a16 => sext d 1 fun a17 => sfa 2 b fun a18 => sload none a18 fun a19 => sfa 1 a fun a20 => sload none a20 fun a21 => sfa 4 a fun a22 => sload none a22 fun a23 => sfa 6 a fun a24 => sload (some 7) a24 fun a25 => sfa 5 a fun a26 => sload none a26 fun a27 => scall Tryz.prog 37 #[a19, a21, a23, a25, a27] fun e => sext e 0 fun a28 => sext e 1 fun a29 => sbin Tryz.prog .none 3 .eql a16 a28 fun a30 => sguard a30 ( sbin Tryz.prog .none 3 .eql a17 a29 fun a31 => R a31) ( R (.bool false))) ( sbin Tryz.prog .none 3 .eql c (.int .i64 2) fun a32 => sguard a32 ( sfa 0 b fun a33 => sload none a33 fun a34 => sfa 1 a fun a35 => sload none a35 fun a36 => sfa 4 a fun a37 => sload none a37 fun a38 => sfa 2 a fun a39 => sload none a39 fun a40 => sfa 2 b fun f => sload none f fun g => sfa 1 a fun h => sload none h fun i => sfa 4 a fun j => sload none j fun k => sfa 2 a fun l => sload none l fun m => scall Tryz.prog 38 #[a34, a36, a38, a40] fun a41 => sand (sload none l fun v' _ => v' = m) <| sand (sload none j fun v' _ => v' = k) <| sand (sload none h fun v' _ => v' = i) <| sand (sload none f fun v' _ => v' = g) <| scall Tryz.prog 39 #[g, i, k, m] fun a42 => sbin Tryz.prog .none 3 .eql a41 a42 fun a43 => R a43) ( sbin Tryz.prog .none 3 .eql c (.int .i64 3) fun a44 => sguard a44 ( sfa 0 b fun b0 => sload none b0 fun b1 => sfa 1 a fun b2 => sload none b2 fun b3 => sfa 4 a fun b4 => sload none b4 fun b5 => sfa 2 b fun n => sload none n fun o => sfa 1 a fun p => sload none p fun q => sfa 4 a fun r => sload none r fun t => scall Tryz.prog 40 #[b1, b3, b5] fun b6 => sand (sload none r fun v' _ => v' = t) <| sand (sload none p fun v' _ => v' = q) <| sand (sload none n fun v' _ => v' = o) <| scall Tryz.prog 41 #[o, q, t] fun b7 => sbin Tryz.prog .none 3 .eql b6 b7 fun b8 => R b8) ( sbin Tryz.prog .none 3 .eql c (.int .i64 4) fun b9 => sguard b9 ( sfa 0 b fun b10 => sload none b10 fun b11 => sfa 1 a fun b12 => sload none b12 fun b13 => sfa 4 a fun b14 => sload none b14 fun b15 => sfa 2 a fun b16 => sload none b16 fun b17 => sfa 5 a fun b18 => sload none b18 fun b19 => sfa 2 b fun u => sload none u fun w => sfa 1 a fun x => sload none x fun y => sfa 4 a fun z => sload none z fun A => sfa 2 a fun B => sload none B fun C => sfa 5 a fun D => sload none D fun E => scall Tryz.prog 42 #[b11, b13, b15, b17, b19] fun b20 => sand (sload none D fun v' _ => v' = E) <| sand (sload none B fun v' _ => v' = C) <| sand (sload none z fun v' _ => v' = A) <| sand (sload none x fun v' _ => v' = y) <| sand (sload none u fun v' _ => v' = w) <| scall Tryz.prog 43 #[w, y, A, C, E] fun b21 => sbin Tryz.prog .none 3 .eql b20 b21 fun b22 => R b22) ( sbin Tryz.prog .none 3 .eql c (.int .i64 5) fun b23 => sguard b23 ( sfa 0 b fun b24 => sload none b24 fun b25 => sfa 1 a fun b26 => sload none b26 fun b27 => sfa 3 a fun b28 => sload none b28 fun b29 => sfa 2 b fun F => sload none F fun G => sfa 1 a fun H => sload none H fun K => sfa 3 a fun L => sload none L fun M => scall Tryz.prog 22 #[b25, b27, b29] fun b30 => sand (sload none L fun v' _ => v' = M) <| sand (sload none H fun v' _ => v' = K) <| sand (sload none F fun v' _ => v' = G) <| scall Tryz.prog 23 #[G, K, M] fun b31 => sbin Tryz.prog .none 3 .eql b30 b31 fun b32 => R b32) ( sbin Tryz.prog .none 3 .eql c (.int .i64 6) fun b33 => sguard b33 ( sload (some 4) b fun b34 => sload (some 15) a fun b35 => scall Tryz.prog 44 #[b34, b35] fun b36 => R b36) ( sbin Tryz.prog .none 3 .eql c (.int .i64 7) fun b37 => sguard b37 ( sfa 1 b fun b38 => sload none b38 fun b39 => sfa 3 a fun b40 => sload none b40 fun b41 => sfa 3 b fun N => sload none N fun O => sfa 3 a fun Q => sload none Q fun T => scall Tryz.prog 45 #[b39, b41] fun b42 => sand (sload none Q fun v' _ => v' = T) <| sand (sload none N fun v' _ => v' = O) <| scall Tryz.prog 46 #[O, T] fun b43 => sbin Tryz.prog .none 3 .eql b42 b43 fun b44 => R b44) ( sfa 0 b fun c0 => sload none c0 fun c1 => sfa 1 a fun c2 => sload none c2 fun c3 => sfa 3 a fun c4 => sload none c4 fun c5 => sfa 2 a fun c6 => sload none c6 fun c7 => sfa 2 b fun U => sload none U fun V => sfa 1 a fun W => sload none W fun X => sfa 3 a fun Y => sload none Y fun Z => sfa 2 a fun a0 => sload none a0 fun a1 => scall Tryz.prog 47 #[c1, c3, c5, c7] fun c8 => sand (sload none a0 fun v' _ => v' = a1) <| sand (sload none Y fun v' _ => v' = Z) <| sand (sload none W fun v' _ => v' = X) <| sand (sload none U fun v' _ => v' = V) <| scall Tryz.prog 48 #[V, X, Z, a1] fun c9 => sbin Tryz.prog .none 3 .eql c8 c9 fun c10 => R c10)))))))
theorem S10_ok {v0 v1 : Value} {R : Value → SP} {l : St} (h : S10 v0 v1 R l) : scall Tryz.prog 10 #[v0, v1] R l := sok [v0, v1] (.seq .leaf (.seq (.seq .leaf (.one (.seq .leaf (.cond (.seq .leaf (.seq .leaf (.seq .leaf .leaf))) (.seq .leaf (.cond (.seq (.draw [(0, []), (1, []), (2, []), (3, []), (4, []), (5, []), (6, []), (7, []), (9, []), (10, []), (11, []), (12, []), (13, []), (14, []), (15, []), (16, []), (8, [10, 12, 14, 16]), (17, []), (18, []), (19, [])]) .leaf) (.seq .leaf (.cond (.seq (.draw [(0, []), (1, []), (2, []), (3, []), (4, []), (5, []), (7, []), (8, []), (9, []), (10, []), (11, []), (12, []), (6, [8, 10, 12]), (13, []), (14, []), (15, [])]) .leaf) (.seq .leaf (.cond (.seq (.draw [(0, []), (1, []), (2, []), (3, []), (4, []), (5, []), (6, []), (7, []), (8, []), (9, []), (11, []), (12, []), (13, []), (14, []), (15, []), (16, []), (17, []), (18, []), (19, []), (20, []), (10, [12, 14, 16, 18, 20]), (21, []), (22, []), (23, [])]) .leaf) (.seq .leaf (.cond (.seq (.draw [(0, []), (1, []), (2, []), (3, []), (4, []), (5, []), (7, []), (8, []), (9, []), (10, []), (11, []), (12, []), (6, [8, 10, 12]), (13, []), (14, []), (15, [])]) .leaf) (.seq .leaf (.cond (.seq .leaf .leaf) (.seq .leaf (.cond (.seq (.draw [(0, []), (1, []), (2, []), (3, []), (5, []), (6, []), (7, []), (8, []), (4, [6, 8]), (9, []), (10, []), (11, [])]) .leaf) .leaf)))))))))))))))) (.seq (.draw [(0, []), (1, []), (2, []), (3, []), (4, []), (5, []), (6, []), (7, []), (9, []), (10, []), (11, []), (12, []), (13, []), (14, []), (15, []), (16, []), (8, [10, 12, 14, 16]), (17, []), (18, []), (19, [])]) .leaf))) Tryz.func10 (by kernel_rfl) (by kernel_rfl) h
def S11 (k : Value) (R : Value → SP) : SP := snew (Value.cells k) 44 fun a => snew #[.int .i64 0, .int .i64 0, .int .i64 0, .int .i64 0, .string ⟨#[]⟩, .string ⟨#[]⟩, .int .i64 0, .int .i64 0, .int .i64 0, .int .i64 0, .int .i64 0, .int .i64 0, .int .i64 0, .int .i64 0, .int .i64 0] 44 fun b => sbuildSlR 9 1 (.string ⟨#[]⟩) 4 #[(0, .string ⟨#[97]⟩), (1, .string ⟨#[98]⟩), (2, .string ⟨#[99]⟩), (3, .string ⟨#[108]⟩)] fun c => sfa 0 a fun l => sload none l fun m => scall Tryz.prog 49 #[m, .int .i64 8] fun n => sbin Tryz.prog .none 3 .add (.int .i64 1) n fun o => sfa 0 a fun p => sstore 1 p o <| sfa 1 a fun q => sload none q fun r => scall Tryz.prog 49 #[r, .int .i64 7] fun t => sbin Tryz.prog .none 3 .add (.int .i64 1) t fun u => sfa 1 a fun w => sstore 1 w u <| sfa 2 a fun x => sload none x fun y => scall Tryz.prog 49 #[y, .int .i64 7] fun z => sbin Tryz.prog .none 3 .add (.int .i64 1) z fun A => sfa 2 a fun B => sstore 1 B A <| sfa 4 a fun C => sload none C fun D => slen .str D fun E => scall Tryz.prog 49 #[E, .int .i64 4] fun F => sidx none 1 c F fun G => sload none G fun H => sfa 4 a fun K => sstore 1 K H <| sbuildSlR 9 1 (.string ⟨#[]⟩) 10 #[(0, .string ⟨#[97]⟩), (1, .string ⟨#[46, 46, 47, 98]⟩), (2, .string ⟨#[47, 97, 47, 98]⟩), (3, .string ⟨#[108]⟩), (4, .string ⟨#[46]⟩), (5, .string ⟨#[97, 47]⟩), (6, .string ⟨#[47]⟩), (7, .string ⟨#[]⟩), (8, .string ⟨#[120, 47, 121]⟩), (9, .string ⟨#[46, 46, 47, 46, 46, 47, 97, 47, 108]⟩)] fun L => sfa 5 a fun M => sload none M fun N => slen .str N fun d => scall Tryz.prog 49 #[d, .int .i64 4] fun O => sidx none 1 c O fun Q => sload none Q fun T => sfa 5 a fun U => sstore 1 U T <| sjoin0 ( sfa 13 a fun V => sfa 0 V fun W => sload none W fun X => sfa 13 a fun Y => sfa 1 Y fun e => sload none e fun f => scall Tryz.prog 49 #[X, .int .i64 3] fun Z => sand (sload none e fun v' _ => v' = f) <| scall Tryz.prog 49 #[f, .int .i64 7] fun a0 => sbin Tryz.prog .none 3 .add (.int .i64 1) a0 fun a1 => sbuildR [(0, 1), (1, 1)] #[.int .i64 0, .int .i64 0] #[(0, Z), (1, a1)] fun a2 => sfa 13 a fun a3 => sstore 2 a3 a2 <| sjoin0 ( sload (some 15) a fun a4 => sstore 15 b a4 <| sload (some 15) b fun vr => R vr) fun g => sfa 0 a fun a5 => sload none a5 fun a6 => sbin Tryz.prog .none 3 .eql a6 (.int .i64 7) fun a7 => sguard a7 ( sfa 3 a fun a8 => sload none a8 fun a9 => scall Tryz.prog 49 #[a9, .int .i64 5] fun a10 => sfa 3 a fun a11 => sstore 1 a11 a10 <| g []) ( g [])) fun h => sfa 0 a fun a12 => sload none a12 fun a13 => sbin Tryz.prog .none 3 .eql a13 (.int .i64 1) fun a14 => sguard a14 ( sfa 6 a fun a15 => sfa 1 a15 fun a16 => sload none a16 fun a17 => scall Tryz.prog 49 #[a17, .int .i64 3] fun a18 => sbin Tryz.prog .none 3 .add (.int .i64 1) a18 fun a19 => sfa 6 a fun a20 => sfa 1 a20 fun a21 => sstore 1 a21 a19 <| sfa 5 a fun a22 => sstore 1 a22 (.string ⟨#[]⟩) <| sjoin0 ( sjoin0 ( sfa 6 a fun a23 => sfa 3 a23 fun a24 => sload none a24 fun a25 => scall Tryz.prog 49 #[a25, .int .i64 3] fun a26 => sfa 6 a fun a27 => sfa 3 a27 fun a28 => sstore 1 a28 a26 <| sfa 6 a fun a29 => sfa 4 a29 fun a30 => sload none a30 fun a31 => scall Tryz.prog 49 #[a31, .int .i64 3] fun a32 => sfa 6 a fun a33 => sfa 4 a33 fun a34 => sstore 1 a34 a32 <| h []) fun i => sfa 6 a fun a35 => sfa 2 a35 fun a36 => sload none a36 fun a37 => sbin Tryz.prog .none 3 .rem a37 (.int .i64 4) fun a38 => sbin Tryz.prog .none 3 .neq a38 (.int .i64 0) fun a39 => sguard a39 ( sfa 6 a fun a40 => sfa 2 a40 fun a41 => sstore 1 a41 (.int .i64 493) <| i []) ( i [])) fun j => sfa 6 a fun a42 => sfa 1 a42 fun a43 => sload none a43 fun a44 => sbin Tryz.prog .none 3 .eql a44 (.int .i64 3) fun b0 => sguard b0 ( scall Tryz.prog 49 #[d, .int .i64 10] fun b1 => sidx none 1 L b1 fun b2 => sload none b2 fun b3 => sfa 5 a fun b4 => sstore 1 b4 b3 <| j []) ( j [])) ( h [])
theorem S11_ok {v0 : Value} {R : Value → SP} {l : St} (h : S11 v0 R l) : scall Tryz.prog 11 #[v0] R l := sok [v0] (.seq .leaf (.seq .leaf (.seq .leaf (.seq .leaf (.seq .leaf (.seq .leaf (.seq .leaf (.seq .leaf (.seq .leaf (.join [40, 41, 42, 43, 44, 45, 46, 47, 48, 49, 50, 51, 52, 53, 54, 55, 56, 57, 58, 59, 60, 61, 62, 63, 64, 65, 66, 67, 68, 69, 70, 71, 72, 73, 74, 75, 76, 77, 78, 79] [] (.seq .leaf (.cond (.seq .leaf (.seq .leaf (.join [51, 52, 53, 54, 55, 56, 57, 58, 59, 60] [] (.seq .leaf (.cond .leaf .leaf)) (.join [61, 62, 63, 64, 65, 66, 67] [] (.seq .leaf (.cond .leaf .leaf)) (.seq .leaf .leaf))))) .leaf)) (.seq (.draw [(0, []), (1, []), (2, []), (4, []), (5, []), (6, []), (3, [6]), (7, []), (8, []), (9, []), (10, []), (11, [])]) (.join [91, 92, 93, 94, 95, 96, 97] [] (.seq .leaf (.cond .leaf .leaf)) (.seq .leaf .leaf))))))))))))) Tryz.func11 (by kernel_rfl) (by kernel_rfl) h
def S12 (d : Value) (R : Value → SP) : SP := sbuildSlR 9 1 (.string ⟨#[]⟩) 9 #[(0, .string ⟨#[97]⟩), (1, .string ⟨#[98]⟩), (2, .string ⟨#[99]⟩), (3, .string ⟨#[108]⟩), (4, .string ⟨#[46, 46]⟩), (5, .string ⟨#[46]⟩), (6, .string ⟨#[47]⟩), (7, .string ⟨#[47, 47]⟩), (8, .string ⟨#[122, 122]⟩)] fun h => sloop2 (.string ⟨#[]⟩) (.int .i64 0) fun i a b => sjoin1 (fun j => sguard j ( sidx none 1 d b fun k => sload none k fun l => scall Tryz.prog 49 #[l, .int .i64 9] fun m => sidx none 1 h m fun n => sload none n fun e => sjoin1 (fun o => sbin Tryz.prog .none 9 .add o e fun p => sbin Tryz.prog .none 3 .add b (.int .i64 1) fun q => i [p, q]) fun f => sjoin1 (fun r => sguard r ( sbin Tryz.prog .none 9 .add a (.string ⟨#[47]⟩) fun t => f [t]) ( f [a])) fun c => sbin Tryz.prog .none 3 .gtr b (.int .i64 0) fun u => sguard u ( sindex e (.int .i64 0) fun w => sbin Tryz.prog .none 5 .neq w (.int .u8 47) fun x => sguard x ( slen .str a fun y => sbin Tryz.prog .none 3 .sub y (.int .i64 1) fun z => sindex a z fun A => sbin Tryz.prog .none 5 .neq A (.int .u8 47) fun B => c [B]) ( c [.bool false])) ( c [.bool false])) ( R a)) fun g => slen .slice d fun C => sbin Tryz.prog .none 3 .lss b C fun D => sguard D ( sbin Tryz.prog .none 3 .lss b (.int .i64 12) fun E => g [E]) ( g [.bool false])
theorem S12_ok {v0 : Value} {R : Value → SP} {l : St} (h : S12 v0 R l) : scall Tryz.prog 12 #[v0] R l := sok [v0] (.seq .leaf (.seq .leaf (.seq .leaf (.seq (.seq .leaf (.one (.loop [3, 5, 6, 8, 9, 10, 11, 12, 13, 14, 15, 16, 17, 18, 19, 20, 21, 22, 23, 24, 25, 26, 27, 28, 29, 30, 31, 32, 33, 34, 35, 36, 37, 38, 39, 40, 41, 42, 43, 44, 45] [3, 5] (.seq (.join [8, 9, 10, 11, 12, 13, 14, 15] [15] .leaf (.cond .leaf .leaf)) (.seq (.one (.seq .leaf (.join [3, 26, 27, 28, 29, 30, 31, 32, 33, 34, 35, 36, 37, 38, 39, 40, 41, 42] [3] (.join [26, 27, 28, 29, 30, 31, 32, 33, 34, 35, 36, 37, 38, 39, 40] [40] .leaf (.cond .leaf .leaf)) .leaf))) .leaf))))) (.seq .leaf .leaf))))) Tryz.func12 (by kernel_rfl) (by kernel_rfl) h
def S13 (d e f g h i j : Value) (R : Value → SP) : SP := snew (Value.cells f) 27 fun k => snew (Value.cells g) 27 fun l => snew (Value.cells h) 54 fun m => snew #[.int .i64 0, .int .i64 0, .string ⟨#[]⟩, .int .i64 0, .int .i64 0, .bool false, .bool false] 48 fun b => sload (some 2) k fun n => sload (some 2) l fun o => sload (some 2) m fun p => scall Tryz.prog 50 #[d, e, n, o, p, i, j] fun a => sext a 0 fun q => sext a 1 fun r => sext a 2 fun _ => snew #[.int .i64 0, .int .i64 0, .string ⟨#[]⟩, .int .i64 0, .int .i64 0, .bool false, .bool false] 48 fun c => sstore 7 c q <| sload (some 7) c fun t => sstore 7 b t <| sload (some 7) b fun vr => R (.tuple #[vr, r])
theorem S13_ok {v0 v1 v2 v3 v4 v5 v6 : Value} {R : Value → SP} {l : St} (h : S13 v0 v1 v2 v3 v4 v5 v6 R l) : scall Tryz.prog 13 #[v0, v1, v2, v3, v4, v5, v6] R l := sok [v0, v1, v2, v3, v4, v5, v6] (.seq .leaf (.seq .leaf (.seq .leaf .leaf))) Tryz.func13 (by kernel_rfl) (by kernel_rfl) h
def S14 (R : Value → SP) : SP := snew #[.int .i64 0, .int .i64 0] 27 fun a => sbuildR [(0, 1), (1, 1)] #[.int .i64 0, .int .i64 0] #[(0, .int .i64 0), (1, .int .i64 1)] fun b => sstore 2 a b <| sload (some 2) a fun vr => R vr
theorem S14_ok {R : Value → SP} {l : St} (h : S14 R l) : scall Tryz.prog 14 #[] R l := sok [] (.seq .leaf (.seq .leaf .leaf)) Tryz.func14 (by kernel_rfl) (by kernel_rfl) h
def S15 (c d e : Value) (R : Value → SP) : SP := scall Tryz.prog 51 #[c, d] fun a => sbin Tryz.prog .pointer 109 .eql a (.pointer none) fun f => sguard f ( R (.tuple #[.int .i64 0, .bool false])) ( snil a fun g => sfa 7 g fun h => sload none h fun i => slookup .string (some (.int .i64 0)) i e true fun b => sext b 0 fun j => sext b 1 fun k => R (.tuple #[j, k]))
theorem S15_ok {v0 v1 v2 : Value} {R : Value → SP} {l : St} (h : S15 v0 v1 v2 R l) : scall Tryz.prog 15 #[v0, v1, v2] R l := sok [v0, v1, v2] (.seq .leaf (.seq .leaf (.seq (.seq .leaf (.cond (.seq .leaf .leaf) .leaf)) (.seq .leaf (.seq .leaf .leaf))))) Tryz.func15 (by kernel_rfl) (by kernel_rfl) h
def S16 (d i : Value) (R : Value → SP) : SP := snew #[.int .i64 0, .int .i64 0, .int .i64 0, .int .i64 0, .int .i64 0, .int .i64 0, .int .i64 0] 42 fun c => snil d fun j => sfa 2 j fun k => sload none k fun l => slookup (.int .i64) (some (.pointer none)) l i false fun b => sbin Tryz.prog .pointer 109 .eql b (.pointer none) fun m => sguard m ( sbuildR [(0, 1), (1, 1), (2, 1), (3, 1), (4, 1), (5, 1), (6, 1)] #[.int .i64 0, .int .i64 0, .int .i64 0, .int .i64 0, .int .i64 0, .int .i64 0, .int .i64 0] #[] fun n => sstore 7 c n <| sload (some 7) c fun vr => R (.tuple #[vr, .bool false])) ( snil b fun o => sfa 0 o fun p => sload (some 7) p fun q => snew #[.int .i64 0, .int .i64 0, .int .i64 0, .int .i64 0, .int .i64 0, .int .i64 0, .int .i64 0] 42 fun a => sstore 7 a q <| snil b fun r => sfa 9 r fun t => sload none t fun u => sfa 5 a fun w => sstore 1 w u <| sjoin0 ( sload (some 7) a fun x => sstore 7 c x <| sload (some 7) c fun y => R (.tuple #[y, .bool true])) fun e => sfa 1 a fun z => sload none z fun f => sbin Tryz.prog .none 3 .eql f (.int .i64 1) fun A => sguard A ( snil b fun B => sfa 7 B fun g => sload none g fun h => scall Tryz.prog 52 #[d, b] fun C => sand (sload none g fun v' _ => v' = h) <| slen .map h fun D => sfa 5 a fun E => sstore 1 E C <| sfa 6 a fun F => sstore 1 F D <| e []) ( sbin Tryz.prog .none 3 .eql f (.int .i64 2) fun G => sguard G ( snil d fun H => sfa 1 H fun K => sload none K fun L => snil b fun M => sfa 12 M fun N => sload none N fun O => scall Tryz.prog 53 #[L, O] fun Q => sfa 6 a fun T => sstore 1 T Q <| e []) ( snil b fun U => sfa 11 U fun V => sload none V fun W => slen .str W fun X => sfa 6 a fun Y => sstore 1 Y X <| e [])))
theorem S16_ok {v0 v1 : Value} {R : Value → SP} {l : St} (h : S16 v0 v1 R l) : scall Tryz.prog 16 #[v0, v1] R l := sok [v0, v1] (.seq .leaf (.seq .leaf (.seq (.seq .leaf (.cond (.seq .leaf .leaf) .leaf)) (.seq .leaf (.seq .leaf (.join [26, 27, 28, 29, 30, 31, 32, 33, 34, 35, 36, 37, 38, 39, 40, 41, 42, 43, 44, 45, 46, 47, 48, 49, 50, 51, 52, 53, 54, 55, 56, 57] [] (.seq .leaf (.one (.seq .leaf (.cond (.draw [(0, []), (1, []), (3, []), (4, []), (5, []), (6, []), (2, [6]), (7, []), (8, []), (9, []), (10, []), (11, [])]) (.seq .leaf (.cond (.draw [(0, []), (1, []), (2, []), (3, []), (4, []), (5, []), (6, []), (7, []), (8, []), (9, []), (10, [])]) .leaf)))))) (.seq .leaf .leaf))))))) Tryz.func16 (by kernel_rfl) (by kernel_rfl) h
def S17 (c d : Value) (R : Value → SP) : SP := scall Tryz.prog 51 #[c, d] fun b => sbin Tryz.prog .pointer 109 .eql b (.pointer none) fun e => sguard e ( R (.slice none 0 0)) ( snew #[.slice none 0 0] 59 fun a => scall Tryz.prog 54 #[b] fun f => srangeX Tryz.prog f 1 (fun xs1 cont1 _ => sarg xs1 0 fun g => sload none a fun h => sbuildSlR 9 1 (.string ⟨#[]⟩) 1 #[(0, g)] fun i => sbuiltin Tryz.prog .append #[59, 59] 59 #[false, false] #[h, i] fun j => sstore 1 a j <| cont1) ( sload none a fun k => R k) ( R (.slice none 0 0)) [])
theorem S17_ok {v0 v1 : Value} {R : Value → SP} {l : St} (h : S17 v0 v1 R l) : scall Tryz.prog 17 #[v0, v1] R l := sok [v0, v1] (.seq .leaf (.seq .leaf (.seq (.seq .leaf (.cond (.seq .leaf .leaf) .leaf)) (.seq .leaf (.seq (.seq .leaf (.one (.range [] .leaf (.one .leaf)))) (.seq .leaf .leaf)))))) Tryz.func17 (by kernel_rfl) (by kernel_rfl) h
def S18 (d e f : Value) (R : Value → SP) : SP := snew (Value.cells d) 29 fun g => snew (Value.cells e) 67 fun h => snew (Value.cells f) 69 fun i => snew #[.int .i64 0, .int .i64 0, .slice none 0 0, .slice none 0 0, .int .i64 0, .int .i64 0, .int .i64 0, .int .i64 0, .int .i64 0, .int .i64 0, .int .i64 0] 63 fun a => snew #[.int .i64 0, .int .i64 0] 27 fun b => sload (some 4) g fun j => sload (some 4) h fun k => sload (some 9) i fun l => scall Tryz.prog 55 #[j, k, l, .func (.func 56) #[] #[]] fun c => sext c 0 fun m => sext c 1 fun n => sstore 11 a m <| sstore 2 b n <| sload (some 11) a fun vr => sload (some 2) b fun o => R (.tuple #[vr, o])
theorem S18_ok {v0 v1 v2 : Value} {R : Value → SP} {l : St} (h : S18 v0 v1 v2 R l) : scall Tryz.prog 18 #[v0, v1, v2] R l := sok [v0, v1, v2] (.seq .leaf (.seq .leaf .leaf)) Tryz.func18 (by kernel_rfl) (by kernel_rfl) h
def S19 (b c d : Value) (R : Value → SP) : SP := snew #[.int .i64 0, .string ⟨#[]⟩, .string ⟨#[]⟩, .int .i64 0, .int .i64 0, .int .i64 0, .int .i64 0, .int .i64 0, .slice none 0 0] 69 fun a => sbuildR [(0, 1), (1, 1), (2, 1), (3, 1), (4, 1), (5, 1), (6, 1), (7, 1), (8, 1)] #[.int .i64 0, .string ⟨#[]⟩, .string ⟨#[]⟩, .int .i64 0, .int .i64 0, .int .i64 0, .int .i64 0, .int .i64 0, .slice none 0 0] #[(0, b), (1, c), (2, d)] fun e => sstore 9 a e <| sload (some 9) a fun vr => R vr
theorem S19_ok {v0 v1 v2 : Value} {R : Value → SP} {l : St} (h : S19 v0 v1 v2 R l) : scall Tryz.prog 19 #[v0, v1, v2] R l := sok [v0, v1, v2] (.seq .leaf (.seq .leaf .leaf)) Tryz.func19 (by kernel_rfl) (by kernel_rfl) h
def S20 (R : Value → SP) : SP := scall Tryz.prog 9 #[] fun c => sext c 0 fun t => sext c 1 fun u => snew #[.pointer none, .pointer none, .int .i64 0, .int .i64 0, .pointer none, .pointer none, .int .i64 0, .int .i64 0, .slice none 0 0] 35 fun b => sstore 9 b t <| sun .not u fun w => sguard w ( R (.bool false)) ( scall Tryz.prog 14 #[] fun x => sbuildR [(0, 2), (2, 2)] #[.int .i64 0, .int .i64 0, .int .i64 0, .int .i64 0] #[(0, x)] fun y => snew #[.int .i64 0, .int .i64 0, .int .i64 0, .int .i64 0] 67 fun a => sstore 4 a y <| sfa 0 b fun d => sload (some 4) d fun e => sload (some 4) a fun f => scall Tryz.prog 27 #[.string ⟨#[47, 97]⟩, .int .i64 493] fun z => sand (sload (some 4) a fun v' _ => v' = f) <| sand (sload (some 4) d fun v' _ => v' = e) <| scall Tryz.prog 18 #[e, f, z] fun g => sext g 0 fun A => sext g 1 fun B => snew #[.int .i64 0, .int .i64 0, .slice none 0 0, .slice none 0 0, .int .i64 0, .int .i64 0, .int .i64 0, .int .i64 0, .int .i64 0, .int .i64 0, .int .i64 0] 63 fun h => snew #[.int .i64 0, .int .i64 0] 27 fun C => sstore 11 h A <| sstore 2 C B <| sfa 0 b fun i => sload (some 4) i fun j => sload (some 4) a fun k => scall Tryz.prog 27 #[.string ⟨#[47, 97]⟩, .int .i64 493] fun D => sand (sload (some 4) a fun v' _ => v' = k) <| sand (sload (some 4) i fun v' _ => v' = j) <| scall Tryz.prog 18 #[j, k, D] fun l => sext l 0 fun E => sext l 1 fun F => snew #[.int .i64 0, .int .i64 0, .slice none 0 0, .slice none 0 0, .int .i64 0, .int .i64 0, .int .i64 0, .int .i64 0, .int .i64 0, .int .i64 0, .int .i64 0] 63 fun m => snew #[.int .i64 0, .int .i64 0] 27 fun G => sstore 11 m E <| sstore 2 G F <| sfa 0 b fun n => sload (some 4) n fun o => sload (some 4) a fun p => scall Tryz.prog 19 #[.int .i64 13, .string ⟨#[47, 97]⟩, .string ⟨#[47, 97, 47, 98]⟩] fun H => sand (sload (some 4) a fun v' _ => v' = p) <| sand (sload (some 4) n fun v' _ => v' = o) <| scall Tryz.prog 18 #[o, p, H] fun q => sext q 0 fun K => sext q 1 fun L => snew #[.int .i64 0, .int .i64 0, .slice none 0 0, .slice none 0 0, .int .i64 0, .int .i64 0, .int .i64 0, .int .i64 0, .int .i64 0, .int .i64 0, .int .i64 0] 63 fun r => snew #[.int .i64 0, .int .i64 0] 27 fun M => sstore 11 r K <| sstore 2 M L <| sfa 0 h fun N => sload none N fun O => sbin Tryz.prog .none 49 .eql O (.int .i64 0) fun Q => sguard Q ( sfa 0 m fun T => sload none T fun U => sbin Tryz.prog .none 49 .eql U (.int .i64 35) fun V => sguard V ( sfa 0 r fun W => sload none W fun X => sbin Tryz.prog .none 49 .eql X (.int .i64 39) fun Y => sguard Y ( scall Tryz.prog 29 #[.int .i64 1] fun Z => sguard Z ( scall Tryz.prog 29 #[.int .i64 3] fun a0 => sun .not a0 fun a1 => R a1) ( R (.bool false))) ( R (.bool false))) ( R (.bool false))) ( R (.bool false)))
theorem S20_ok {R : Value → SP} {l : St} (h : S20 R l) : scall Tryz.prog 20 #[] R l := sok [] (.seq .leaf (.seq .leaf (.seq (.seq .leaf (.cond (.seq .leaf .leaf) .leaf)) (.seq .leaf (.seq (.draw [(0, []), (1, []), (2, []), (3, [1, 2]), (4, []), (5, []), (6, []), (7, []), (8, []), (9, []), (10, []), (11, [])]) (.seq (.draw [(0, []), (1, []), (2, []), (3, [1, 2]), (4, []), (5, []), (6, []), (7, []), (8, []), (9, []), (10, []), (11, [])]) (.seq (.draw [(0, []), (1, []), (2, []), (3, [1, 2]), (4, []), (5, []), (6, []), (7, []), (8, []), (9, []), (10, []), (11, [])]) (.seq .leaf .leaf)))))))) Tryz.func20 (by kernel_rfl) (by kernel_rfl) h
def S21 (b c : Value) (R : Value → SP) : SP := slen .slice b fun d => slen .slice c fun e => sbin Tryz.prog .none 3 .neq d e fun f => sguard f ( R (.bool false)) ( sloop1 (.int .i64 0) fun g a => slen .slice b fun h => sbin Tryz.prog .none 3 .lss a h fun i => sguard i ( sidx none 1 b a fun j => sload none j fun k => sidx none 1 c a fun l => sload none l fun m => sbin Tryz.prog .none 9 .neq k m fun n => sguard n ( R (.bool false)) ( sbin Tryz.prog .none 3 .add a (.int .i64 1) fun o => g [o])) ( R (.bool true)))
theorem S21_ok {v0 v1 : Value} {R : Value → SP} {l : St} (h : S21 v0 v1 R l) : scall Tryz.prog 21 #[v0, v1] R l := sok [v0, v1] (.seq .leaf (.seq (.seq .leaf (.cond (.seq .leaf .leaf) .leaf)) (.seq (.seq .leaf (.one (.loop [4, 5, 11, 12, 13, 14, 15, 16, 17, 18, 19, 20, 21, 22, 23, 24, 25] [5] (.seq (.seq .leaf (.cond .leaf .leaf)) (.seq (.one (.seq (.draw [(0, []), (1, []), (2, []), (3, []), (4, []), (5, []), (6, []), (7, []), (8, [])]) (.cond (.seq .leaf .leaf) .leaf))) .leaf))))) (.seq .leaf .leaf)))) Tryz.func21 (by kernel_rfl) (by kernel_rfl) h
def S22 (a c d : Value) (R : Value → SP) : SP := snil a fun e => sfa 2 e fun f => sload none f fun g => slookup (.int .i64) (some (.pointer none)) g c false fun b => sbin Tryz.prog .pointer 109 .eql b (.pointer none) fun h => sguard h ( R (.int .i64 1)) ( snil a fun i => sfa 4 i fun j => sload none j fun k => sbin Tryz.prog .none 3 .add k (.int .i64 1) fun l => snil a fun m => sfa 4 m fun n => sstore 1 n l <| scall Tryz.prog 57 #[d] fun o => snil b fun p => sfa 0 p fun q => sfa 2 q fun r => sstore 1 r o <| R (.int .i64 0))
theorem S22_ok {v0 v1 v2 : Value} {R : Value → SP} {l : St} (h : S22 v0 v1 v2 R l) : scall Tryz.prog 22 #[v0, v1, v2] R l := sok [v0, v1, v2] (.seq .leaf (.seq .leaf (.seq (.seq .leaf (.cond (.seq .leaf .leaf) .leaf)) (.seq .leaf (.seq .leaf (.seq .leaf .leaf)))))) Tryz.func22 (by kernel_rfl) (by kernel_rfl) h
def S23 (b c d : Value) (R : Value → SP) : SP := scall Tryz.prog 58 #[b, c] fun a => sbin Tryz.prog .pointer 123 .eql a (.pointer none) fun e => sguard e ( R (.int .i64 1)) ( scall Tryz.prog 59 #[d] fun f => snil a fun g => sfa 0 g fun h => sfa 2 h fun i => sstore 1 i f <| R (.int .i64 0))
theorem S23_ok {v0 v1 v2 : Value} {R : Value → SP} {l : St} (h : S23 v0 v1 v2 R l) : scall Tryz.prog 23 #[v0, v1, v2] R l := sok [v0, v1, v2] (.seq .leaf (.seq .leaf (.seq (.seq .leaf (.cond (.seq .leaf .leaf) .leaf)) (.seq .leaf (.seq .leaf .leaf))))) Tryz.func23 (by kernel_rfl) (by kernel_rfl) h
def S27 (b c : Value) (R : Value → SP) : SP := snew #[.int .i64 0, .string ⟨#[]⟩, .string ⟨#[]⟩, .int .i64 0, .int .i64 0, .int .i64 0, .int .i64 0, .int .i64 0, .slice none 0 0] 69 fun a => sbuildR [(0, 1), (1, 1), (2, 1), (3, 1), (4, 1), (5, 1), (6, 1), (7, 1), (8, 1)] #[.int .i64 0, .string ⟨#[]⟩, .string ⟨#[]⟩, .int .i64 0, .int .i64 0, .int .i64 0, .int .i64 0, .int .i64 0, .slice none 0 0] #[(0, .int .i64 1), (1, b), (5, c)] fun d => sstore 9 a d <| sload (some 9) a fun vr => R vr
theorem S27_ok {v0 v1 : Value} {R : Value → SP} {l : St} (h : S27 v0 v1 R l) : scall Tryz.prog 27 #[v0, v1] R l := sok [v0, v1] (.seq .leaf (.seq .leaf .leaf)) Tryz.func27 (by kernel_rfl) (by kernel_rfl) h
def S29 (a : Value) (R : Value → SP) : SP := sjoin1 (fun q => sguard q ( R (.bool true)) ( R (.bool false))) fun b => sbin Tryz.prog .none 3 .eql a (.int .i64 1) fun c => sguard c ( b [c]) ( sbin Tryz.prog .none 3 .eql a (.int .i64 2) fun d => sguard d ( b [d]) ( sbin Tryz.prog .none 3 .eql a (.int .i64 8) fun e => sguard e ( b [e]) ( sbin Tryz.prog .none 3 .eql a (.int .i64 9) fun f => sguard f ( b [f]) ( sbin Tryz.prog .none 3 .eql a (.int .i64 10) fun g => sguard g ( b [g]) ( sbin Tryz.prog .none 3 .eql a (.int .i64 11) fun h => sguard h ( b [h]) ( sbin Tryz.prog .none 3 .eql a (.int .i64 12) fun i => sguard i ( b [i]) ( sbin Tryz.prog .none 3 .eql a (.int .i64 13) fun j => sguard j ( b [j]) ( sbin Tryz.prog .none 3 .eql a (.int .i64 14) fun k => sguard k ( b [k]) ( sbin Tryz.prog .none 3 .eql a (.int .i64 15) fun l => sguard l ( b [l]) ( sbin Tryz.prog .none 3 .eql a (.int .i64 16) fun m => sguard m ( b [m]) ( sbin Tryz.prog .none 3 .eql a (.int .i64 17) fun n => sguard n ( b [n]) ( sbin Tryz.prog .none 3 .eql a (.int .i64 18) fun o => sguard o ( b [o]) ( sbin Tryz.prog .none 3 .eql a (.int .i64 19) fun p => sguard p ( b [p]) ( sbin Tryz.prog .none 3 .eql a (.int .i64 20) fun r => b [r]))))))))))))))
theorem S29_ok {v0 : Value} {R : Value → SP} {l : St} (h : S29 v0 R l) : scall Tryz.prog 29 #[v0] R l := sok [v0] (.seq .leaf (.seq (.seq .leaf (.one (.join [4, 5, 6, 7, 8, 9, 10, 11, 12, 13, 14, 15, 16, 17, 18, 19] [4] (.seq .leaf (.cond .leaf (.seq .leaf (.cond .leaf (.seq .leaf (.cond .leaf (.seq .leaf (.cond .leaf (.seq .leaf (.cond .leaf (.seq .leaf (.cond .leaf (.seq .leaf (.cond .leaf (.seq .leaf (.cond .leaf (.seq .leaf (.cond .leaf (.seq .leaf (.cond .leaf (.seq .leaf (.cond .leaf (.seq .leaf (.cond .leaf (.seq .leaf (.cond .leaf (.seq .leaf (.cond .leaf .leaf)))))))))))))))))))))))))))) (.cond (.seq .leaf .leaf) .leaf)))) (.seq .leaf .leaf))) Tryz.func29 (by kernel_rfl) (by kernel_rfl) h
end Go.Sl
namespace Go.Sl
variable [Ghost]
open Go Go.Proofs
def S34 (b c : Value) (R : Value → SP) : SP := snil b fun d => sfa 2 d fun e => sload none e fun f => slookup (.int .i64) (some (.pointer none)) f c false fun a => sbin Tryz.prog .pointer 109 .eql a (.pointer none) fun g => sguard g ( R (.string ⟨#[]⟩)) ( snil a fun h => sfa 11 h fun i => sload none i fun j => R j)
theorem S34_ok {v0 v1 : Value} {R : Value → SP} {l : St} (h : S34 v0 v1 R l) : scall Tryz.prog 34 #[v0, v1] R l := sok [v0, v1] (.seq .leaf (.seq .leaf (.seq (.seq .leaf (.cond (.seq .leaf .leaf) .leaf)) (.seq .leaf .leaf)))) Tryz.func34 (by kernel_rfl) (by kernel_rfl) h
def S35 (R : Value → SP) : SP := snew #[.pointer none, .pointer none, .pointer none, .pointer none] 39 fun a => scall Tryz.prog 70 #[.int .i64 40, .int .i64 20] fun d => sext d 0 fun e => sext d 1 fun g => scall Tryz.prog 71 #[.int .i64 40, .int .i64 20] fun f => sext f 0 fun h => sext f 1 fun _ => scall Tryz.prog 72 #[.int .i64 1] fun i => scall Tryz.prog 73 #[.int .i64 1] fun j => sbuildR [(0, 1), (1, 1), (2, 1), (3, 1)] #[.pointer none, .pointer none, .pointer none, .pointer none] #[(0, e), (1, i), (2, h), (3, j)] fun k => snew #[.pointer none, .pointer none, .pointer none, .pointer none] 39 fun b => sstore 4 b k <| sload (some 4) b fun c => sbin Tryz.prog .pointer 24 .neq e (.pointer none) fun l => sguard l ( sfa 1 b fun m => sload none m fun n => sbin Tryz.prog .pointer 25 .neq n (.pointer none) fun o => sguard o ( sbin Tryz.prog .none 49 .eql g (.int .i64 0) fun p => sstore 4 a c <| sload (some 4) a fun vr => R (.tuple #[vr, p])) ( sstore 4 a c <| sload (some 4) a fun q => R (.tuple #[q, .bool false]))) ( sstore 4 a c <| sload (some 4) a fun r => R (.tuple #[r, .bool false]))
theorem S35_ok {R : Value → SP} {l : St} (h : S35 R l) : scall Tryz.prog 35 #[] R l := sok [] (.seq .leaf (.seq .leaf (.seq .leaf (.seq .leaf (.seq .leaf .leaf))))) Tryz.func35 (by kernel_rfl) (by kernel_rfl) h
def S36 (a j e k f : Value) (R : Value → SP) : SP := snew (Value.cells k) 42 fun c => scall Tryz.prog 51 #[a, j] fun d => sjoin1 (fun l => sguard l ( R (.tuple #[.int .i64 0, .int .i64 1])) ( scall Tryz.prog 75 #[a, d, e] fun g => sbin Tryz.prog .none 49 .neq g (.int .i64 0) fun m => sguard m ( R (.tuple #[.int .i64 0, g])) ( sjoin1 (fun n => sguard n ( R (.tuple #[.int .i64 0, .int .i64 44])) ( snil a fun o => sfa 2 o fun p => sload none p fun q => slen .map q fun r => snil a fun t => sfa 0 t fun u => sload none u fun w => sbin Tryz.prog .none 3 .geq r w fun x => sguard x ( R (.tuple #[.int .i64 0, .int .i64 43])) ( sload (some 7) c fun y => scall Tryz.prog 76 #[a, y, f] fun h => scall Tryz.prog 77 #[a, d, e, h] fun _ => snil h fun z => sfa 0 z fun A => sfa 0 A fun B => sload none B fun C => R (.tuple #[C, .int .i64 0])))) fun i => sfa 1 c fun D => sload none D fun E => sbin Tryz.prog .none 3 .eql E (.int .i64 1) fun F => sguard F ( scall Tryz.prog 52 #[a, d] fun G => sbin Tryz.prog .none 3 .geq G (.int .i64 16) fun H => i [H]) ( i [.bool false])))) fun b => sbin Tryz.prog .pointer 109 .eql d (.pointer none) fun K => sguard K ( b [.bool true]) ( scall Tryz.prog 74 #[e] fun L => sun .not L fun M => sguard M ( b [.bool true]) ( sfa 1 c fun N => sload none N fun O => sbin Tryz.prog .none 3 .lss O (.int .i64 1) fun Q => sguard Q ( b [.bool true]) ( sfa 1 c fun T => sload none T fun U => sbin Tryz.prog .none 3 .gtr U (.int .i64 3) fun V => sguard V ( b [.bool true]) ( sbin Tryz.prog .none 9 .neq f (.string ⟨#[]⟩) fun W => sguard W ( sfa 1 c fun X => sload none X fun Y => sbin Tryz.prog .none 3 .neq Y (.int .i64 3) fun Z => b [Z]) ( b [.bool false])))))
theorem S36_ok {v0 v1 v2 v3 v4 : Value} {R : Value → SP} {l : St} (h : S36 v0 v1 v2 v3 v4 R l) : scall Tryz.prog 36 #[v0, v1, v2, v3, v4] R l := sok [v0, v1, v2, v3, v4] (.seq .leaf (.seq .leaf (.seq (.join [18, 19, 20, 21, 22, 23, 24, 25, 26, 27, 28, 29, 30, 31, 32, 33, 34, 35, 36, 37, 38, 39, 40, 41, 42, 43] [43] .leaf (.cond (.seq .leaf .leaf) .leaf)) (.seq (.seq .leaf (.seq .leaf (.cond (.seq .leaf .leaf) .leaf))) (.seq (.one (.join [51, 52, 53, 54, 55, 56, 57, 58, 59, 60] [51] .leaf (.cond (.seq .leaf .leaf) (.seq (.draw [(0, []), (1, []), (2, []), (3, []), (4, []), (5, []), (6, []), (7, []), (8, []), (9, []), (10, [])]) (.cond (.seq .leaf .leaf) .leaf))))) (.seq .leaf (.seq .leaf (.seq .leaf .leaf)))))))) Tryz.func36 (by kernel_rfl) (by kernel_rfl) h
def S37 (a d e r g : Value) (R : Value → SP) : SP := snew (Value.cells r) 42 fun b => scall Tryz.prog 78 #[a, d] fun h => sjoin1 (fun t => sguard t ( R (.tuple #[.int .i64 0, .int .i64 1])) ( scall Tryz.prog 80 #[h, e] fun u => sbin Tryz.prog .none 3 .geq u (.int .i64 0) fun w => sguard w ( R (.tuple #[.int .i64 0, .int .i64 35])) ( scall Tryz.prog 81 #[a, d] fun x => sguard x ( R (.tuple #[.int .i64 0, .int .i64 32])) ( sjoin1 (fun y => sguard y ( R (.tuple #[.int .i64 0, .int .i64 44])) ( scall Tryz.prog 83 #[a] fun z => sbin Tryz.prog .none 3 .eql z (.int .i64 0) fun A => sguard A ( R (.tuple #[.int .i64 0, .int .i64 43])) ( snil a fun B => sfa 2 B fun C => sload none C fun D => slen .slice D fun E => sbin Tryz.prog .none 3 .add E (.int .i64 1) fun f => sfa 1 b fun i => sload none i fun j => sfa 2 b fun F => sload none F fun G => sfa 3 b fun k => sload none k fun l => sfa 4 b fun m => sload none m fun n => scall Tryz.prog 59 #[G] fun H => sand (sload none m fun v' _ => v' = n) <| sand (sload none k fun v' _ => v' = l) <| sand (sload none i fun v' _ => v' = j) <| sbuildR [(0, 1), (1, 1), (2, 1), (3, 1), (4, 1), (5, 1), (6, 1)] #[.int .i64 0, .int .i64 0, .int .i64 0, .int .i64 0, .int .i64 0, .int .i64 0, .int .i64 0] #[(0, f), (1, j), (2, H), (3, l), (4, n)] fun K => sbuildR [(0, 7), (7, 1), (8, 1), (9, 1), (10, 1), (11, 1), (12, 1)] #[.int .i64 0, .int .i64 0, .int .i64 0, .int .i64 0, .int .i64 0, .int .i64 0, .int .i64 0, .string ⟨#[]⟩, .slice none 0 0, .int .i64 0, .int .i64 0, .int .i64 0, .int .i64 0] #[(0, K), (1, g)] fun L => snew (Value.cells L) 127 fun o => sjoin0 ( snil a fun M => sfa 2 M fun N => sload none N fun O => sbuildSlR 123 1 (.pointer none) 1 #[(0, o)] fun Q => sbuiltin Tryz.prog .append #[148, 148] 148 #[false, false] #[O, Q] fun T => snil a fun U => sfa 2 U fun V => sstore 1 V T <| scall Tryz.prog 85 #[a, d, e, f] fun _ => R (.tuple #[f, .int .i64 0])) fun p => sfa 1 b fun W => sload none W fun X => sbin Tryz.prog .none 3 .eql X (.int .i64 2) fun Y => sguard Y ( snil a fun Z => sfa 1 Z fun a0 => sload none a0 fun a1 => scall Tryz.prog 84 #[a1] fun a2 => snil o fun a3 => sfa 12 a3 fun a4 => sstore 1 a4 a2 <| p []) ( p [])))) fun q => sfa 1 b fun a5 => sload none a5 fun a6 => sbin Tryz.prog .none 3 .eql a6 (.int .i64 1) fun a7 => sguard a7 ( scall Tryz.prog 82 #[a, d] fun a8 => sbin Tryz.prog .none 3 .geq a8 (.int .i64 16) fun a9 => q [a9]) ( q [.bool false]))))) fun c => sbin Tryz.prog .pointer 123 .eql h (.pointer none) fun a10 => sguard a10 ( c [.bool true]) ( scall Tryz.prog 79 #[e] fun a11 => sun .not a11 fun a12 => sguard a12 ( c [.bool true]) ( sfa 1 b fun a13 => sload none a13 fun a14 => sbin Tryz.prog .none 3 .lss a14 (.int .i64 1) fun a15 => sguard a15 ( c [.bool true]) ( sfa 1 b fun a16 => sload none a16 fun a17 => sbin Tryz.prog .none 3 .gtr a17 (.int .i64 3) fun a18 => sguard a18 ( c [.bool true]) ( sbin Tryz.prog .none 9 .neq g (.string ⟨#[]⟩) fun a19 => sguard a19 ( sfa 1 b fun a20 => sload none a20 fun a21 => sbin Tryz.prog .none 3 .neq a21 (.int .i64 3) fun a22 => c [a22]) ( c [.bool false])))))
theorem S37_ok {v0 v1 v2 v3 v4 : Value} {R : Value → SP} {l : St} (h : S37 v0 v1 v2 v3 v4 R l) : scall Tryz.prog 37 #[v0, v1, v2, v3, v4] R l := sok [v0, v1, v2, v3, v4] (.seq .leaf (.seq .leaf (.seq (.join [18, 19, 20, 21, 22, 23, 24, 25, 26, 27, 28, 29, 30, 31, 32, 33, 34, 35, 36, 37, 38, 39, 40, 41, 42, 43] [43] .leaf (.cond (.seq .leaf .leaf) .leaf)) (.seq (.seq .leaf (.cond (.seq .leaf .leaf) .leaf)) (.seq (.seq .leaf (.cond (.seq .leaf .leaf) .leaf)) (.seq (.join [51, 52, 53, 54, 55, 56, 57, 58, 59] [59] .leaf (.cond (.seq .leaf .leaf) .leaf)) (.seq (.seq .leaf (.cond (.seq .leaf .leaf) .leaf)) (.seq .leaf (.seq (.draw [(0, []), (1, []), (2, []), (3, []), (4, []), (6, []), (7, []), (8, []), (9, []), (11, []), (5, [2, 7, 9]), (10, []), (12, []), (13, []), (14, [])]) (.join [83, 84, 85, 86, 87, 88, 89, 90, 91, 92, 93] [] (.seq .leaf (.cond .leaf .leaf)) (.seq .leaf (.seq .leaf (.seq .leaf .leaf))))))))))))) Tryz.func37 (by kernel_rfl) (by kernel_rfl) h
def S38 (b j d g : Value) (R : Value → SP) : SP := snil b fun k => sfa 2 k fun h => sload none h fun e => slookup (.int .i64) (some (.pointer none)) e g false fun a => scall Tryz.prog 51 #[b, j] fun f => sand (slookup (.int .i64) (some (.pointer none)) e g false fun v' _ => v' = a) <| sand (sload none h fun v' _ => v' = e) <| sjoin1 (fun l => sguard l ( R (.int .i64 1)) ( scall Tryz.prog 75 #[b, f, d] fun i => sbin Tryz.prog .none 49 .neq i (.int .i64 0) fun m => sguard m ( R i) ( snil a fun n => sfa 9 n fun o => sload none o fun p => sbin Tryz.prog .none 3 .geq p (.int .i64 16) fun q => sguard q ( R (.int .i64 44)) ( scall Tryz.prog 77 #[b, f, d, a] fun _ => R (.int .i64 0))))) fun c => sbin Tryz.prog .pointer 109 .eql f (.pointer none) fun r => sguard r ( c [.bool true]) ( sbin Tryz.prog .pointer 109 .eql a (.pointer none) fun t => sguard t ( c [.bool true]) ( snil a fun u => sfa 0 u fun w => sfa 1 w fun x => sload none x fun y => sbin Tryz.prog .none 3 .eql y (.int .i64 1) fun z => sguard z ( c [.bool true]) ( scall Tryz.prog 74 #[d] fun A => sun .not A fun B => c [B])))
theorem S38_ok {v0 v1 v2 v3 : Value} {R : Value → SP} {l : St} (h : S38 v0 v1 v2 v3 R l) : scall Tryz.prog 38 #[v0, v1, v2, v3] R l := sok [v0, v1, v2, v3] (.seq .leaf (.seq (.draw [(0, []), (1, []), (3, []), (4, []), (5, []), (6, []), (7, []), (8, []), (2, [6, 8]), (9, []), (10, [])]) (.seq (.join [21, 22, 23, 24, 25, 26, 27, 28, 29, 30, 31, 32, 33, 34, 35, 36, 37, 38, 39] [39] .leaf (.cond (.seq .leaf .leaf) .leaf)) (.seq (.seq .leaf (.seq .leaf (.cond (.seq .leaf .leaf) .leaf))) (.seq (.seq .leaf (.cond (.seq .leaf .leaf) .leaf)) (.seq .leaf (.seq .leaf .leaf))))))) Tryz.func38 (by kernel_rfl) (by kernel_rfl) h
def S39 (a c d f : Value) (R : Value → SP) : SP := scall Tryz.prog 78 #[a, c] fun g => scall Tryz.prog 58 #[a, f] fun e => sjoin1 (fun h => sguard h ( R (.int .i64 1)) ( scall Tryz.prog 80 #[g, d] fun i => sbin Tryz.prog .none 3 .geq i (.int .i64 0) fun j => sguard j ( R (.int .i64 35)) ( scall Tryz.prog 81 #[a, c] fun k => sguard k ( R (.int .i64 32)) ( snil e fun l => sfa 10 l fun m => sload none m fun n => sbin Tryz.prog .none 3 .geq n (.int .i64 16) fun o => sguard o ( R (.int .i64 44)) ( scall Tryz.prog 85 #[a, c, d, f] fun _ => R (.int .i64 0)))))) fun b => sbin Tryz.prog .pointer 123 .eql g (.pointer none) fun p => sguard p ( b [.bool true]) ( sbin Tryz.prog .pointer 123 .eql e (.pointer none) fun q => sguard q ( b [.bool true]) ( scall Tryz.prog 79 #[d] fun r => sun .not r fun t => sguard t ( b [.bool true]) ( snil e fun u => sfa 0 u fun w => sfa 1 w fun x => sload none x fun y => sbin Tryz.prog .none 3 .eql y (.int .i64 1) fun z => b [z])))
theorem S39_ok {v0 v1 v2 v3 : Value} {R : Value → SP} {l : St} (h : S39 v0 v1 v2 v3 R l) : scall Tryz.prog 39 #[v0, v1, v2, v3] R l := sok [v0, v1, v2, v3] (.seq .leaf (.seq .leaf (.seq .leaf (.seq (.join [17, 18, 19, 20, 21, 22, 23, 24, 25, 26, 27, 28, 29, 30, 31, 32, 33, 34, 35] [35] .leaf (.cond (.seq .leaf .leaf) .leaf)) (.seq (.seq .leaf (.cond (.seq .leaf .leaf) .leaf)) (.seq (.seq .leaf (.cond (.seq .leaf .leaf) .leaf)) (.seq (.seq .leaf (.cond (.seq .leaf .leaf) .leaf)) (.seq .leaf (.seq .leaf .leaf))))))))) Tryz.func39 (by kernel_rfl) (by kernel_rfl) h
def S40 (a e c : Value) (R : Value → SP) : SP := scall Tryz.prog 51 #[a, e] fun b => sbin Tryz.prog .pointer 109 .eql b (.pointer none) fun f => sguard f ( R (.int .i64 1)) ( snil b fun g => sfa 7 g fun h => sload none h fun i => slookup .string (some (.int .i64 0)) i c true fun d => sext d 0 fun j => sext d 1 fun k => sun .not k fun l => sguard l ( R (.int .i64 32)) ( snil a fun m => sfa 2 m fun n => sload none n fun o => slookup (.int .i64) (some (.pointer none)) o j false fun p => snil p fun q => sfa 7 q fun r => sload none r fun t => slen .map t fun u => sbin Tryz.prog .none 3 .gtr u (.int .i64 0) fun w => sguard w ( R (.int .i64 47)) ( scall Tryz.prog 86 #[a, b, c] fun _ => R (.int .i64 0))))
theorem S40_ok {v0 v1 v2 : Value} {R : Value → SP} {l : St} (h : S40 v0 v1 v2 R l) : scall Tryz.prog 40 #[v0, v1, v2] R l := sok [v0, v1, v2] (.seq .leaf (.seq .leaf (.seq (.seq .leaf (.cond (.seq .leaf .leaf) .leaf)) (.seq .leaf (.seq (.one (.seq .leaf (.cond (.seq .leaf .leaf) (.seq .leaf (.cond (.seq .leaf .leaf) .leaf))))) (.seq .leaf (.seq .leaf .leaf))))))) Tryz.func40 (by kernel_rfl) (by kernel_rfl) h
def S41 (a b c : Value) (R : Value → SP) : SP := scall Tryz.prog 78 #[a, b] fun e => sbin Tryz.prog .pointer 123 .eql e (.pointer none) fun f => sguard f ( R (.int .i64 1)) ( scall Tryz.prog 87 #[a, b, c] fun d => sext d 0 fun g => sext d 1 fun h => sun .not h fun i => sguard i ( R (.int .i64 32)) ( scall Tryz.prog 58 #[a, g] fun j => snil j fun k => sfa 8 k fun l => sload none l fun m => slen .slice m fun n => sbin Tryz.prog .none 3 .gtr n (.int .i64 0) fun o => sguard o ( R (.int .i64 47)) ( scall Tryz.prog 88 #[a, b, c] fun _ => R (.int .i64 0))))
theorem S41_ok {v0 v1 v2 : Value} {R : Value → SP} {l : St} (h : S41 v0 v1 v2 R l) : scall Tryz.prog 41 #[v0, v1, v2] R l := sok [v0, v1, v2] (.seq .leaf (.seq .leaf (.seq (.seq .leaf (.cond (.seq .leaf .leaf) .leaf)) (.seq .leaf (.seq (.seq .leaf (.cond (.seq .leaf .leaf) .leaf)) (.seq (.seq .leaf (.cond (.seq .leaf .leaf) .leaf)) (.seq .leaf (.seq .leaf .leaf)))))))) Tryz.func41 (by kernel_rfl) (by kernel_rfl) h
def S42 (a p k g d : Value) (R : Value → SP) : SP := scall Tryz.prog 51 #[a, p] fun e => scall Tryz.prog 51 #[a, g] fun b => sjoin1 (fun q => sguard q ( R (.int .i64 1)) ( snil e fun r => sfa 7 r fun t => sload none t fun u => slookup .string (some (.int .i64 0)) u k true fun l => sext l 0 fun f => sext l 1 fun w => sjoin1 (fun x => sguard x ( R (.int .i64 32)) ( sjoin1 (fun y => sguard y ( R (.int .i64 39)) ( snil a fun z => sfa 2 z fun A => sload none A fun B => slookup (.int .i64) (some (.pointer none)) B f false fun c => snil a fun C => sfa 2 C fun D => sload none D fun E => snil b fun F => sfa 7 F fun G => sload none G fun H => slookup .string (some (.int .i64 0)) H d false fun K => slookup (.int .i64) (some (.pointer none)) E K false fun h => sbin Tryz.prog .pointer 109 .eql c h fun L => sguard L ( R (.int .i64 0)) ( scall Tryz.prog 91 #[a, c, h, e, b] fun m => sbin Tryz.prog .none 49 .neq m (.int .i64 0) fun M => sguard M ( R m) ( sjoin0 ( snil e fun N => sfa 7 N fun O => sload none O fun Q => sbuiltin Tryz.prog .delete #[111, 9] 0 #[false, false] #[Q, k] fun _ => snil c fun T => sfa 9 T fun U => sload none U fun V => sbin Tryz.prog .none 3 .sub V (.int .i64 1) fun W => snil c fun X => sfa 9 X fun Y => sstore 1 Y W <| scall Tryz.prog 77 #[a, b, d, c] fun _ => R (.int .i64 0)) fun n => sbin Tryz.prog .pointer 109 .neq h (.pointer none) fun Z => sguard Z ( scall Tryz.prog 86 #[a, b, d] fun _ => n []) ( n []))))) fun i => scall Tryz.prog 51 #[a, f] fun a0 => sbin Tryz.prog .pointer 109 .neq a0 (.pointer none) fun a1 => sguard a1 ( sbin Tryz.prog .none 3 .eql f g fun a2 => sguard a2 ( i [.bool true]) ( scall Tryz.prog 90 #[a, g, f] fun a3 => i [a3])) ( i [.bool false]))) fun o => sun .not w fun a4 => sguard a4 ( o [.bool true]) ( scall Tryz.prog 89 #[b] fun a5 => sun .not a5 fun a6 => o [a6]))) fun j => sbin Tryz.prog .pointer 109 .eql e (.pointer none) fun a7 => sguard a7 ( j [.bool true]) ( sbin Tryz.prog .pointer 109 .eql b (.pointer none) fun a8 => sguard a8 ( j [.bool true]) ( scall Tryz.prog 74 #[d] fun a9 => sun .not a9 fun a10 => j [a10]))
theorem S42_ok {v0 v1 v2 v3 v4 : Value} {R : Value → SP} {l : St} (h : S42 v0 v1 v2 v3 v4 R l) : scall Tryz.prog 42 #[v0, v1, v2, v3, v4] R l := sok [v0, v1, v2, v3, v4] (.seq .leaf (.seq .leaf (.seq (.join [24, 25, 26, 27, 28, 29, 30, 31, 32, 33, 34] [34] .leaf (.cond (.seq .leaf .leaf) .leaf)) (.seq .leaf (.seq (.join [44, 45, 46, 47, 48, 49, 50] [50] .leaf (.cond (.seq .leaf .leaf) .leaf)) (.seq (.join [51, 52, 53, 54, 55, 56, 57, 58, 59, 60, 61, 62, 63, 64, 65] [65] .leaf (.cond (.seq .leaf .leaf) .leaf)) (.seq (.draw [(0, []), (1, []), (2, []), (3, []), (4, []), (5, []), (6, []), (7, []), (8, []), (9, []), (10, []), (11, []), (12, []), (13, []), (14, []), (15, []), (16, []), (17, []), (18, [])]) (.seq (.seq .leaf (.cond (.seq .leaf .leaf) .leaf)) (.seq (.seq .leaf (.seq .leaf (.cond (.seq .leaf .leaf) .leaf))) (.join [95, 96, 97, 98, 99, 100] [] (.seq .leaf (.cond .leaf .leaf)) (.seq .leaf (.seq .leaf (.seq .leaf (.seq .leaf .leaf)))))))))))))) Tryz.func42 (by kernel_rfl) (by kernel_rfl) h
def S43 (a e m b f : Value) (R : Value → SP) : SP := sjoin1 (fun y => sguard y ( R (.int .i64 1)) ( scall Tryz.prog 87 #[a, e, m] fun n => sext n 0 fun c => sext n 1 fun z => sjoin1 (fun A => sguard A ( R (.int .i64 32)) ( scall Tryz.prog 58 #[a, c] fun d => snil d fun B => sfa 0 B fun C => sfa 1 C fun D => sload none D fun E => sbin Tryz.prog .none 3 .eql E (.int .i64 1) fun g => sjoin1 (fun F => sguard F ( R (.int .i64 39)) ( scall Tryz.prog 87 #[a, b, f] fun o => sext o 0 fun p => sext o 1 fun h => sjoin1 (fun G => sguard G ( R (.int .i64 0)) ( sjoin0 ( sjoin1 (fun H => sguard H ( R (.int .i64 44)) ( sjoin0 ( snil d fun K => sfa 11 K fun L => sload none L fun M => sbin Tryz.prog .none 3 .add M (.int .i64 1) fun N => snil d fun O => sfa 11 O fun Q => sstore 1 Q N <| scall Tryz.prog 88 #[a, e, m] fun _ => scall Tryz.prog 85 #[a, b, f, c] fun _ => snil d fun T => sfa 11 T fun U => sload none U fun V => sbin Tryz.prog .none 3 .sub V (.int .i64 1) fun W => snil d fun X => sfa 11 X fun Y => sstore 1 Y W <| R (.int .i64 0)) fun q => sguard h ( scall Tryz.prog 88 #[a, b, f] fun _ => q []) ( q []))) fun i => sguard g ( sbin Tryz.prog .none 3 .neq e b fun Z => sguard Z ( sun .not h fun a0 => sguard a0 ( scall Tryz.prog 82 #[a, b] fun a1 => sbin Tryz.prog .none 3 .geq a1 (.int .i64 16) fun a2 => i [a2]) ( i [.bool false])) ( i [.bool false])) ( i [.bool false])) fun r => sguard h ( scall Tryz.prog 58 #[a, p] fun j => sjoin1 (fun a3 => sguard a3 ( R (.int .i64 37)) ( sjoin1 (fun a4 => sguard a4 ( R (.int .i64 38)) ( snil j fun a5 => sfa 8 a5 fun a6 => sload none a6 fun a7 => slen .slice a7 fun a8 => sbin Tryz.prog .none 3 .gtr a8 (.int .i64 0) fun a9 => sguard a9 ( R (.int .i64 47)) ( r []))) fun t => sun .not g fun a10 => sguard a10 ( snil j fun a11 => sfa 0 a11 fun a12 => sfa 1 a12 fun a13 => sload none a13 fun a14 => sbin Tryz.prog .none 3 .eql a14 (.int .i64 1) fun a15 => t [a15]) ( t [.bool false]))) fun u => sguard g ( snil j fun a16 => sfa 0 a16 fun a17 => sfa 1 a17 fun a18 => sload none a18 fun a19 => sbin Tryz.prog .none 3 .neq a19 (.int .i64 1) fun a20 => u [a20]) ( u [.bool false])) ( r []))) fun w => sguard h ( sbin Tryz.prog .none 3 .eql p c fun a21 => w [a21]) ( w [.bool false]))) fun k => sguard g ( sbin Tryz.prog .none 3 .eql b c fun a22 => sguard a22 ( k [.bool true]) ( scall Tryz.prog 92 #[a, b, c] fun a23 => k [a23])) ( k [.bool false]))) fun x => sun .not z fun a24 => sguard a24 ( x [.bool true]) ( scall Tryz.prog 81 #[a, b] fun a25 => x [a25]))) fun l => scall Tryz.prog 78 #[a, e] fun a26 => sbin Tryz.prog .pointer 123 .eql a26 (.pointer none) fun a27 => sguard a27 ( l [.bool true]) ( scall Tryz.prog 78 #[a, b] fun a28 => sbin Tryz.prog .pointer 123 .eql a28 (.pointer none) fun a29 => sguard a29 ( l [.bool true]) ( scall Tryz.prog 79 #[f] fun a30 => sun .not a30 fun a31 => l [a31]))
theorem S43_ok {v0 v1 v2 v3 v4 : Value} {R : Value → SP} {l : St} (h : S43 v0 v1 v2 v3 v4 R l) : scall Tryz.prog 43 #[v0, v1, v2, v3, v4] R l := sok [v0, v1, v2, v3, v4] (.seq .leaf (.seq (.join [18, 19, 20, 21, 22, 23, 24, 25, 26, 27, 28, 29, 30, 31, 32] [32] .leaf (.cond (.seq .leaf .leaf) .leaf)) (.seq .leaf (.seq (.join [40, 41, 42, 43, 44, 45, 46] [46] .leaf (.cond (.seq .leaf .leaf) .leaf)) (.seq .leaf (.seq .leaf (.seq (.join [56, 57, 58, 59, 60, 61, 62, 63, 64, 65, 66, 67] [67] .leaf (.cond (.seq .leaf .leaf) .leaf)) (.seq .leaf (.seq (.join [75, 76, 77, 78, 79, 80] [80] .leaf (.cond (.seq .leaf .leaf) .leaf)) (.join [10, 17, 81, 82, 83, 84, 85, 86, 87, 88, 89, 90, 91, 92, 93, 94, 95, 96, 97, 98, 99, 100, 101, 102, 103, 104, 105, 106, 107, 108, 109] [] (.seq .leaf (.cond (.seq .leaf (.seq (.join [85, 86, 87, 88, 89, 90, 91, 92, 93] [93] .leaf (.cond (.seq .leaf .leaf) .leaf)) (.seq (.join [94, 95, 96, 97, 98, 99, 100, 101, 102, 103] [103] .leaf (.cond (.seq .leaf .leaf) .leaf)) (.seq .leaf (.cond (.seq .leaf .leaf) .leaf))))) .leaf)) (.seq (.join [110, 111, 112, 113, 114, 115, 116, 117, 118, 119, 120, 121, 122, 123, 124, 125] [125] .leaf (.cond (.seq .leaf .leaf) .leaf)) (.join [126, 127, 128, 129, 130] [] (.seq .leaf (.cond .leaf .leaf)) (.seq .leaf (.seq .leaf (.seq .leaf (.seq .leaf (.seq .leaf .leaf))))))))))))))))) Tryz.func43 (by kernel_rfl) (by kernel_rfl) h
def S44 (j k : Value) (R : Value → SP) : SP := snew (Value.cells j) 39 fun b => snew (Value.cells k) 44 fun a => sfa 2 b fun l => sload none l fun m => sfa 2 a fun n => sload none n fun o => scall Tryz.prog 66 #[m, o] fun c => sext c 0 fun p => sext c 1 fun q => snew #[.int .i64 0, .int .i64 0, .int .i64 0, .int .i64 0, .int .i64 0, .int .i64 0, .int .i64 0] 42 fun r => sstore 7 r p <| sfa 2 b fun t => sload none t fun u => sfa 13 a fun w => sfa 1 w fun x => sload none x fun y => scall Tryz.prog 66 #[u, y] fun d => sext d 0 fun z => sext d 1 fun A => snew #[.int .i64 0, .int .i64 0, .int .i64 0, .int .i64 0, .int .i64 0, .int .i64 0, .int .i64 0] 42 fun B => sstore 7 B z <| sjoin1 (fun C => sguard C ( R (.bool true)) ( sfa 1 b fun D => sload none D fun E => sfa 13 a fun F => sload (some 2) F fun G => sfa 2 a fun H => sload none H fun K => scall Tryz.prog 93 #[E, G, K] fun e => sext e 0 fun L => sext e 1 fun f => sfa 3 b fun M => sload none M fun N => sfa 13 a fun O => sload (some 2) O fun Q => sfa 2 a fun T => sload none T fun U => scall Tryz.prog 94 #[N, Q, U] fun g => sext g 0 fun V => sext g 1 fun W => sjoin0 ( sbin Tryz.prog .none 3 .eql L V fun X => sguard X ( sbin Tryz.prog .none 3 .eql f W fun Y => R Y) ( R (.bool false))) fun h => sbin Tryz.prog .none 49 .eql f (.int .i64 0) fun Z => sguard Z ( sfa 0 b fun a0 => sload none a0 fun a1 => sfa 2 a fun a2 => sload none a2 fun a3 => scall Tryz.prog 95 #[a1, a3] fun _ => sfa 0 b fun a4 => sload none a4 fun a5 => sfa 13 a fun a6 => sfa 1 a6 fun a7 => sload none a7 fun a8 => scall Tryz.prog 95 #[a5, a8] fun _ => sfa 2 b fun a9 => sload none a9 fun a10 => sfa 2 a fun a11 => sload none a11 fun a12 => scall Tryz.prog 96 #[a10, a12] fun _ => sfa 2 b fun a13 => sload none a13 fun a14 => sfa 13 a fun a15 => sfa 1 a15 fun a16 => sload none a16 fun a17 => scall Tryz.prog 96 #[a14, a17] fun _ => h []) ( h []))) fun i => sun .not q fun a18 => sguard a18 ( i [.bool true]) ( sun .not A fun a19 => i [a19])
theorem S44_ok {v0 v1 : Value} {R : Value → SP} {l : St} (h : S44 v0 v1 R l) : scall Tryz.prog 44 #[v0, v1] R l := sok [v0, v1] (.seq .leaf (.seq .leaf (.seq .leaf (.seq (.join [30, 31, 32, 33, 34, 35] [35] .leaf (.cond (.seq .leaf .leaf) .leaf)) (.seq .leaf (.seq .leaf (.join [56, 57, 58, 59, 60, 61, 62, 63, 64, 65, 66, 67, 68, 69, 70, 71, 72, 73, 74, 75, 76, 77, 78, 79] [] (.seq .leaf (.cond (.seq .leaf (.seq .leaf (.seq .leaf .leaf))) .leaf)) (.seq .leaf .leaf)))))))) Tryz.func44 (by kernel_rfl) (by kernel_rfl) h
def S45 (a b : Value) (R : Value → SP) : SP := snil a fun e => sfa 0 e fun f => sload none f fun g => slookup (.int .i64) (some (.agg #[.int .i64 0, .int .i64 0, .int .i64 0])) g b true fun c => sext c 0 fun h => sext c 1 fun i => snew #[.int .i64 0, .int .i64 0, .int .i64 0] 159 fun j => sstore 3 j h <| sjoin1 (fun k => sguard k ( R (.int .i64 1)) ( scall Tryz.prog 97 #[a, b] fun l => slen .slice l fun m => sbin Tryz.prog .none 3 .gtr m (.int .i64 0) fun n => sguard n ( R (.int .i64 15)) ( snil a fun o => sfa 2 o fun p => sload none p fun q => sbin Tryz.prog .none 3 .add q (.int .i64 1) fun r => snil a fun t => sfa 2 t fun u => sstore 1 u r <| snil a fun w => sfa 0 w fun x => sload none x fun y => sbuiltin Tryz.prog .delete #[161, 3] 0 #[false, false] #[y, b] fun _ => R (.int .i64 0)))) fun d => sun .not i fun z => sguard z ( d [.bool true]) ( sbin Tryz.prog .none 3 .eql b (.int .i64 0) fun A => d [A])
theorem S45_ok {v0 v1 : Value} {R : Value → SP} {l : St} (h : S45 v0 v1 R l) : scall Tryz.prog 45 #[v0, v1] R l := sok [v0, v1] (.seq .leaf (.seq (.seq .leaf (.join [16, 17, 18, 19, 20, 21] [21] .leaf (.cond (.seq .leaf .leaf) .leaf))) (.seq (.seq .leaf (.cond (.seq .leaf .leaf) .leaf)) (.seq .leaf (.seq .leaf (.seq .leaf .leaf)))))) Tryz.func45 (by kernel_rfl) (by kernel_rfl) h
def S46 (b a : Value) (R : Value → SP) : SP := sjoin1 (fun d => sguard d ( R (.int .i64 1)) ( scall Tryz.prog 99 #[b, a] fun e => slen .slice e fun f => sbin Tryz.prog .none 3 .gtr f (.int .i64 0) fun g => sguard g ( R (.int .i64 15)) ( snil b fun h => sfa 0 h fun i => sload none i fun j => sidx none 4 j a fun k => sfa 3 k fun l => sstore 1 l (.bool false) <| R (.int .i64 0)))) fun c => sbin Tryz.prog .none 3 .eql a (.int .i64 0) fun m => sguard m ( c [.bool true]) ( scall Tryz.prog 98 #[b, a] fun n => sun .not n fun o => c [o])
theorem S46_ok {v0 v1 : Value} {R : Value → SP} {l : St} (h : S46 v0 v1 R l) : scall Tryz.prog 46 #[v0, v1] R l := sok [v0, v1] (.seq .leaf (.seq (.join [5, 6, 7, 8, 9, 10, 11, 12] [12] .leaf (.cond (.seq .leaf .leaf) .leaf)) (.seq (.seq .leaf (.cond (.seq .leaf .leaf) .leaf)) (.seq .leaf (.seq .leaf .leaf))))) Tryz.func46 (by kernel_rfl) (by kernel_rfl) h
def S47 (a c d e : Value) (R : Value → SP) : SP := snil a fun f => sfa 2 f fun g => sload none g fun h => slookup (.int .i64) (some (.pointer none)) h c false fun b => sbin Tryz.prog .pointer 109 .eql b (.pointer none) fun i => sguard i ( R (.int .i64 1)) ( snil a fun j => sfa 4 j fun k => sload none k fun l => sbin Tryz.prog .none 3 .add l (.int .i64 1) fun m => snil a fun n => sfa 4 n fun o => sstore 1 o m <| snil b fun p => sfa 0 p fun q => sfa 3 q fun r => sstore 1 r d <| snil b fun t => sfa 0 t fun u => sfa 4 u fun w => sstore 1 w e <| R (.int .i64 0))
theorem S47_ok {v0 v1 v2 v3 : Value} {R : Value → SP} {l : St} (h : S47 v0 v1 v2 v3 R l) : scall Tryz.prog 47 #[v0, v1, v2, v3] R l := sok [v0, v1, v2, v3] (.seq .leaf (.seq .leaf (.seq (.seq .leaf (.cond (.seq .leaf .leaf) .leaf)) (.seq .leaf (.seq .leaf (.seq .leaf .leaf)))))) Tryz.func47 (by kernel_rfl) (by kernel_rfl) h
def S48 (b c d e : Value) (R : Value → SP) : SP := scall Tryz.prog 58 #[b, c] fun a => sbin Tryz.prog .pointer 123 .eql a (.pointer none) fun f => sguard f ( R (.int .i64 1)) ( snil a fun g => sfa 0 g fun h => sfa 3 h fun i => sstore 1 i d <| snil a fun j => sfa 0 j fun k => sfa 4 k fun l => sstore 1 l e <| R (.int .i64 0))
theorem S48_ok {v0 v1 v2 v3 : Value} {R : Value → SP} {l : St} (h : S48 v0 v1 v2 v3 R l) : scall Tryz.prog 48 #[v0, v1, v2, v3] R l := sok [v0, v1, v2, v3] (.seq .leaf (.seq .leaf (.seq (.seq .leaf (.cond (.seq .leaf .leaf) .leaf)) (.seq .leaf (.seq .leaf (.seq .leaf .leaf)))))) Tryz.func48 (by kernel_rfl) (by kernel_rfl) h
def S49 (a c : Value) (R : Value → SP) : SP := sjoin1 (fun d => sbin Tryz.prog .none 3 .rem d c fun e => R e) fun b => sbin Tryz.prog .none 3 .lss a (.int .i64 0) fun f => sguard f ( sbin Tryz.prog .none 3 .add a (.int .i64 1) fun g => sun .neg g fun h => b [h]) ( b [a])
theorem S49_ok {v0 v1 : Value} {R : Value → SP} {l : St} (h : S49 v0 v1 R l) : scall Tryz.prog 49 #[v0, v1] R l := sok [v0, v1] (.seq .leaf (.join [0, 5, 6, 7, 8, 9] [0] (.seq .leaf (.cond .leaf .leaf)) (.seq .leaf .leaf))) Tryz.func49 (by kernel_rfl) (by kernel_rfl) h
def S50 (i j k l m n o : Value) (R : Value → SP) : SP := snew (Value.cells k) 27 fun p => snew (Value.cells l) 27 fun q => snew (Value.cells m) 54 fun r => snew #[.int .i64 0, .int .i64 0, .string ⟨#[]⟩, .int .i64 0, .int .i64 0, .bool false, .bool false] 48 fun b => sload (some 2) p fun t => sload (some 2) q fun u => sload (some 2) r fun w => scall Tryz.prog 100 #[i, j, t, u, w, n, o] fun a => sloop0  fun x  => scall Tryz.prog 101 #[a] fun y => sun .not y fun z => sguard z ( x []) ( snil a fun A => sfa 2 A fun B => sload (some 7) B fun C => snil a fun D => sfa 9 D fun c => sload none c fun d => snil a fun E => sfa 0 E fun e => sload none e fun f => snil f fun F => sfa 12 F fun g => sload none g fun h => sstore 7 b C <| sand (sload none g fun v' _ => v' = h) <| sand (sload none e fun v' _ => v' = f) <| sand (sload none c fun v' _ => v' = d) <| sload (some 7) b fun vr => R (.tuple #[vr, d, h]))
theorem S50_ok {v0 v1 v2 v3 v4 v5 v6 : Value} {R : Value → SP} {l : St} (h : S50 v0 v1 v2 v3 v4 v5 v6 R l) : scall Tryz.prog 50 #[v0, v1, v2, v3, v4, v5, v6] R l := sok [v0, v1, v2, v3, v4, v5, v6] (.seq .leaf (.one (.seq .leaf (.seq .leaf (.one (.loop [15, 16, 26, 27, 28, 29, 30, 31, 32, 33, 34, 35, 36, 37, 38, 39, 40, 41, 42, 43] [] (.one (.seq (.seq .leaf (.cond .leaf .leaf)) (.seq (.draw [(0, []), (1, []), (2, []), (3, []), (4, []), (5, []), (6, []), (7, []), (8, []), (9, []), (10, []), (11, []), (12, []), (13, []), (14, []), (15, [7, 11, 14]), (16, []), (17, [])]) .leaf))))))))) Tryz.func50 (by kernel_rfl) (by kernel_rfl) h
def S51 (c d : Value) (R : Value → SP) : SP := snil c fun e => sfa 2 e fun f => sload none f fun g => slookup (.int .i64) (some (.pointer none)) g d false fun a => sjoin1 (fun h => sguard h ( R (.pointer none)) ( R a)) fun b => sbin Tryz.prog .pointer 109 .eql a (.pointer none) fun i => sguard i ( b [.bool true]) ( snil a fun j => sfa 0 j fun k => sfa 1 k fun l => sload none l fun m => sbin Tryz.prog .none 3 .neq m (.int .i64 1) fun n => b [n])
theorem S51_ok {v0 v1 : Value} {R : Value → SP} {l : St} (h : S51 v0 v1 R l) : scall Tryz.prog 51 #[v0, v1] R l := sok [v0, v1] (.seq .leaf (.seq .leaf (.seq (.join [12, 13, 14, 15, 16, 17, 18, 19, 20, 21] [21] .leaf (.cond (.seq .leaf .leaf) .leaf)) (.seq .leaf .leaf)))) Tryz.func51 (by kernel_rfl) (by kernel_rfl) h
def S52 (e b : Value) (R : Value → SP) : SP := scall Tryz.prog 89 #[b] fun f => sun .not f fun g => sguard g ( R (.int .i64 0)) ( snil b fun h => sfa 7 h fun i => sload none i fun j => srangeMap j fun c => sloop1 (.int .i64 2) fun d a => snext c fun k => sext k 0 fun l => sguard l ( sentry c fun m => sext m 1 fun n => scall Tryz.prog 51 #[e, n] fun o => sbin Tryz.prog .pointer 109 .neq o (.pointer none) fun p => sguard p ( sbin Tryz.prog .none 3 .add a (.int .i64 1) fun q => d [q]) ( d [a])) ( R a))
theorem S52_ok {v0 v1 : Value} {R : Value → SP} {l : St} (h : S52 v0 v1 R l) : scall Tryz.prog 52 #[v0, v1] R l := sok [v0, v1] (.seq .leaf (.seq (.seq .leaf (.cond (.seq .leaf .leaf) .leaf)) (.seq .leaf (.seq (.seq .leaf (.one (.loop [5, 7, 16, 17, 18, 19, 20, 21, 22, 23, 24, 25] [5] (.seq .leaf (.seq (.cond .leaf .leaf) (.one (.seq .leaf (.seq .leaf (.cond .leaf .leaf))))))))) (.seq .leaf .leaf))))) Tryz.func52 (by kernel_rfl) (by kernel_rfl) h
def S53 (b c : Value) (R : Value → SP) : SP := snil b fun d => sfa 1 d fun e => sload none e fun f => slookup (.int .i64) (some (.pointer none)) f c false fun a => sbin Tryz.prog .pointer 177 .eql a (.pointer none) fun g => sguard g ( R (.int .i64 0)) ( snil a fun h => sfa 0 h fun i => sload none i fun j => R j)
theorem S53_ok {v0 v1 : Value} {R : Value → SP} {l : St} (h : S53 v0 v1 R l) : scall Tryz.prog 53 #[v0, v1] R l := sok [v0, v1] (.seq .leaf (.seq .leaf (.seq (.seq .leaf (.cond (.seq .leaf .leaf) .leaf)) (.seq .leaf .leaf)))) Tryz.func53 (by kernel_rfl) (by kernel_rfl) h
def S54 (a : Value) (R : Value → SP) : SP := snew (Value.cells a) 109 fun b => R (.func (.func 102) #[] #[b])
theorem S54_ok {v0 : Value} {R : Value → SP} {l : St} (h : S54 v0 R l) : scall Tryz.prog 54 #[v0] R l := sok [v0] (.seq .leaf (.seq .leaf .leaf)) Tryz.func54 (by kernel_rfl) (by kernel_rfl) h
def S55 (j k l m : Value) (R : Value → SP) : SP := snew (Value.cells j) 29 fun c => snew (Value.cells k) 67 fun n => snew (Value.cells l) 69 fun f => snew #[.int .i64 0, .int .i64 0, .slice none 0 0, .slice none 0 0, .int .i64 0, .int .i64 0, .int .i64 0, .int .i64 0, .int .i64 0, .int .i64 0, .int .i64 0] 63 fun a => snew #[.int .i64 0, .int .i64 0] 27 fun b => sjoin1 (fun o => sguard o ( sbuildR [(0, 1), (1, 1), (2, 1), (3, 1), (4, 7)] #[.int .i64 0, .int .i64 0, .slice none 0 0, .slice none 0 0, .int .i64 0, .int .i64 0, .int .i64 0, .int .i64 0, .int .i64 0, .int .i64 0, .int .i64 0] #[(0, .int .i64 1)] fun p => sbuildR [(0, 1), (1, 1)] #[.int .i64 0, .int .i64 0] #[] fun q => sstore 11 a p <| sstore 2 b q <| sload (some 11) a fun vr => sload (some 2) b fun r => R (.tuple #[vr, r])) ( sload (some 4) c fun t => sload (some 4) n fun u => sload (some 9) f fun w => sbuildR [(0, 4), (4, 4), (8, 9), (17, 1), (18, 7), (25, 7), (32, 11), (43, 2)] #[.pointer none, .pointer none, .int .i64 0, .int .i64 0, .int .i64 0, .int .i64 0, .int .i64 0, .int .i64 0, .int .i64 0, .string ⟨#[]⟩, .string ⟨#[]⟩, .int .i64 0, .int .i64 0, .int .i64 0, .int .i64 0, .int .i64 0, .slice none 0 0, .nilFunc, .int .i64 0, .int .i64 0, .string ⟨#[]⟩, .int .i64 0, .int .i64 0, .bool false, .bool false, .int .i64 0, .int .i64 0, .string ⟨#[]⟩, .int .i64 0, .int .i64 0, .bool false, .bool false, .int .i64 0, .int .i64 0, .slice none 0 0, .slice none 0 0, .int .i64 0, .int .i64 0, .int .i64 0, .int .i64 0, .int .i64 0, .int .i64 0, .int .i64 0, .int .i64 0, .int .i64 0] #[(0, t), (1, u), (2, w), (3, m)] fun x => snew (Value.cells x) 188 fun d => scall Tryz.prog 105 #[d] fun y => scallv Tryz.prog y #[] fun g => sbin Tryz.prog .none 49 .neq g (.int .i64 0) fun z => sguard z ( sbuildR [(0, 1), (1, 1), (2, 1), (3, 1), (4, 7)] #[.int .i64 0, .int .i64 0, .slice none 0 0, .slice none 0 0, .int .i64 0, .int .i64 0, .int .i64 0, .int .i64 0, .int .i64 0, .int .i64 0, .int .i64 0] #[(0, g)] fun A => sbuildR [(0, 1), (1, 1)] #[.int .i64 0, .int .i64 0] #[] fun B => sstore 11 a A <| sstore 2 b B <| sload (some 11) a fun C => sload (some 2) b fun D => R (.tuple #[C, D])) ( snil d fun E => sfa 32 E fun F => sload (some 11) F fun G => snil d fun H => sfa 43 H fun h => sload (some 2) h fun i => sstore 11 a G <| sand (sload (some 2) h fun v' _ => v' = i) <| sstore 2 b i <| sload (some 11) a fun K => sload (some 2) b fun L => R (.tuple #[K, L])))) fun e => sfa 0 c fun M => sload none M fun N => sbin Tryz.prog .pointer 24 .eql N (.pointer none) fun O => sguard O ( e [.bool true]) ( sfa 1 c fun Q => sload none Q fun T => sbin Tryz.prog .pointer 25 .eql T (.pointer none) fun U => sguard U ( e [.bool true]) ( sfa 0 f fun V => sload none V fun W => scall Tryz.prog 29 #[W] fun X => sun .not X fun Y => e [Y]))
theorem S55_ok {v0 v1 v2 v3 : Value} {R : Value → SP} {l : St} (h : S55 v0 v1 v2 v3 R l) : scall Tryz.prog 55 #[v0, v1, v2, v3] R l := sok [v0, v1, v2, v3] (.seq .leaf (.seq (.join [12, 13, 14, 15, 16, 17, 18, 19, 20, 21, 22, 23, 24, 25] [25] .leaf (.cond (.seq .leaf .leaf) .leaf)) (.seq .leaf (.seq (.seq .leaf (.seq .leaf (.cond (.seq .leaf .leaf) .leaf))) (.seq (.draw [(0, []), (1, []), (2, []), (3, []), (4, []), (5, []), (6, []), (7, []), (8, [7]), (9, [])]) .leaf))))) Tryz.func55 (by kernel_rfl) (by kernel_rfl) h
end Go.Sl
namespace Go.Sl
variable [Ghost]
open Go Go.Proofs
def S57 (a : Value) (R : Value → SP) : SP := sbin Tryz.prog .none 3 .and a (.int .i64 4095) fun b => R b
theorem S57_ok {v0 : Value} {R : Value → SP} {l : St} (h : S57 v0 R l) : scall Tryz.prog 57 #[v0] R l := sok [v0] (.seq .leaf (.seq .leaf .leaf)) Tryz.func57 (by kernel_rfl) (by kernel_rfl) h
def S58 (b a : Value) (R : Value → SP) : SP := sjoin1 (fun d => sguard d ( R (.pointer none)) ( snil b fun e => sfa 2 e fun f => sload none f fun g => sbin Tryz.prog .none 3 .sub a (.int .i64 1) fun h => sidx none 1 g h fun i => sload none i fun j => R j)) fun c => sbin Tryz.prog .none 3 .lss a (.int .i64 1) fun k => sguard k ( c [.bool true]) ( snil b fun l => sfa 2 l fun m => sload none m fun n => slen .slice n fun o => sbin Tryz.prog .none 3 .gtr a o fun p => c [p])
theorem S58_ok {v0 v1 : Value} {R : Value → SP} {l : St} (h : S58 v0 v1 R l) : scall Tryz.prog 58 #[v0, v1] R l := sok [v0, v1] (.seq .leaf (.seq (.join [5, 6, 7, 8, 9, 10, 11, 12, 13, 14, 15] [15] .leaf (.cond (.seq .leaf .leaf) .leaf)) (.seq .leaf .leaf))) Tryz.func58 (by kernel_rfl) (by kernel_rfl) h
def S59 (a : Value) (R : Value → SP) : SP := sbin Tryz.prog .none 3 .and a (.int .i64 4095) fun b => R b
theorem S59_ok {v0 : Value} {R : Value → SP} {l : St} (h : S59 v0 R l) : scall Tryz.prog 59 #[v0] R l := sok [v0] (.seq .leaf (.seq .leaf .leaf)) Tryz.func59 (by kernel_rfl) (by kernel_rfl) h
def S63 (c : Value) (R : Value → SP) : SP := sloop2 (.slice none 0 0) (.int .i64 0) fun e b a => snil c fun f => sfa 2 f fun g => sload none g fun h => slen .slice h fun i => sbin Tryz.prog .none 3 .lss a i fun j => sguard j ( sjoin1 (fun k => sbin Tryz.prog .none 3 .add a (.int .i64 1) fun l => e [k, l]) fun d => snil c fun m => sfa 2 m fun n => sload none n fun o => sidx none 1 o a fun p => sload none p fun q => sbin Tryz.prog .pointer 123 .neq q (.pointer none) fun r => sguard r ( sbin Tryz.prog .none 3 .add a (.int .i64 1) fun t => sbuildSlR 3 1 (.int .i64 0) 1 #[(0, t)] fun u => sbuiltin Tryz.prog .append #[23, 23] 23 #[false, false] #[b, u] fun w => d [w]) ( d [b])) ( R b)
theorem S63_ok {v0 : Value} {R : Value → SP} {l : St} (h : S63 v0 R l) : scall Tryz.prog 63 #[v0] R l := sok [v0] (.seq .leaf (.seq .leaf (.seq (.seq .leaf (.one (.loop [3, 4, 5, 6, 7, 8, 9, 10, 11, 12, 13, 14, 15, 16, 17, 18, 19, 20, 21, 22, 23, 24, 25, 26] [3, 4] (.seq (.seq .leaf (.cond .leaf .leaf)) (.join [3, 14, 15, 16, 17, 18, 19, 20, 21, 22, 23, 24, 25, 26] [3] (.one (.seq .leaf (.cond .leaf .leaf))) .leaf))))) (.seq .leaf .leaf)))) Tryz.func63 (by kernel_rfl) (by kernel_rfl) h
def S65 (c : Value) (R : Value → SP) : SP := sloop2 (.slice none 0 0) (.int .i64 0) fun e b a => snil c fun f => sfa 0 f fun g => sload none g fun h => slen .slice h fun i => sbin Tryz.prog .none 3 .lss a i fun j => sguard j ( sjoin1 (fun k => sbin Tryz.prog .none 3 .add a (.int .i64 1) fun l => e [k, l]) fun d => snil c fun m => sfa 0 m fun n => sload none n fun o => sidx none 4 o a fun p => sfa 3 p fun q => sload none q fun r => sguard r ( sbuildSlR 3 1 (.int .i64 0) 1 #[(0, a)] fun t => sbuiltin Tryz.prog .append #[23, 23] 23 #[false, false] #[b, t] fun u => d [u]) ( d [b])) ( R b)
theorem S65_ok {v0 : Value} {R : Value → SP} {l : St} (h : S65 v0 R l) : scall Tryz.prog 65 #[v0] R l := sok [v0] (.seq .leaf (.seq .leaf (.seq (.seq .leaf (.one (.loop [3, 4, 5, 6, 7, 8, 9, 10, 11, 12, 13, 14, 15, 16, 17, 18, 19, 20, 21, 22, 23, 24, 25] [3, 4] (.seq (.seq .leaf (.cond .leaf .leaf)) (.join [3, 14, 15, 16, 17, 18, 19, 20, 21, 22, 23, 24, 25] [3] (.one (.seq .leaf (.cond .leaf .leaf))) .leaf))))) (.seq .leaf .leaf)))) Tryz.func65 (by kernel_rfl) (by kernel_rfl) h
def S66 (e g : Value) (R : Value → SP) : SP := snew #[.int .i64 0, .int .i64 0, .int .i64 0, .int .i64 0, .int .i64 0, .int .i64 0, .int .i64 0] 42 fun c => scall Tryz.prog 58 #[e, g] fun b => sbin Tryz.prog .pointer 123 .eql b (.pointer none) fun h => sguard h ( sbuildR [(0, 1), (1, 1), (2, 1), (3, 1), (4, 1), (5, 1), (6, 1)] #[.int .i64 0, .int .i64 0, .int .i64 0, .int .i64 0, .int .i64 0, .int .i64 0, .int .i64 0] #[] fun i => sstore 7 c i <| sload (some 7) c fun vr => R (.tuple #[vr, .bool false])) ( snil b fun j => sfa 0 j fun k => sload (some 7) k fun l => snew #[.int .i64 0, .int .i64 0, .int .i64 0, .int .i64 0, .int .i64 0, .int .i64 0, .int .i64 0] 42 fun a => sstore 7 a l <| scall Tryz.prog 82 #[e, g] fun m => sfa 5 a fun n => sstore 1 n m <| sjoin0 ( sload (some 7) a fun o => sstore 7 c o <| sload (some 7) c fun p => R (.tuple #[p, .bool true])) fun d => sfa 1 a fun q => sload none q fun f => sbin Tryz.prog .none 3 .eql f (.int .i64 1) fun r => sguard r ( snil b fun t => sfa 8 t fun u => sload none u fun w => slen .slice w fun x => sfa 6 a fun y => sstore 1 y x <| d []) ( sbin Tryz.prog .none 3 .eql f (.int .i64 2) fun z => sguard z ( snil e fun A => sfa 1 A fun B => sload none B fun C => snil b fun D => sfa 12 D fun E => sload none E fun F => scall Tryz.prog 114 #[C, F] fun G => sfa 6 a fun H => sstore 1 H G <| d []) ( sbin Tryz.prog .none 3 .eql f (.int .i64 3) fun K => sguard K ( snil b fun L => sfa 7 L fun M => sload none M fun N => slen .str N fun O => sfa 6 a fun Q => sstore 1 Q O <| d []) ( d []))))
theorem S66_ok {v0 v1 : Value} {R : Value → SP} {l : St} (h : S66 v0 v1 R l) : scall Tryz.prog 66 #[v0, v1] R l := sok [v0, v1] (.seq .leaf (.seq .leaf (.seq (.seq .leaf (.cond (.seq .leaf .leaf) .leaf)) (.seq .leaf (.seq .leaf (.join [22, 23, 24, 25, 26, 27, 28, 29, 30, 31, 32, 33, 34, 35, 36, 37, 38, 39, 40, 41, 42, 43, 44, 45, 46, 47, 48, 49, 50, 51] [] (.seq .leaf (.one (.seq .leaf (.cond .leaf (.seq .leaf (.cond (.draw [(0, []), (1, []), (2, []), (3, []), (4, []), (5, []), (6, []), (7, []), (8, []), (9, []), (10, [])]) (.seq .leaf (.cond .leaf .leaf)))))))) (.seq .leaf .leaf))))))) Tryz.func66 (by kernel_rfl) (by kernel_rfl) h
def S69 (c d : Value) (R : Value → SP) : SP := snil c fun e => sfa 0 e fun f => sload none f fun g => slookup (.int .i64) (some (.agg #[.int .i64 0, .int .i64 0, .int .i64 0])) g d true fun a => sext a 0 fun h => sext a 1 fun i => snew #[.int .i64 0, .int .i64 0, .int .i64 0] 159 fun b => sstore 3 b h <| sfa 0 b fun j => sload none j fun k => R (.tuple #[k, i])
theorem S69_ok {v0 v1 : Value} {R : Value → SP} {l : St} (h : S69 v0 v1 R l) : scall Tryz.prog 69 #[v0, v1] R l := sok [v0, v1] (.seq .leaf (.seq .leaf (.seq .leaf .leaf))) Tryz.func69 (by kernel_rfl) (by kernel_rfl) h
def S70 (a e : Value) (R : Value → SP) : SP := scall Tryz.prog 117 #[e] fun c => sext c 0 fun f => sext c 1 fun g => sjoin1 (fun h => sguard h ( R (.tuple #[.pointer none, .int .i64 1])) ( smakeMapR none fun i => sbuildR [(0, 1), (1, 1), (2, 1), (3, 1), (4, 1)] #[.int .i64 0, .pointer none, .map none, .int .i64 0, .int .i64 0] #[(0, a), (1, f), (2, i)] fun j => snew (Value.cells j) 117 fun d => sbuildR [(0, 1), (1, 1), (2, 1), (3, 1), (4, 1), (5, 1), (6, 1)] #[.int .i64 0, .int .i64 0, .int .i64 0, .int .i64 0, .int .i64 0, .int .i64 0, .int .i64 0] #[(1, .int .i64 1), (2, .int .i64 493)] fun k => scall Tryz.prog 76 #[d, k, .string ⟨#[]⟩] fun l => snil l fun m => sfa 8 m fun n => sstore 1 n (.int .i64 1) <| R (.tuple #[d, .int .i64 0]))) fun b => sbin Tryz.prog .none 3 .lss a (.int .i64 1) fun o => sguard o ( b [.bool true]) ( sbin Tryz.prog .none 3 .gtr a (.int .i64 64) fun p => sguard p ( b [.bool true]) ( sbin Tryz.prog .none 49 .neq g (.int .i64 0) fun q => b [q]))
theorem S70_ok {v0 v1 : Value} {R : Value → SP} {l : St} (h : S70 v0 v1 R l) : scall Tryz.prog 70 #[v0, v1] R l := sok [v0, v1] (.seq .leaf (.seq .leaf (.seq (.join [14, 15, 16, 17, 18, 19, 20, 21, 22, 23] [23] .leaf (.cond (.seq .leaf .leaf) .leaf)) (.seq .leaf (.seq .leaf (.seq .leaf .leaf)))))) Tryz.func70 (by kernel_rfl) (by kernel_rfl) h
def S71 (b c : Value) (R : Value → SP) : SP := sjoin1 (fun e => sguard e ( R (.tuple #[.pointer none, .int .i64 1])) ( scall Tryz.prog 118 #[c] fun f => sbuildR [(0, 1), (1, 1), (2, 1)] #[.int .i64 0, .pointer none, .slice none 0 0] #[(0, b), (1, f)] fun g => snew (Value.cells g) 150 fun d => snil d fun h => sfa 2 h fun i => sload none i fun j => sbuildR [(0, 1), (1, 1), (2, 1), (3, 1), (4, 1), (5, 1), (6, 1)] #[.int .i64 0, .int .i64 0, .int .i64 0, .int .i64 0, .int .i64 0, .int .i64 0, .int .i64 0] #[(0, .int .i64 1), (1, .int .i64 1), (2, .int .i64 493)] fun k => sbuildR [(0, 7), (7, 1), (8, 1), (9, 1), (10, 1), (11, 1), (12, 1)] #[.int .i64 0, .int .i64 0, .int .i64 0, .int .i64 0, .int .i64 0, .int .i64 0, .int .i64 0, .string ⟨#[]⟩, .slice none 0 0, .int .i64 0, .int .i64 0, .int .i64 0, .int .i64 0] #[(0, k), (3, .int .i64 1)] fun l => snew (Value.cells l) 127 fun m => sbuildSlR 123 1 (.pointer none) 1 #[(0, m)] fun n => sbuiltin Tryz.prog .append #[148, 148] 148 #[false, false] #[j, n] fun o => snil d fun p => sfa 2 p fun q => sstore 1 q o <| R (.tuple #[d, .int .i64 0]))) fun a => sbin Tryz.prog .none 3 .lss b (.int .i64 1) fun r => sguard r ( a [.bool true]) ( sbin Tryz.prog .none 3 .gtr b (.int .i64 64) fun t => sguard t ( a [.bool true]) ( sbin Tryz.prog .none 3 .lss c (.int .i64 0) fun u => sguard u ( a [.bool true]) ( sbin Tryz.prog .none 3 .gtr c (.int .i64 256) fun w => a [w])))
theorem S71_ok {v0 v1 : Value} {R : Value → SP} {l : St} (h : S71 v0 v1 R l) : scall Tryz.prog 71 #[v0, v1] R l := sok [v0, v1] (.seq .leaf (.seq (.join [7, 8, 9, 10, 11, 12, 13, 14, 15, 16, 17, 18, 19, 20] [20] .leaf (.cond (.seq .leaf .leaf) .leaf)) (.seq .leaf (.seq .leaf (.seq .leaf .leaf))))) Tryz.func71 (by kernel_rfl) (by kernel_rfl) h
def S72 (b : Value) (R : Value → SP) : SP := smakeMapR none fun a => sbuildR [(0, 1), (1, 2)] #[.int .i64 0, .int .i64 0, .int .i64 0] #[(0, b)] fun c => smapset (.int .i64) a (.int .i64 0) c <| sbuildR [(0, 1), (1, 1), (2, 1)] #[.map none, .int .i64 0, .int .i64 0] #[(0, a)] fun d => snew (Value.cells d) 163 fun e => R e
theorem S72_ok {v0 : Value} {R : Value → SP} {l : St} (h : S72 v0 R l) : scall Tryz.prog 72 #[v0] R l := sok [v0] (.seq .leaf (.seq .leaf .leaf)) Tryz.func72 (by kernel_rfl) (by kernel_rfl) h
def S73 (a : Value) (R : Value → SP) : SP := sbuildR [(0, 2), (2, 1), (3, 1)] #[.int .i64 0, .int .i64 0, .int .i64 0, .bool false] #[(1, a), (2, .bool true)] fun b => sbuildSlR 166 4 (.agg #[.int .i64 0, .int .i64 0, .int .i64 0, .bool false]) 1 #[(0, b)] fun c => sbuildR [(0, 1)] #[.slice none 0 0] #[(0, c)] fun d => snew (Value.cells d) 169 fun e => R e
theorem S73_ok {v0 : Value} {R : Value → SP} {l : St} (h : S73 v0 R l) : scall Tryz.prog 73 #[v0] R l := sok [v0] (.seq .leaf (.seq .leaf .leaf)) Tryz.func73 (by kernel_rfl) (by kernel_rfl) h
def S74 (a : Value) (R : Value → SP) : SP := sbin Tryz.prog .none 9 .neq a (.string ⟨#[]⟩) fun b => sguard b ( slen .str a fun c => sbin Tryz.prog .none 3 .leq c (.int .i64 255) fun d => sguard d ( scall Tryz.prog 119 #[a, .int .u8 47] fun e => sbin Tryz.prog .none 3 .lss e (.int .i64 0) fun f => sguard f ( scall Tryz.prog 119 #[a, .int .u8 0] fun g => sbin Tryz.prog .none 3 .lss g (.int .i64 0) fun h => sguard h ( scall Tryz.prog 120 #[a] fun i => sun .not i fun j => R j) ( R (.bool false))) ( R (.bool false))) ( R (.bool false))) ( R (.bool false))
theorem S74_ok {v0 : Value} {R : Value → SP} {l : St} (h : S74 v0 R l) : scall Tryz.prog 74 #[v0] R l := sok [v0] (.seq .leaf (.seq .leaf .leaf)) Tryz.func74 (by kernel_rfl) (by kernel_rfl) h
def S75 (_v0 a c : Value) (R : Value → SP) : SP := snil a fun d => sfa 7 d fun e => sload none e fun f => slookup .string (some (.int .i64 0)) f c true fun b => sext b 0 fun _ => sext b 1 fun g => sguard g ( R (.int .i64 35)) ( scall Tryz.prog 89 #[a] fun h => sun .not h fun i => sguard i ( R (.int .i64 32)) ( R (.int .i64 0)))
theorem S75_ok {v0 v1 v2 : Value} {R : Value → SP} {l : St} (h : S75 v0 v1 v2 R l) : scall Tryz.prog 75 #[v0, v1, v2] R l := sok [v0, v1, v2] (.seq .leaf (.seq .leaf (.seq (.one (.seq .leaf (.cond (.seq .leaf .leaf) (.seq .leaf (.cond (.seq .leaf .leaf) .leaf))))) (.seq .leaf .leaf)))) Tryz.func75 (by kernel_rfl) (by kernel_rfl) h
def S76 (a n o : Value) (R : Value → SP) : SP := snew (Value.cells n) 42 fun b => snil a fun p => sfa 3 p fun q => sload none q fun r => sbin Tryz.prog .none 3 .add r (.int .i64 1) fun t => snil a fun u => sfa 3 u fun w => sstore 1 w t <| snil a fun x => sfa 3 x fun e => sload none e fun f => sfa 1 b fun g => sload none g fun h => sfa 2 b fun y => sload none y fun z => sfa 3 b fun i => sload none i fun j => sfa 4 b fun k => sload none k fun l => scall Tryz.prog 57 #[z] fun A => sand (sload none k fun v' _ => v' = l) <| sand (sload none i fun v' _ => v' = j) <| sand (sload none g fun v' _ => v' = h) <| sand (sload none e fun v' _ => v' = f) <| sbuildR [(0, 1), (1, 1), (2, 1), (3, 1), (4, 1), (5, 1), (6, 1)] #[.int .i64 0, .int .i64 0, .int .i64 0, .int .i64 0, .int .i64 0, .int .i64 0, .int .i64 0] #[(0, f), (1, h), (2, A), (3, j), (4, l)] fun B => sbuildR [(0, 7), (7, 1), (8, 1), (9, 1), (10, 1), (11, 1), (12, 1)] #[.int .i64 0, .int .i64 0, .int .i64 0, .int .i64 0, .int .i64 0, .int .i64 0, .int .i64 0, .map none, .int .i64 0, .int .i64 0, .int .i64 0, .string ⟨#[]⟩, .int .i64 0] #[(0, B), (5, o)] fun C => snew (Value.cells C) 113 fun c => sjoin0 ( snil a fun D => sfa 2 D fun E => sload none E fun F => snil a fun G => sfa 3 G fun H => sload none H fun K => smapset (.int .i64) F K c <| R c) fun d => sfa 1 b fun L => sload none L fun m => sbin Tryz.prog .none 3 .eql m (.int .i64 1) fun M => sguard M ( smakeMapR none fun N => snil c fun O => sfa 7 O fun Q => sstore 1 Q N <| d []) ( sbin Tryz.prog .none 3 .eql m (.int .i64 2) fun T => sguard T ( snil a fun U => sfa 1 U fun V => sload none V fun W => scall Tryz.prog 121 #[W] fun X => snil c fun Y => sfa 12 Y fun Z => sstore 1 Z X <| d []) ( d []))
theorem S76_ok {v0 v1 v2 : Value} {R : Value → SP} {l : St} (h : S76 v0 v1 v2 R l) : scall Tryz.prog 76 #[v0, v1, v2] R l := sok [v0, v1, v2] (.seq .leaf (.seq .leaf (.seq (.draw [(0, []), (1, []), (2, []), (3, []), (4, []), (5, []), (6, []), (7, []), (9, []), (10, []), (11, []), (12, []), (14, []), (8, [3, 5, 10, 12]), (13, []), (15, []), (16, []), (17, [])]) (.join [32, 33, 34, 35, 36, 37, 38, 39, 40, 41, 42, 43, 44, 45, 46, 47, 48, 49] [] (.seq .leaf (.one (.seq .leaf (.cond .leaf (.seq .leaf (.cond .leaf .leaf)))))) (.seq (.draw [(0, []), (1, []), (2, []), (3, []), (4, []), (5, []), (6, []), (7, []), (8, []), (9, [])]) (.seq .leaf .leaf)))))) Tryz.func76 (by kernel_rfl) (by kernel_rfl) h
def S77 (b c d a : Value) (R : Value → SP) : SP := snil b fun e => sfa 4 e fun f => sload none f fun g => sbin Tryz.prog .none 3 .add g (.int .i64 1) fun h => snil b fun i => sfa 4 i fun j => sstore 1 j h <| snil c fun k => sfa 7 k fun l => sload none l fun m => snil a fun n => sfa 0 n fun o => sfa 0 o fun p => sload none p fun q => smapset .string m d q <| snil a fun r => sfa 9 r fun t => sload none t fun u => sbin Tryz.prog .none 3 .add u (.int .i64 1) fun w => snil a fun x => sfa 9 x fun y => sstore 1 y w <| snil a fun z => sfa 0 z fun A => sfa 1 A fun B => sload none B fun C => sbin Tryz.prog .none 3 .eql C (.int .i64 1) fun D => sguard D ( snil c fun E => sfa 0 E fun F => sfa 0 F fun G => sload none G fun H => snil a fun K => sfa 8 K fun L => sstore 1 L H <| R (.tuple #[])) ( R (.tuple #[]))
theorem S77_ok {v0 v1 v2 v3 : Value} {R : Value → SP} {l : St} (h : S77 v0 v1 v2 v3 R l) : scall Tryz.prog 77 #[v0, v1, v2, v3] R l := sok [v0, v1, v2, v3] (.seq .leaf (.seq (.draw [(0, []), (1, []), (2, []), (3, []), (4, []), (5, []), (6, []), (7, []), (8, []), (9, []), (10, [])]) (.seq .leaf (.seq .leaf (.cond .leaf .leaf))))) Tryz.func77 (by kernel_rfl) (by kernel_rfl) h
def S78 (c d : Value) (R : Value → SP) : SP := scall Tryz.prog 58 #[c, d] fun a => sjoin1 (fun e => sguard e ( R (.pointer none)) ( R a)) fun b => sbin Tryz.prog .pointer 123 .eql a (.pointer none) fun f => sguard f ( b [.bool true]) ( snil a fun g => sfa 0 g fun h => sfa 1 h fun i => sload none i fun j => sbin Tryz.prog .none 3 .neq j (.int .i64 1) fun k => b [k])
theorem S78_ok {v0 v1 : Value} {R : Value → SP} {l : St} (h : S78 v0 v1 R l) : scall Tryz.prog 78 #[v0, v1] R l := sok [v0, v1] (.seq .leaf (.seq .leaf (.seq (.join [9, 10, 11, 12, 13, 14, 15, 16, 17, 18] [18] .leaf (.cond (.seq .leaf .leaf) .leaf)) (.seq .leaf .leaf)))) Tryz.func78 (by kernel_rfl) (by kernel_rfl) h
def S79 (a : Value) (R : Value → SP) : SP := sloop1 (.int .i64 0) fun d b => slen .str a fun e => sbin Tryz.prog .none 3 .lss b e fun f => sguard f ( sjoin1 (fun g => sguard g ( R (.bool false)) ( sbin Tryz.prog .none 3 .add b (.int .i64 1) fun h => d [h])) fun c => sindex a b fun i => sbin Tryz.prog .none 5 .eql i (.int .u8 0) fun j => sguard j ( c [.bool true]) ( sindex a b fun k => sbin Tryz.prog .none 5 .eql k (.int .u8 47) fun l => c [l])) ( slen .str a fun m => sbin Tryz.prog .none 3 .geq m (.int .i64 1) fun n => sguard n ( slen .str a fun o => sbin Tryz.prog .none 3 .leq o (.int .i64 255) fun p => sguard p ( scall Tryz.prog 122 #[a] fun q => sun .not q fun r => R r) ( R (.bool false))) ( R (.bool false)))
theorem S79_ok {v0 : Value} {R : Value → SP} {l : St} (h : S79 v0 R l) : scall Tryz.prog 79 #[v0] R l := sok [v0] (.seq .leaf (.seq (.seq .leaf (.one (.loop [2, 3, 4, 5, 6, 7, 8, 9, 10, 11, 12, 13, 14, 15, 16, 17, 18, 19] [3] (.seq (.seq .leaf (.cond .leaf .leaf)) (.seq (.one (.join [10, 11, 12, 13, 14, 15, 16, 17, 18, 19] [19] .leaf (.cond (.seq .leaf .leaf) .leaf))) .leaf))))) (.seq .leaf .leaf))) Tryz.func79 (by kernel_rfl) (by kernel_rfl) h
def S80 (b c : Value) (R : Value → SP) : SP := sloop1 (.int .i64 0) fun d a => snil b fun e => sfa 8 e fun f => sload none f fun g => slen .slice g fun h => sbin Tryz.prog .none 3 .lss a h fun i => sguard i ( snil b fun j => sfa 8 j fun k => sload none k fun l => sidx none 2 l a fun m => sfa 0 m fun n => sload none n fun o => sbin Tryz.prog .none 9 .eql o c fun p => sguard p ( R a) ( sbin Tryz.prog .none 3 .add a (.int .i64 1) fun q => d [q])) ( R (.int .i64 (-1)))
theorem S80_ok {v0 v1 : Value} {R : Value → SP} {l : St} (h : S80 v0 v1 R l) : scall Tryz.prog 80 #[v0, v1] R l := sok [v0, v1] (.seq .leaf (.seq (.seq .leaf (.one (.loop [4, 5, 6, 7, 8, 9, 10, 11, 12, 13, 14, 15, 16, 17, 18, 19, 20, 21, 22, 23, 24, 25] [5] (.seq (.seq .leaf (.cond .leaf .leaf)) (.seq (.one (.seq .leaf (.cond (.seq .leaf .leaf) .leaf))) .leaf))))) (.seq .leaf .leaf))) Tryz.func80 (by kernel_rfl) (by kernel_rfl) h
def S81 (b a : Value) (R : Value → SP) : SP := sbin Tryz.prog .none 3 .neq a (.int .i64 1) fun c => sguard c ( scall Tryz.prog 58 #[b, a] fun d => snil d fun e => sfa 10 e fun f => sload none f fun g => sbin Tryz.prog .none 3 .eql g (.int .i64 0) fun h => R h) ( R (.bool false))
theorem S81_ok {v0 v1 : Value} {R : Value → SP} {l : St} (h : S81 v0 v1 R l) : scall Tryz.prog 81 #[v0, v1] R l := sok [v0, v1] (.seq .leaf (.seq .leaf .leaf)) Tryz.func81 (by kernel_rfl) (by kernel_rfl) h
def S82 (d e : Value) (R : Value → SP) : SP := scall Tryz.prog 58 #[d, e] fun a => snil a fun h => sfa 0 h fun i => sfa 1 i fun j => sload none j fun k => sbin Tryz.prog .none 3 .neq k (.int .i64 1) fun l => sguard l ( snil a fun m => sfa 10 m fun n => sload none n fun o => R o) ( sjoin1 (fun p => sguard p ( R (.int .i64 0)) ( sloop2 (.int .i64 2) (.int .i64 0) fun q b c => snil a fun r => sfa 8 r fun t => sload none t fun u => slen .slice u fun w => sbin Tryz.prog .none 3 .lss c w fun x => sguard x ( sjoin1 (fun y => sbin Tryz.prog .none 3 .add c (.int .i64 1) fun z => q [y, z]) fun f => snil a fun A => sfa 8 A fun B => sload none B fun C => sidx none 2 C c fun D => sfa 1 D fun E => sload none E fun F => scall Tryz.prog 58 #[d, F] fun G => snil G fun H => sfa 0 H fun K => sfa 1 K fun L => sload none L fun M => sbin Tryz.prog .none 3 .eql M (.int .i64 1) fun N => sguard N ( sbin Tryz.prog .none 3 .add b (.int .i64 1) fun O => f [O]) ( f [b])) ( R b))) fun g => sbin Tryz.prog .none 3 .neq e (.int .i64 1) fun Q => sguard Q ( snil a fun T => sfa 10 T fun U => sload none U fun V => sbin Tryz.prog .none 3 .eql V (.int .i64 0) fun W => g [W]) ( g [.bool false]))
theorem S82_ok {v0 v1 : Value} {R : Value → SP} {l : St} (h : S82 v0 v1 R l) : scall Tryz.prog 82 #[v0, v1] R l := sok [v0, v1] (.seq .leaf (.seq .leaf (.seq (.seq .leaf (.cond (.seq .leaf .leaf) .leaf)) (.seq (.join [21, 22, 23, 24, 25, 26, 27, 28, 29] [29] .leaf (.cond (.seq .leaf .leaf) .leaf)) (.seq .leaf (.seq (.seq .leaf (.one (.loop [6, 7, 30, 31, 32, 33, 34, 35, 36, 37, 38, 39, 40, 41, 42, 43, 44, 45, 46, 47, 48, 49, 50, 51, 52, 53, 54, 55] [6, 7] (.seq (.seq .leaf (.cond .leaf .leaf)) (.join [6, 39, 40, 41, 42, 43, 44, 45, 46, 47, 48, 49, 50, 51, 52, 53, 54, 55] [6] (.one (.seq .leaf (.cond .leaf .leaf))) .leaf))))) (.seq .leaf .leaf))))))) Tryz.func82 (by kernel_rfl) (by kernel_rfl) h
def S83 (a : Value) (R : Value → SP) : SP := snil a fun d => sfa 0 d fun b => sload none b fun c => scall Tryz.prog 63 #[a] fun e => sand (sload none b fun v' _ => v' = c) <| slen .slice e fun f => sbin Tryz.prog .none 3 .sub c f fun g => R g
theorem S83_ok {v0 : Value} {R : Value → SP} {l : St} (h : S83 v0 R l) : scall Tryz.prog 83 #[v0] R l := sok [v0] (.seq .leaf (.seq (.draw [(0, []), (1, []), (2, []), (3, []), (4, []), (5, [3]), (6, []), (7, []), (8, [])]) .leaf)) Tryz.func83 (by kernel_rfl) (by kernel_rfl) h
def S84 (a : Value) (R : Value → SP) : SP := snil a fun b => sfa 1 b fun c => sload none c fun d => sbuildR [(0, 1), (1, 64)] #[.slice none 0 0, .bool false, .bool false, .bool false, .bool false, .bool false, .bool false, .bool false, .bool false, .bool false, .bool false, .bool false, .bool false, .bool false, .bool false, .bool false, .bool false, .bool false, .bool false, .bool false, .bool false, .bool false, .bool false, .bool false, .bool false, .bool false, .bool false, .bool false, .bool false, .bool false, .bool false, .bool false, .bool false, .bool false, .bool false, .bool false, .bool false, .bool false, .bool false, .bool false, .bool false, .bool false, .bool false, .bool false, .bool false, .bool false, .bool false, .bool false, .bool false, .bool false, .bool false, .bool false, .bool false, .bool false, .bool false, .bool false, .bool false, .bool false, .bool false, .bool false, .bool false, .bool false, .bool false, .bool false, .bool false] #[] fun e => snew (Value.cells e) 211 fun f => sbuildSlR 208 1 (.pointer none) 1 #[(0, f)] fun g => sbuiltin Tryz.prog .append #[205, 205] 205 #[false, false] #[d, g] fun h => snil a fun i => sfa 1 i fun j => sstore 1 j h <| snil a fun k => sfa 1 k fun l => sload none l fun m => slen .slice m fun n => R n
theorem S84_ok {v0 : Value} {R : Value → SP} {l : St} (h : S84 v0 R l) : scall Tryz.prog 84 #[v0] R l := sok [v0] (.seq .leaf (.seq .leaf (.seq .leaf .leaf))) Tryz.func84 (by kernel_rfl) (by kernel_rfl) h
def S85 (d e h f : Value) (R : Value → SP) : SP := scall Tryz.prog 58 #[d, e] fun a => sbuildSlR 200 2 (.agg #[.string ⟨#[]⟩, .int .i64 0]) 0 #[] fun i => snil a fun j => sfa 8 j fun k => sload none k fun l => sbuiltin Tryz.prog .append #[125, 125] 125 #[false, false] #[i, l] fun m => sbuildR [(0, 1), (1, 1)] #[.string ⟨#[]⟩, .int .i64 0] #[(0, h), (1, f)] fun n => sbuildSlR 200 2 (.agg #[.string ⟨#[]⟩, .int .i64 0]) 1 #[(0, n)] fun o => sbuiltin Tryz.prog .append #[125, 125] 125 #[false, false] #[m, o] fun p => snil a fun q => sfa 8 q fun r => sstore 1 r p <| snil a fun t => sfa 8 t fun u => sload none u fun w => slen .slice w fun x => sbin Tryz.prog .none 3 .sub x (.int .i64 1) fun y => sloop1 y fun z b => sjoin1 (fun A => sguard A ( snil a fun B => sfa 8 B fun C => sload none C fun D => sbin Tryz.prog .none 3 .sub b (.int .i64 1) fun E => snil a fun F => sfa 8 F fun G => sload none G fun H => snil a fun K => sfa 8 K fun L => sload none L fun M => sidx none 2 M b fun N => sload (some 2) N fun O => snil a fun Q => sfa 8 Q fun T => sload none T fun U => sbin Tryz.prog .none 3 .sub b (.int .i64 1) fun V => sidx none 2 U V fun W => sload (some 2) W fun X => sidx none 2 D E fun Y => sstore 2 Y O <| sidx none 2 H b fun Z => sstore 2 Z X <| sbin Tryz.prog .none 3 .sub b (.int .i64 1) fun a0 => z [a0]) ( scall Tryz.prog 58 #[d, f] fun c => snil c fun a1 => sfa 10 a1 fun a2 => sload none a2 fun a3 => sbin Tryz.prog .none 3 .add a3 (.int .i64 1) fun a4 => snil c fun a5 => sfa 10 a5 fun a6 => sstore 1 a6 a4 <| snil c fun a7 => sfa 0 a7 fun a8 => sfa 1 a8 fun a9 => sload none a9 fun a10 => sbin Tryz.prog .none 3 .eql a10 (.int .i64 1) fun a11 => sguard a11 ( snil c fun a12 => sfa 9 a12 fun a13 => sstore 1 a13 e <| R (.tuple #[])) ( R (.tuple #[])))) fun g => sbin Tryz.prog .none 3 .gtr b (.int .i64 0) fun a14 => sguard a14 ( snil a fun a15 => sfa 8 a15 fun a16 => sload none a16 fun a17 => sbin Tryz.prog .none 3 .sub b (.int .i64 1) fun a18 => sidx none 2 a17 a18 fun a19 => sfa 0 a19 fun a20 => sload none a20 fun a21 => snil a fun a22 => sfa 8 a22 fun a23 => sload none a23 fun a24 => sidx none 2 a24 b fun a25 => sfa 0 a25 fun a26 => sload none a26 fun a27 => sbin Tryz.prog .none 9 .gtr a21 a27 fun a28 => g [a28]) ( g [.bool false])
theorem S85_ok {v0 v1 v2 v3 : Value} {R : Value → SP} {l : St} (h : S85 v0 v1 v2 v3 R l) : scall Tryz.prog 85 #[v0, v1, v2, v3] R l := sok [v0, v1, v2, v3] (.seq .leaf (.seq .leaf (.seq (.seq .leaf (.one (.loop [9, 34, 35, 36, 37, 38, 39, 40, 41, 42, 43, 44, 45, 46, 47, 48, 49, 50, 51, 52, 53, 54, 55, 56, 57, 58, 59, 60, 61, 62, 63, 64, 65, 66, 67, 68, 69, 70, 71, 72, 73, 74, 75, 76, 77, 78, 79, 80, 81, 82, 83, 84, 85] [9] (.seq (.join [34, 35, 36, 37, 38, 39, 40, 41, 42, 43, 44, 45, 46, 47, 48, 49, 50, 51, 52, 53, 54, 55] [55] (.draw [(0, []), (1, []), (2, []), (3, []), (4, []), (5, []), (6, []), (7, []), (8, []), (9, []), (10, []), (11, []), (12, []), (13, []), (14, []), (15, []), (16, []), (17, []), (18, []), (19, []), (20, []), (21, [])]) (.cond .leaf .leaf)) (.seq (.one (.draw [(0, []), (1, []), (2, []), (3, []), (4, []), (5, []), (6, []), (7, []), (8, []), (9, []), (10, []), (11, []), (12, []), (13, []), (14, []), (15, []), (16, []), (17, []), (18, []), (19, []), (20, []), (21, []), (22, []), (23, []), (24, []), (25, []), (26, []), (27, []), (28, []), (29, [])])) .leaf))))) (.seq .leaf (.seq .leaf (.seq .leaf (.cond .leaf .leaf))))))) Tryz.func85 (by kernel_rfl) (by kernel_rfl) h
def S86 (a c d : Value) (R : Value → SP) : SP := snil a fun e => sfa 2 e fun f => sload none f fun g => snil c fun h => sfa 7 h fun i => sload none i fun j => slookup .string (some (.int .i64 0)) j d false fun k => slookup (.int .i64) (some (.pointer none)) g k false fun b => snil a fun l => sfa 4 l fun m => sload none m fun n => sbin Tryz.prog .none 3 .add n (.int .i64 1) fun o => snil a fun p => sfa 4 p fun q => sstore 1 q o <| snil c fun r => sfa 7 r fun t => sload none t fun u => sbuiltin Tryz.prog .delete #[111, 9] 0 #[false, false] #[u, d] fun _ => snil b fun w => sfa 9 w fun x => sload none x fun y => sbin Tryz.prog .none 3 .sub y (.int .i64 1) fun z => snil b fun A => sfa 9 A fun B => sstore 1 B z <| scall Tryz.prog 123 #[a, b] fun _ => R (.tuple #[])
theorem S86_ok {v0 v1 v2 : Value} {R : Value → SP} {l : St} (h : S86 v0 v1 v2 R l) : scall Tryz.prog 86 #[v0, v1, v2] R l := sok [v0, v1, v2] (.seq (.draw [(0, []), (1, []), (2, []), (3, []), (4, []), (5, []), (6, []), (7, []), (8, []), (9, []), (10, []), (11, [])]) (.seq .leaf (.seq .leaf (.seq .leaf .leaf)))) Tryz.func86 (by kernel_rfl) (by kernel_rfl) h
def S87 (f g b : Value) (R : Value → SP) : SP := scall Tryz.prog 78 #[f, g] fun a => sjoin1 (fun h => sguard h ( R (.tuple #[.int .i64 0, .bool false])) ( snil a fun i => sfa 8 i fun c => sload none c fun d => scall Tryz.prog 80 #[a, b] fun j => sand (sload none c fun v' _ => v' = d) <| sidx none 2 d j fun k => sfa 1 k fun l => sload none l fun m => R (.tuple #[m, .bool true]))) fun e => sbin Tryz.prog .pointer 123 .eql a (.pointer none) fun n => sguard n ( e [.bool true]) ( scall Tryz.prog 80 #[a, b] fun o => sbin Tryz.prog .none 3 .lss o (.int .i64 0) fun p => e [p])
theorem S87_ok {v0 v1 v2 : Value} {R : Value → SP} {l : St} (h : S87 v0 v1 v2 R l) : scall Tryz.prog 87 #[v0, v1, v2] R l := sok [v0, v1, v2] (.seq .leaf (.seq .leaf (.seq (.join [12, 13, 14, 15, 16, 17, 18, 19] [19] .leaf (.cond (.seq .leaf .leaf) .leaf)) (.seq (.draw [(0, []), (1, []), (2, []), (3, []), (4, []), (5, []), (6, [3]), (7, []), (8, []), (9, []), (10, []), (11, [])]) .leaf)))) Tryz.func87 (by kernel_rfl) (by kernel_rfl) h
def S88 (c k l : Value) (R : Value → SP) : SP := scall Tryz.prog 58 #[c, k] fun a => scall Tryz.prog 80 #[a, l] fun d => snil a fun m => sfa 8 m fun n => sload none n fun o => sidx none 2 o d fun p => sfa 1 p fun q => sload none q fun e => snil a fun r => sfa 8 r fun h => sload none h fun i => sslice (some 2) i none (some d) none fun t => snil a fun u => sfa 8 u fun f => sload none f fun g => sbin Tryz.prog .none 3 .add d (.int .i64 1) fun w => sslice (some 2) g (some w) none none fun x => sbuildSlR 200 2 (.agg #[.string ⟨#[]⟩, .int .i64 0]) 0 #[] fun y => sand (sload none f fun v' _ => v' = g) <| sand (sload none h fun v' _ => v' = i) <| sbuiltin Tryz.prog .append #[125, 125] 125 #[false, false] #[y, t] fun z => sand (sload none f fun v' _ => v' = g) <| sbuiltin Tryz.prog .append #[125, 125] 125 #[false, false] #[z, x] fun A => snil a fun B => sfa 8 B fun C => sstore 1 C A <| scall Tryz.prog 58 #[c, e] fun b => snil b fun D => sfa 10 D fun E => sload none E fun F => sbin Tryz.prog .none 3 .sub F (.int .i64 1) fun G => snil b fun H => sfa 10 H fun K => sstore 1 K G <| sjoin0 ( scall Tryz.prog 124 #[c, e] fun _ => R (.tuple #[])) fun j => snil b fun L => sfa 0 L fun M => sfa 1 M fun N => sload none N fun O => sbin Tryz.prog .none 3 .eql O (.int .i64 1) fun Q => sguard Q ( snil b fun T => sfa 9 T fun U => sstore 1 U e <| j []) ( j [])
theorem S88_ok {v0 v1 v2 : Value} {R : Value → SP} {l : St} (h : S88 v0 v1 v2 R l) : scall Tryz.prog 88 #[v0, v1, v2] R l := sok [v0, v1, v2] (.seq .leaf (.seq .leaf (.seq .leaf (.seq (.draw [(0, []), (2, []), (3, []), (4, []), (5, []), (6, []), (7, []), (9, []), (10, []), (11, []), (12, []), (13, []), (14, []), (15, []), (1, [5, 12]), (8, [12]), (16, []), (17, []), (18, []), (19, [])]) (.seq .leaf (.seq .leaf (.join [53, 54, 55, 56, 57, 58, 59, 60, 61, 62] [] (.seq .leaf (.cond .leaf .leaf)) .leaf))))))) Tryz.func88 (by kernel_rfl) (by kernel_rfl) h
def S89 (a : Value) (R : Value → SP) : SP := snil a fun b => sfa 0 b fun c => sfa 0 c fun d => sload none d fun e => sbin Tryz.prog .none 3 .eql e (.int .i64 1) fun f => sguard f ( R (.bool true)) ( snil a fun g => sfa 9 g fun h => sload none h fun i => sbin Tryz.prog .none 3 .gtr i (.int .i64 0) fun j => R j)
theorem S89_ok {v0 : Value} {R : Value → SP} {l : St} (h : S89 v0 R l) : scall Tryz.prog 89 #[v0] R l := sok [v0] (.seq .leaf (.seq .leaf .leaf)) Tryz.func89 (by kernel_rfl) (by kernel_rfl) h
def S90 (a e d : Value) (R : Value → SP) : SP := scall Tryz.prog 51 #[a, d] fun f => sbin Tryz.prog .pointer 109 .eql f (.pointer none) fun g => sguard g ( R (.bool false)) ( scall Tryz.prog 51 #[a, e] fun h => sloop1 h fun i b => sbin Tryz.prog .pointer 109 .neq b (.pointer none) fun j => sguard j ( snil b fun k => sfa 0 k fun l => sfa 0 l fun m => sload none m fun n => scall Tryz.prog 125 #[a, n] fun c => snil b fun o => sfa 0 o fun p => sfa 0 p fun q => sload none q fun r => sbin Tryz.prog .none 3 .eql c r fun t => sguard t ( R (.bool false)) ( sbin Tryz.prog .none 3 .eql c d fun u => sguard u ( R (.bool true)) ( scall Tryz.prog 51 #[a, c] fun w => i [w]))) ( R (.bool false)))
theorem S90_ok {v0 v1 v2 : Value} {R : Value → SP} {l : St} (h : S90 v0 v1 v2 R l) : scall Tryz.prog 90 #[v0, v1, v2] R l := sok [v0, v1, v2] (.seq .leaf (.seq (.seq .leaf (.cond (.seq .leaf .leaf) .leaf)) (.seq (.seq .leaf (.one (.loop [6, 7, 8, 16, 17, 18, 19, 20, 21, 22, 23, 24, 25, 26, 27, 28, 29, 30, 31, 32, 33, 34, 35, 36, 37] [7] (.seq (.seq .leaf (.cond .leaf .leaf)) (.one (.seq .leaf (.seq (.seq .leaf (.cond (.seq .leaf .leaf) .leaf)) (.seq (.seq .leaf (.cond (.seq .leaf .leaf) .leaf)) .leaf)))))))) (.seq .leaf .leaf)))) Tryz.func90 (by kernel_rfl) (by kernel_rfl) h
end Go.Sl
namespace Go.Sl
variable [Ghost]
open Go Go.Proofs
def S111 (b : Value) (R : Value → SP) : SP := scall Tryz.prog 168 #[b] fun a => scall Tryz.prog 169 #[a] fun _ => R a
theorem S111_ok {v0 : Value} {R : Value → SP} {l : St} (h : S111 v0 R l) : scall Tryz.prog 111 #[v0] R l := sok [v0] (.seq .leaf (.seq .leaf (.seq .leaf (.seq .leaf .leaf)))) Tryz.func111 (by kernel_rfl) (by kernel_rfl) h
def S113 (a : Value) (R : Value → SP) : SP := snew (Value.cells a) 161 fun b => R (.func (.func 171) #[] #[b])
theorem S113_ok {v0 : Value} {R : Value → SP} {l : St} (h : S113 v0 R l) : scall Tryz.prog 113 #[v0] R l := sok [v0] (.seq .leaf (.seq .leaf .leaf)) Tryz.func113 (by kernel_rfl) (by kernel_rfl) h
def S114 (b c : Value) (R : Value → SP) : SP := scall Tryz.prog 172 #[b, c] fun a => sbin Tryz.prog .pointer 208 .eql a (.pointer none) fun d => sguard d ( R (.int .i64 0)) ( snil a fun e => sfa 0 e fun f => sload none f fun g => slen .slice g fun h => R h)
theorem S114_ok {v0 v1 : Value} {R : Value → SP} {l : St} (h : S114 v0 v1 R l) : scall Tryz.prog 114 #[v0, v1] R l := sok [v0, v1] (.seq .leaf (.seq .leaf (.seq (.seq .leaf (.cond (.seq .leaf .leaf) .leaf)) (.seq .leaf .leaf)))) Tryz.func114 (by kernel_rfl) (by kernel_rfl) h
def S117 (a : Value) (R : Value → SP) : SP := sjoin1 (fun c => sguard c ( R (.tuple #[.pointer none, .int .i64 1])) ( smakeMapR none fun d => sbuildR [(0, 1), (1, 1), (2, 1)] #[.int .i64 0, .map none, .int .i64 0] #[(0, a), (1, d)] fun e => snew (Value.cells e) 180 fun f => R (.tuple #[f, .int .i64 0]))) fun b => sbin Tryz.prog .none 3 .lss a (.int .i64 0) fun g => sguard g ( b [.bool true]) ( sbin Tryz.prog .none 3 .gtr a (.int .i64 256) fun h => b [h])
theorem S117_ok {v0 : Value} {R : Value → SP} {l : St} (h : S117 v0 R l) : scall Tryz.prog 117 #[v0] R l := sok [v0] (.seq .leaf (.seq (.join [4, 5, 6, 7, 8, 9] [9] .leaf (.cond (.seq .leaf .leaf) .leaf)) (.seq .leaf .leaf))) Tryz.func117 (by kernel_rfl) (by kernel_rfl) h
def S118 (a : Value) (R : Value → SP) : SP := sbuildR [(0, 1), (1, 1)] #[.int .i64 0, .slice none 0 0] #[(0, a)] fun b => snew (Value.cells b) 207 fun c => R c
theorem S118_ok {v0 : Value} {R : Value → SP} {l : St} (h : S118 v0 R l) : scall Tryz.prog 118 #[v0] R l := sok [v0] (.seq .leaf (.seq .leaf .leaf)) Tryz.func118 (by kernel_rfl) (by kernel_rfl) h
def S120 (a : Value) (R : Value → SP) : SP := sbin Tryz.prog .none 9 .eql a (.string ⟨#[46]⟩) fun b => sguard b ( R (.bool true)) ( sbin Tryz.prog .none 9 .eql a (.string ⟨#[46, 46]⟩) fun c => R c)
theorem S120_ok {v0 : Value} {R : Value → SP} {l : St} (h : S120 v0 R l) : scall Tryz.prog 120 #[v0] R l := sok [v0] (.seq .leaf (.seq .leaf .leaf)) Tryz.func120 (by kernel_rfl) (by kernel_rfl) h
def S121 (a : Value) (R : Value → SP) : SP := snil a fun f => sfa 2 f fun g => sload none g fun h => sbin Tryz.prog .none 3 .add h (.int .i64 1) fun i => snil a fun j => sfa 2 j fun k => sstore 1 k i <| snil a fun l => sfa 1 l fun b => sload none b fun c => snil a fun m => sfa 2 m fun d => sload none d fun e => smakeMapR none fun n => sand (sload none d fun v' _ => v' = e) <| sand (sload none b fun v' _ => v' = c) <| sbuildR [(0, 1), (1, 1)] #[.int .i64 0, .map none] #[(1, n)] fun o => snew (Value.cells o) 183 fun p => sand (sload none d fun v' _ => v' = e) <| sand (sload none b fun v' _ => v' = c) <| smapset (.int .i64) c e p <| snil a fun q => sfa 2 q fun r => sload none r fun t => R t
theorem S121_ok {v0 : Value} {R : Value → SP} {l : St} (h : S121 v0 R l) : scall Tryz.prog 121 #[v0] R l := sok [v0] (.seq .leaf (.seq .leaf (.seq (.draw [(0, []), (1, []), (2, []), (3, []), (4, []), (5, []), (6, []), (7, []), (8, [3, 7]), (9, []), (10, [3, 7]), (11, [])]) (.seq .leaf .leaf)))) Tryz.func121 (by kernel_rfl) (by kernel_rfl) h
def S122 (a : Value) (R : Value → SP) : SP := sbin Tryz.prog .none 9 .eql a (.string ⟨#[46]⟩) fun b => sguard b ( R (.bool true)) ( sbin Tryz.prog .none 9 .eql a (.string ⟨#[46, 46]⟩) fun c => R c)
theorem S122_ok {v0 : Value} {R : Value → SP} {l : St} (h : S122 v0 R l) : scall Tryz.prog 122 #[v0] R l := sok [v0] (.seq .leaf (.seq .leaf .leaf)) Tryz.func122 (by kernel_rfl) (by kernel_rfl) h
def S123 (b a : Value) (R : Value → SP) : SP := sjoin1 (fun d => sguard d ( R (.tuple #[])) ( snil b fun e => sfa 4 e fun f => sload none f fun g => sbin Tryz.prog .none 3 .add g (.int .i64 1) fun h => snil b fun i => sfa 4 i fun j => sstore 1 j h <| snil b fun k => sfa 2 k fun l => sload none l fun m => snil a fun n => sfa 0 n fun o => sfa 0 o fun p => sload none p fun q => sbuiltin Tryz.prog .delete #[115, 3] 0 #[false, false] #[m, q] fun _ => snil a fun r => sfa 0 r fun t => sfa 1 t fun u => sload none u fun w => sbin Tryz.prog .none 3 .eql w (.int .i64 2) fun x => sguard x ( snil b fun y => sfa 1 y fun z => sload none z fun A => snil a fun B => sfa 12 B fun C => sload none C fun D => scall Tryz.prog 174 #[A, D] fun _ => R (.tuple #[])) ( R (.tuple #[])))) fun c => scall Tryz.prog 89 #[a] fun E => sguard E ( c [.bool true]) ( snil a fun F => sfa 9 F fun G => sload none G fun H => sbin Tryz.prog .none 3 .gtr H (.int .i64 0) fun K => sguard K ( c [.bool true]) ( snil a fun L => sfa 10 L fun M => sload none M fun N => sbin Tryz.prog .none 3 .gtr N (.int .i64 0) fun O => c [O]))
theorem S123_ok {v0 v1 : Value} {R : Value → SP} {l : St} (h : S123 v0 v1 R l) : scall Tryz.prog 123 #[v0, v1] R l := sok [v0, v1] (.seq (.join [4, 5, 6, 7, 8, 9, 10, 11, 12, 13, 14, 15, 16, 17, 18, 19] [19] .leaf (.cond .leaf .leaf)) (.seq .leaf (.seq (.draw [(0, []), (1, []), (2, []), (3, []), (4, []), (5, []), (6, []), (7, []), (8, []), (9, [])]) (.seq .leaf (.cond (.draw [(0, []), (1, []), (2, []), (3, []), (4, []), (5, []), (6, []), (7, []), (8, [])]) .leaf))))) Tryz.func123 (by kernel_rfl) (by kernel_rfl) h
def S124 (b c : Value) (R : Value → SP) : SP := scall Tryz.prog 58 #[b, c] fun a => sjoin1 (fun f => sguard f ( R (.tuple #[])) ( sjoin0 ( snil b fun g => sfa 2 g fun h => sload none h fun i => sbin Tryz.prog .none 3 .sub c (.int .i64 1) fun j => sidx none 1 i j fun k => sstore 1 k (.pointer none) <| R (.tuple #[])) fun e => snil a fun l => sfa 0 l fun m => sfa 1 m fun n => sload none n fun o => sbin Tryz.prog .none 3 .eql o (.int .i64 2) fun p => sguard p ( snil b fun q => sfa 1 q fun r => sload none r fun t => snil a fun u => sfa 12 u fun w => sload none w fun x => scall Tryz.prog 175 #[t, x] fun _ => e []) ( e []))) fun d => sbin Tryz.prog .none 3 .eql c (.int .i64 1) fun y => sguard y ( d [.bool true]) ( snil a fun z => sfa 10 z fun A => sload none A fun B => sbin Tryz.prog .none 3 .gtr B (.int .i64 0) fun C => sguard C ( d [.bool true]) ( snil a fun D => sfa 11 D fun E => sload none E fun F => sbin Tryz.prog .none 3 .gtr F (.int .i64 0) fun G => d [G]))
theorem S124_ok {v0 v1 : Value} {R : Value → SP} {l : St} (h : S124 v0 v1 R l) : scall Tryz.prog 124 #[v0, v1] R l := sok [v0, v1] (.seq .leaf (.seq (.join [8, 9, 10, 11, 12, 13, 14, 15, 16, 17, 18, 19, 20, 21, 22, 23] [23] .leaf (.cond .leaf .leaf)) (.join [24, 25, 26, 27, 28, 29, 30, 31, 32, 33, 34, 35, 36, 37, 38] [] (.seq .leaf (.cond (.draw [(0, []), (1, []), (2, []), (3, []), (4, []), (5, []), (6, []), (7, []), (8, [])]) .leaf)) .leaf))) Tryz.func124 (by kernel_rfl) (by kernel_rfl) h
def S125 (c b : Value) (R : Value → SP) : SP := scall Tryz.prog 51 #[c, b] fun a => sbin Tryz.prog .pointer 109 .eql a (.pointer none) fun d => sguard d ( R (.int .i64 0)) ( scall Tryz.prog 89 #[a] fun e => sun .not e fun f => sguard f ( R b) ( snil a fun g => sfa 8 g fun h => sload none h fun i => R i))
theorem S125_ok {v0 v1 : Value} {R : Value → SP} {l : St} (h : S125 v0 v1 R l) : scall Tryz.prog 125 #[v0, v1] R l := sok [v0, v1] (.seq .leaf (.seq .leaf (.seq (.one (.seq .leaf (.cond (.seq .leaf .leaf) (.seq .leaf (.cond (.seq .leaf .leaf) .leaf))))) (.seq .leaf .leaf)))) Tryz.func125 (by kernel_rfl) (by kernel_rfl) h
def S126 (f g : Value) (R : Value → SP) : SP := snew (Value.cells g) 27 fun h => snew #[.int .i64 0] 3 fun a => snew #[.bool false] 4 fun b => scall Tryz.prog 128 #[f] fun i => srangeX Tryz.prog i 2 (fun xs1 cont1 j => sarg xs1 0 fun c => sarg xs1 1 fun k => snew #[.int .i64 0, .int .i64 0, .int .i64 0] 159 fun d => sstore 3 d k <| sjoin1 (fun l => sguard l ( sstore 1 a c <| sstore 1 b (.bool true) <| j none) ( cont1)) fun e => sbin Tryz.prog .none 3 .gtr c (.int .i64 0) fun m => sguard m ( sfa 1 d fun n => sload (some 2) n fun o => sload (some 2) h fun p => sbin Tryz.prog .none 27 .eql o p fun q => e [q]) ( e [.bool false])) ( sstore 1 a (.int .i64 0) <| sstore 1 b (.bool false) <| sload none a fun vr => sload none b fun r => R (.tuple #[vr, r])) ( sload none a fun t => sload none b fun u => R (.tuple #[t, u])) []
theorem S126_ok {v0 v1 : Value} {R : Value → SP} {l : St} (h : S126 v0 v1 R l) : scall Tryz.prog 126 #[v0, v1] R l := sok [v0, v1] (.seq .leaf (.seq (.seq .leaf (.one (.range [] (.seq .leaf .leaf) (.one (.join [12, 13, 14, 15, 16, 17, 18, 19] [19] .leaf (.cond (.seq .leaf .leaf) .leaf)))))) (.seq .leaf .leaf))) Tryz.func126 (by kernel_rfl) (by kernel_rfl) h
def S127 (b d : Value) (R : Value → SP) : SP := snew (Value.cells d) 27 fun e => sloop1 (.int .i64 1) fun f a => snil b fun g => sfa 0 g fun h => sload none h fun i => slen .slice i fun j => sbin Tryz.prog .none 3 .lss a j fun k => sguard k ( sjoin1 (fun l => sguard l ( R a) ( sbin Tryz.prog .none 3 .add a (.int .i64 1) fun m => f [m])) fun c => snil b fun n => sfa 0 n fun o => sload none o fun p => sidx none 4 p a fun q => sfa 3 q fun r => sload none r fun t => sguard t ( snil b fun u => sfa 0 u fun w => sload none w fun x => sidx none 4 x a fun y => sfa 0 y fun z => sload (some 2) z fun A => sload (some 2) e fun B => sbin Tryz.prog .none 27 .eql A B fun C => c [C]) ( c [.bool false])) ( R (.int .i64 (-1)))
theorem S127_ok {v0 v1 : Value} {R : Value → SP} {l : St} (h : S127 v0 v1 R l) : scall Tryz.prog 127 #[v0, v1] R l := sok [v0, v1] (.seq .leaf (.seq (.seq .leaf (.one (.loop [4, 5, 6, 7, 8, 9, 10, 11, 12, 13, 14, 15, 16, 17, 18, 19, 20, 21, 22, 23, 24, 25, 26, 27, 28, 29, 30, 31, 32, 33, 34, 35] [5] (.seq (.seq .leaf (.cond .leaf .leaf)) (.seq (.one (.join [15, 16, 17, 18, 19, 20, 21, 22, 23, 24, 25, 26, 27, 28, 29, 30, 31, 32, 33, 34] [34] (.draw [(0, []), (1, []), (2, []), (3, []), (4, []), (5, []), (6, []), (7, []), (8, []), (9, []), (10, []), (11, []), (12, []), (13, []), (14, []), (15, []), (16, []), (17, []), (18, []), (19, [])]) (.cond (.seq .leaf .leaf) .leaf))) .leaf))))) (.seq .leaf .leaf))) Tryz.func127 (by kernel_rfl) (by kernel_rfl) h
def S128 (a : Value) (R : Value → SP) : SP := snew (Value.cells a) 25 fun b => R (.func (.func 176) #[] #[b])
theorem S128_ok {v0 : Value} {R : Value → SP} {l : St} (h : S128 v0 R l) : scall Tryz.prog 128 #[v0] R l := sok [v0] (.seq .leaf (.seq .leaf .leaf)) Tryz.func128 (by kernel_rfl) (by kernel_rfl) h
def S129 (a b g : Value) (R : Value → SP) : SP := snew (Value.cells g) 27 fun c => sjoin1 (fun h => sguard h ( R (.bool false)) ( sfa 1 c fun i => sload none i fun j => scall Tryz.prog 16 #[a, j] fun d => sext d 0 fun k => sext d 1 fun l => snew #[.int .i64 0, .int .i64 0, .int .i64 0, .int .i64 0, .int .i64 0, .int .i64 0, .int .i64 0] 42 fun m => sstore 7 m k <| sfa 0 c fun n => sload none n fun o => scall Tryz.prog 69 #[b, o] fun e => sext e 0 fun _ => sext e 1 fun p => sguard l ( R p) ( R (.bool false)))) fun f => sbin Tryz.prog .pointer 24 .eql a (.pointer none) fun q => sguard q ( f [.bool true]) ( sbin Tryz.prog .pointer 25 .eql b (.pointer none) fun r => f [r])
theorem S129_ok {v0 v1 v2 : Value} {R : Value → SP} {l : St} (h : S129 v0 v1 v2 R l) : scall Tryz.prog 129 #[v0, v1, v2] R l := sok [v0, v1, v2] (.seq .leaf (.seq (.join [11, 12, 13, 14, 15, 16] [16] .leaf (.cond (.seq .leaf .leaf) .leaf)) (.seq .leaf (.seq .leaf (.seq .leaf .leaf))))) Tryz.func129 (by kernel_rfl) (by kernel_rfl) h
def S130 (c : Value) (R : Value → SP) : SP := snew #[.bool false, .bool false, .slice none 0 0] 221 fun a => snew #[.int .i64 0] 49 fun b => sbin Tryz.prog .none 9 .eql c (.string ⟨#[]⟩) fun f => sguard f ( sbuildR [(0, 1), (1, 1), (2, 1)] #[.bool false, .bool false, .slice none 0 0] #[] fun g => sstore 3 a g <| sstore 1 b (.int .i64 32) <| sload (some 3) a fun vr => sload none b fun h => R (.tuple #[vr, h])) ( slen .str c fun i => sbin Tryz.prog .none 3 .gtr i (.int .i64 4096) fun j => sguard j ( sbuildR [(0, 1), (1, 1), (2, 1)] #[.bool false, .bool false, .slice none 0 0] #[] fun k => sstore 3 a k <| sstore 1 b (.int .i64 45) <| sload (some 3) a fun l => sload none b fun m => R (.tuple #[l, m])) ( scall Tryz.prog 119 #[c, .int .u8 0] fun n => sbin Tryz.prog .none 3 .geq n (.int .i64 0) fun o => sguard o ( sbuildR [(0, 1), (1, 1), (2, 1)] #[.bool false, .bool false, .slice none 0 0] #[] fun p => sstore 3 a p <| sstore 1 b (.int .i64 39) <| sload (some 3) a fun q => sload none b fun r => R (.tuple #[q, r])) ( sindex c (.int .i64 0) fun t => sbin Tryz.prog .none 5 .eql t (.int .u8 47) fun u => slen .str c fun w => sbin Tryz.prog .none 3 .sub w (.int .i64 1) fun x => sindex c x fun y => sbin Tryz.prog .none 5 .eql y (.int .u8 47) fun z => sbuildR [(0, 1), (1, 1), (2, 1)] #[.bool false, .bool false, .slice none 0 0] #[(0, u), (1, z)] fun A => snew #[.bool false, .bool false, .slice none 0 0] 221 fun d => sstore 3 d A <| scall Tryz.prog 177 #[c] fun B => srangeX Tryz.prog B 1 (fun xs1 cont1 C => sarg xs1 0 fun e => slen .str e fun D => sbin Tryz.prog .none 3 .gtr D (.int .i64 255) fun E => sguard E ( sbuildR [(0, 1), (1, 1), (2, 1)] #[.bool false, .bool false, .slice none 0 0] #[] fun F => sstore 3 a F <| sstore 1 b (.int .i64 45) <| C none) ( sfa 2 d fun G => sload none G fun H => sbuildSlR 9 1 (.string ⟨#[]⟩) 1 #[(0, e)] fun K => sbuiltin Tryz.prog .append #[59, 59] 59 #[false, false] #[H, K] fun L => sfa 2 d fun M => sstore 1 M L <| cont1)) ( sload (some 3) d fun N => sstore 3 a N <| sstore 1 b (.int .i64 0) <| sload (some 3) a fun O => sload none b fun Q => R (.tuple #[O, Q])) ( sload (some 3) a fun T => sload none b fun U => R (.tuple #[T, U])) [])))
theorem S130_ok {v0 : Value} {R : Value → SP} {l : St} (h : S130 v0 R l) : scall Tryz.prog 130 #[v0] R l := sok [v0] (.seq .leaf (.seq (.one (.seq .leaf (.cond (.seq .leaf .leaf) (.seq .leaf (.cond (.seq .leaf .leaf) (.seq .leaf (.cond (.seq .leaf .leaf) .leaf))))))) (.seq (.draw [(0, []), (1, []), (2, []), (3, []), (4, []), (5, []), (6, []), (7, []), (8, []), (9, []), (10, []), (11, [])]) (.seq (.seq .leaf (.one (.range [] .leaf (.one (.seq (.seq .leaf (.cond (.seq .leaf .leaf) .leaf)) .leaf))))) (.seq .leaf .leaf))))) Tryz.func130 (by kernel_rfl) (by kernel_rfl) h
def S131 (b f : Value) (R : Value → SP) : SP := snew (Value.cells f) 27 fun a => snew #[.int .i64 0, .int .i64 0] 27 fun c => sloop0  fun g  => sload (some 2) a fun h => scall Tryz.prog 126 #[b, h] fun d => sext d 0 fun e => sext d 1 fun i => sun .not i fun j => sguard j ( sload (some 2) a fun k => sstore 2 c k <| sload (some 2) c fun vr => R vr) ( snil b fun l => sfa 0 l fun m => sload none m fun n => slookup (.int .i64) (some (.agg #[.int .i64 0, .int .i64 0, .int .i64 0])) n e false fun o => sfield none 0 o fun p => sbuildR [(0, 1), (1, 1)] #[.int .i64 0, .int .i64 0] #[(0, e), (1, p)] fun q => sstore 2 a q <| g [])
theorem S131_ok {v0 v1 : Value} {R : Value → SP} {l : St} (h : S131 v0 v1 R l) : scall Tryz.prog 131 #[v0, v1] R l := sok [v0, v1] (.seq .leaf (.one (.loop [5, 6, 7, 8, 9, 10, 11, 12, 13, 14, 15, 16, 17, 18, 19, 20, 21, 22, 23, 24] [] (.one (.seq .leaf (.seq (.seq .leaf (.cond (.seq .leaf .leaf) .leaf)) .leaf)))))) Tryz.func131 (by kernel_rfl) (by kernel_rfl) h
def S132 (a : Value) (R : Value → SP) : SP := snil a fun b => sfa 7 b fun c => sload (some 2) c fun d => snil a fun e => sfa 7 e fun f => sload (some 2) f fun g => sbuildR [(0, 2), (2, 1), (3, 2), (5, 1), (6, 1)] #[.int .i64 0, .int .i64 0, .string ⟨#[]⟩, .int .i64 0, .int .i64 0, .bool false, .bool false] #[(0, d), (2, g), (3, .bool true)] fun h => snil a fun i => sfa 13 i fun j => sstore 7 j h <| R (.tuple #[])
theorem S132_ok {v0 : Value} {R : Value → SP} {l : St} (h : S132 v0 R l) : scall Tryz.prog 132 #[v0] R l := sok [v0] (.draw [(0, []), (1, []), (2, []), (3, []), (4, []), (5, []), (6, []), (7, []), (8, []), (9, []), (10, []), (11, []), (12, [])]) Tryz.func132 (by kernel_rfl) (by kernel_rfl) h
def S133 (a : Value) (R : Value → SP) : SP := snil a fun k => sfa 9 k fun l => sload none l fun m => sidx none 1 m (.int .i64 0) fun n => sload none n fun c => snil a fun o => sfa 9 o fun p => sload none p fun q => sslice (some 1) q (some (.int .i64 1)) none none fun r => snil a fun t => sfa 9 t fun u => sstore 1 u r <| snil a fun w => sfa 12 w fun x => sload none x fun y => sbin Tryz.prog .none 3 .add y (.int .i64 1) fun z => snil a fun A => sfa 12 A fun B => sstore 1 B z <| snil a fun C => sfa 0 C fun D => sload none D fun E => snil a fun F => sfa 7 F fun G => sfa 1 G fun H => sload none H fun K => scall Tryz.prog 16 #[E, K] fun f => sext f 0 fun L => sext f 1 fun _ => snew #[.int .i64 0, .int .i64 0, .int .i64 0, .int .i64 0, .int .i64 0, .int .i64 0, .int .i64 0] 42 fun d => sstore 7 d L <| sfa 1 d fun M => sload none M fun N => sbin Tryz.prog .none 3 .neq N (.int .i64 1) fun O => sguard O ( R (.tuple #[.bool true, .int .i64 37])) ( snil a fun Q => sfa 2 Q fun T => sload (some 2) T fun U => sload (some 7) d fun V => scall Tryz.prog 178 #[U, V, .int .i64 1] fun W => sun .not W fun X => sguard X ( R (.tuple #[.bool true, .int .i64 34])) ( sbin Tryz.prog .none 9 .eql c (.string ⟨#[46]⟩) fun Y => sguard Y ( scall Tryz.prog 132 #[a] fun _ => R (.tuple #[.bool false, .int .i64 0])) ( sbin Tryz.prog .none 9 .eql c (.string ⟨#[46, 46]⟩) fun Z => sguard Z ( scall Tryz.prog 179 #[a] fun _ => scall Tryz.prog 132 #[a] fun _ => R (.tuple #[.bool false, .int .i64 0])) ( snil a fun a0 => sfa 7 a0 fun a1 => sload (some 2) a1 fun a2 => snew #[.int .i64 0, .int .i64 0] 27 fun b => sstore 2 b a2 <| snil a fun a3 => sfa 0 a3 fun a4 => sload none a4 fun a5 => sfa 1 b fun a6 => sload none a6 fun a7 => scall Tryz.prog 15 #[a5, a7, c] fun g => sext g 0 fun a8 => sext g 1 fun a9 => sun .not a9 fun a10 => sguard a10 ( snil a fun a11 => sfa 9 a11 fun a12 => sload none a12 fun a13 => slen .slice a13 fun a14 => sbin Tryz.prog .none 3 .gtr a14 (.int .i64 0) fun a15 => sguard a15 ( R (.tuple #[.bool true, .int .i64 32])) ( sload (some 2) b fun a16 => snil a fun a17 => sfa 10 a17 fun a18 => sload none a18 fun a19 => sbuildR [(0, 2), (2, 1), (3, 2), (5, 1), (6, 1)] #[.int .i64 0, .int .i64 0, .string ⟨#[]⟩, .int .i64 0, .int .i64 0, .bool false, .bool false] #[(0, a16), (1, c), (4, a19)] fun a20 => snil a fun a21 => sfa 13 a21 fun a22 => sstore 7 a22 a20 <| R (.tuple #[.bool true, .int .i64 0]))) ( snil a fun a23 => sfa 1 a23 fun a24 => sload none a24 fun a25 => sfa 0 b fun a26 => sload none a26 fun a27 => sbuildR [(0, 1), (1, 1)] #[.int .i64 0, .int .i64 0] #[(0, a27), (1, a8)] fun a28 => scall Tryz.prog 131 #[a25, a28] fun a29 => snil a fun a30 => sfa 7 a30 fun a31 => sstore 2 a31 a29 <| snil a fun a32 => sfa 0 a32 fun a33 => sload none a33 fun a34 => snil a fun a35 => sfa 7 a35 fun a36 => sfa 1 a36 fun a37 => sload none a37 fun a38 => scall Tryz.prog 16 #[a34, a38] fun h => sext h 0 fun a39 => sext h 1 fun _ => sstore 7 d a39 <| sjoin1 (fun a40 => sguard a40 ( sload (some 2) b fun i => snil a fun a41 => sfa 0 a41 fun a42 => sload none a42 fun a43 => snil a fun a44 => sfa 7 a44 fun b0 => sfa 1 b0 fun b1 => sload none b1 fun b2 => scall Tryz.prog 34 #[a43, b2] fun b3 => sand (sload (some 2) b fun v' _ => v' = i) <| scall Tryz.prog 180 #[a, i, b3] fun j => sbin Tryz.prog .none 49 .neq j (.int .i64 0) fun b4 => R (.tuple #[b4, j])) ( sload (some 2) b fun b5 => snil a fun b6 => sfa 7 b6 fun b7 => sload (some 2) b7 fun b8 => sbuildR [(0, 2), (2, 1), (3, 2), (5, 1), (6, 1)] #[.int .i64 0, .int .i64 0, .string ⟨#[]⟩, .int .i64 0, .int .i64 0, .bool false, .bool false] #[(0, b5), (1, c), (2, b8), (3, .bool true)] fun b9 => snil a fun b10 => sfa 13 b10 fun b11 => sstore 7 b11 b9 <| R (.tuple #[.bool false, .int .i64 0]))) fun e => sfa 1 d fun b12 => sload none b12 fun b13 => sbin Tryz.prog .none 3 .eql b13 (.int .i64 3) fun b14 => sguard b14 ( snil a fun b15 => sfa 9 b15 fun b16 => sload none b16 fun b17 => slen .slice b17 fun b18 => sbin Tryz.prog .none 3 .gtr b18 (.int .i64 0) fun b19 => sguard b19 ( e [.bool true]) ( snil a fun b20 => sfa 6 b20 fun b21 => sload none b21 fun b22 => sguard b22 ( e [.bool true]) ( snil a fun b23 => sfa 10 b23 fun b24 => sload none b24 fun b25 => e [b25]))) ( e [.bool false]))))))
theorem S133_ok {v0 : Value} {R : Value → SP} {l : St} (h : S133 v0 R l) : scall Tryz.prog 133 #[v0] R l := sok [v0] (.seq .leaf (.seq .leaf (.seq .leaf (.seq .leaf (.seq (.draw [(0, []), (1, []), (2, []), (3, []), (4, []), (5, []), (6, []), (7, []), (8, []), (9, []), (10, []), (11, []), (12, []), (13, []), (14, []), (15, [])]) (.seq (.one (.seq .leaf (.cond (.seq .leaf .leaf) (.seq (.draw [(0, []), (1, []), (2, []), (3, []), (4, []), (5, []), (6, []), (7, [])]) (.cond (.seq .leaf .leaf) (.seq .leaf (.cond (.seq .leaf (.seq .leaf .leaf)) (.seq .leaf (.cond (.seq .leaf (.seq .leaf (.seq .leaf .leaf))) .leaf))))))))) (.seq .leaf (.seq (.draw [(0, []), (1, []), (2, []), (3, []), (4, []), (5, []), (6, []), (7, []), (8, []), (9, []), (10, []), (11, []), (12, [])]) (.seq (.seq .leaf (.cond (.seq (.seq .leaf (.cond (.seq .leaf .leaf) .leaf)) (.seq (.draw [(0, []), (1, []), (2, []), (3, []), (4, []), (5, []), (6, []), (7, []), (8, []), (9, []), (10, [])]) (.seq .leaf .leaf))) .leaf)) (.seq (.draw [(0, []), (1, []), (2, []), (3, []), (4, []), (5, []), (6, []), (7, []), (8, []), (9, []), (10, []), (11, []), (12, [])]) (.seq (.draw [(0, []), (1, []), (2, []), (3, []), (4, []), (5, []), (6, []), (7, []), (8, []), (9, []), (10, []), (11, []), (12, []), (13, [])]) (.seq (.join [127, 128, 129, 130, 131, 132, 133, 134, 135, 136, 137, 138, 139, 140, 141, 142, 143, 144, 145, 146, 147, 148, 149] [149] .leaf (.cond (.seq (.draw [(0, []), (1, []), (2, []), (3, []), (4, []), (5, []), (6, []), (7, []), (8, []), (9, []), (10, []), (11, [1]), (12, []), (13, [])]) (.seq .leaf .leaf)) .leaf)) (.seq (.draw [(0, []), (1, []), (2, []), (3, []), (4, []), (5, []), (6, []), (7, []), (8, []), (9, []), (10, [])]) (.seq .leaf .leaf)))))))))))))) Tryz.func133 (by kernel_rfl) (by kernel_rfl) h
def S134 (a d b : Value) (R : Value → SP) : SP := snew (Value.cells d) 48 fun e => snil a fun f => sfa 1 f fun g => sstore 1 g (.bool true) <| snil a fun h => sfa 9 h fun i => sstore 1 i b <| sjoin0 ( R (.bool true)) fun c => sbin Tryz.prog .none 49 .eql b (.int .i64 0) fun j => sguard j ( sload (some 7) e fun k => snil a fun l => sfa 2 l fun m => sstore 7 m k <| c []) ( c [])
theorem S134_ok {v0 v1 v2 : Value} {R : Value → SP} {l : St} (h : S134 v0 v1 v2 R l) : scall Tryz.prog 134 #[v0, v1, v2] R l := sok [v0, v1, v2] (.seq .leaf (.seq .leaf (.join [14, 15, 16, 17, 18, 19] [] (.seq .leaf (.cond .leaf .leaf)) (.seq .leaf .leaf)))) Tryz.func134 (by kernel_rfl) (by kernel_rfl) h
def S135 (a : Value) (R : Value → SP) : SP := scall Tryz.prog 181 #[.slice none 0 0, a] fun b => R b
theorem S135_ok {v0 : Value} {R : Value → SP} {l : St} (h : S135 v0 R l) : scall Tryz.prog 135 #[v0] R l := sok [v0] (.seq .leaf (.seq .leaf .leaf)) Tryz.func135 (by kernel_rfl) (by kernel_rfl) h
def S137 (b c : Value) (R : Value → SP) : SP := sload none c fun d => srangeMap d fun a => sloop0  fun e  => snext a fun f => sext f 0 fun g => sguard g ( sentry a fun h => sext h 0 fun i => scallv Tryz.prog b #[i] fun j => sun .not j fun k => sguard k ( R (.tuple #[])) ( e [])) ( R (.tuple #[]))
theorem S137_ok {v0 v1 : Value} {R : Value → SP} {l : St} (h : S137 v0 v1 R l) : scall Tryz.prog 137 #[v0, v1] R l := sok [v0, v1] (.seq .leaf (.one (.loop [3, 6, 7, 8, 9, 10, 11, 12, 13] [] (.seq .leaf (.seq (.cond .leaf .leaf) (.one (.seq .leaf (.seq .leaf (.cond .leaf .leaf))))))))) Tryz.func137 (by kernel_rfl) (by kernel_rfl) h
end Go.Sl
namespace Go.Sl
variable [Ghost]
open Go Go.Mo Go.Proofs
attribute [local irreducible] snil sfa sext sfield sguard sun sbin slen sload sstore snew snewObj sbuildR sbuildSlR smakeMapR smakeSlR slookup smapset srangeMap snext sentry scall scallv sextern sbuiltin sidx sindex sslice sconv srangeX sarg sand sjoin0 sjoin1 sjoin2 sloop0 sloop1 sloop2
section
variable {l : St} {t b : Nat} {T : Tree} {β : Int → Nat} {n : Int} {x : Nd} {R : Value → SP}
theorem named_ok (hn : NodeAt l b n x) (h : R (.bool (namedB n x)) l) : scall Tryz.prog 89 #[ptr b 0] R l := by
  refine S89_ok ?_
  obtain ⟨ty, up, nm, hk, -⟩ := hn.cells
  unfold S89
  (repeat' (first | refine z0 ?_ | refine z1 ?_ | refine z2 ?_ | refine z3 ?_ | refine z4 ?_ | refine z5 ?_ | refine z6 ?_ | refine z7 (fun hg => ?_) (fun hg => ?_) | refine z8 (fun hg => ?_) (fun hg => ?_) | refine z9 ?_ | refine za ?_ | refine zb ?_ | refine zc ?_ | refine zd ?_ | refine ze ?_ | refine zf ?_ | refine zg ?_ | refine zh ?_ | refine zi (fun _ => ?_) | refine zj (fun _ => ?_) | refine zk ?_ | refine zl ?_ ?_ | refine zm ?_ | refine zn ?_ | refine zo ?_ | exact (rfl : _ = _)))
  all_goals simpa [namedB, hg] using h
theorem tdir_ok (hT : TreeAt l t T β)
    (h1 : ∀ x, T.dir n = some x → T.at n = some x → x.kind = 1 → NodeAt l (β n) n x → R (ptr (β n) 0) l) (h2 : T.dir n = none → R (.pointer none) l) : scall Tryz.prog 51 #[ptr t 0, vi n] R l := by
  refine S51_ok ?_
  obtain ⟨ty, p, m, turns, es, clk, xs, hk, hkm, hm, hat, -, hxs⟩ := hT.open
  unfold S51
  (repeat' (first | refine z0 ?_ | refine z1 ?_ | refine z2 ?_ | refine z3 ?_ | refine z4 ?_ | refine z5 ?_ | refine z6 ?_ | refine z7 (fun hg => ?_) (fun hg => ?_) | refine z8 (fun hg => ?_) (fun hg => ?_) | refine z9 ?_ | refine za ?_ | refine zb ?_ | refine zc ?_ | refine zd ?_ | refine ze ?_ | refine zf ?_ | refine zg ?_ | refine zh ?_ | refine zi (fun _ => ?_) | refine zj (fun _ => ?_) | refine zk ?_ | refine zl ?_ ?_ | refine zm ?_ | refine zn ?_ | refine zo ?_ | exact (rfl : _ = _)))
  refine r_all hkm hm hxs (fun x hx => ?_) (fun hx => ?_)
  · have hn := hat n x hx
    obtain ⟨ty, up, nm, hk2, -⟩ := hn.cells
    (repeat' (first | refine z0 ?_ | refine z1 ?_ | refine z2 ?_ | refine z3 ?_ | refine z4 ?_ | refine z5 ?_ | refine z6 ?_ | refine z7 (fun hg => ?_) (fun hg => ?_) | refine z8 (fun hg => ?_) (fun hg => ?_) | refine z9 ?_ | refine za ?_ | refine zb ?_ | refine zc ?_ | refine zd ?_ | refine ze ?_ | refine zf ?_ | refine zg ?_ | refine zh ?_ | refine zi (fun _ => ?_) | refine zj (fun _ => ?_) | refine zk ?_ | refine zl ?_ ?_ | refine zm ?_ | refine zn ?_ | refine zo ?_ | exact (rfl : _ = _)))
    · rename_i hg
      have hk : x.kind ≠ 1 := by simpa using hg
      exact h2 (by simp [Tree.dir, hx, hk])
    · rename_i hg
      have hk : x.kind = 1 := by simpa using hg
      exact h1 x (by simp [Tree.dir, hx, hk]) hx hk hn
  · (repeat' (first | refine z0 ?_ | refine z1 ?_ | refine z2 ?_ | refine z3 ?_ | refine z4 ?_ | refine z5 ?_ | refine z6 ?_ | refine z7 (fun hg => ?_) (fun hg => ?_) | refine z8 (fun hg => ?_) (fun hg => ?_) | refine z9 ?_ | refine za ?_ | refine zb ?_ | refine zc ?_ | refine zd ?_ | refine ze ?_ | refine zf ?_ | refine zg ?_ | refine zh ?_ | refine zi (fun _ => ?_) | refine zj (fun _ => ?_) | refine zk ?_ | refine zl ?_ ?_ | refine zm ?_ | refine zn ?_ | refine zo ?_ | exact (rfl : _ = _)))
    exact h2 (by simp [Tree.dir, hx])
theorem ttext_ok (hT : TreeAt l t T β) (h : R (vstr' (T.text n)) l) : scall Tryz.prog 34 #[ptr t 0, vi n] R l := by
  refine S34_ok ?_
  obtain ⟨ty, p, m, turns, es, clk, xs, hk, hkm, hm, hat, -, hxs⟩ := hT.open
  unfold S34
  (repeat' (first | refine z0 ?_ | refine z1 ?_ | refine z2 ?_ | refine z3 ?_ | refine z4 ?_ | refine z5 ?_ | refine z6 ?_ | refine z7 (fun hg => ?_) (fun hg => ?_) | refine z8 (fun hg => ?_) (fun hg => ?_) | refine z9 ?_ | refine za ?_ | refine zb ?_ | refine zc ?_ | refine zd ?_ | refine ze ?_ | refine zf ?_ | refine zg ?_ | refine zh ?_ | refine zi (fun _ => ?_) | refine zj (fun _ => ?_) | refine zk ?_ | refine zl ?_ ?_ | refine zm ?_ | refine zn ?_ | refine zo ?_ | exact (rfl : _ = _)))
  refine r_all hkm hm hxs (fun x hx => ?_) (fun hx => ?_)
  · have hn := hat n x hx
    obtain ⟨ty, up, nm, hk2, -⟩ := hn.cells
    (repeat' (first | refine z0 ?_ | refine z1 ?_ | refine z2 ?_ | refine z3 ?_ | refine z4 ?_ | refine z5 ?_ | refine z6 ?_ | refine z7 (fun hg => ?_) (fun hg => ?_) | refine z8 (fun hg => ?_) (fun hg => ?_) | refine z9 ?_ | refine za ?_ | refine zb ?_ | refine zc ?_ | refine zd ?_ | refine ze ?_ | refine zf ?_ | refine zg ?_ | refine zh ?_ | refine zi (fun _ => ?_) | refine zj (fun _ => ?_) | refine zk ?_ | refine zl ?_ ?_ | refine zm ?_ | refine zn ?_ | refine zo ?_ | exact (rfl : _ = _)))
    simpa [Tree.text, hx] using h
  · (repeat' (first | refine z0 ?_ | refine z1 ?_ | refine z2 ?_ | refine z3 ?_ | refine z4 ?_ | refine z5 ?_ | refine z6 ?_ | refine z7 (fun hg => ?_) (fun hg => ?_) | refine z8 (fun hg => ?_) (fun hg => ?_) | refine z9 ?_ | refine za ?_ | refine zb ?_ | refine zc ?_ | refine zd ?_ | refine ze ?_ | refine zf ?_ | refine zg ?_ | refine zh ?_ | refine zi (fun _ => ?_) | refine zj (fun _ => ?_) | refine zk ?_ | refine zl ?_ ?_ | refine zm ?_ | refine zn ?_ | refine zo ?_ | exact (rfl : _ = _)))
    simp only [Tree.text, hx] at h; exact h
theorem tup_ok (hT : TreeAt l t T β) (h : R (vi (T.up n)) l) : scall Tryz.prog 125 #[ptr t 0, vi n] R l := by
  refine S125_ok ?_
  unfold S125
  refine tdir_ok hT (fun x hd hx hk hn => ?_) (fun hd => ?_)
  · obtain ⟨ty, up, nm, hk2, hu, -⟩ := hn.cells
    have hu := hu hk
    (repeat' (first | refine z0 ?_ | refine z1 ?_ | refine z2 ?_ | refine z3 ?_ | refine z4 ?_ | refine z5 ?_ | refine z6 ?_ | refine z7 (fun hg => ?_) (fun hg => ?_) | refine z8 (fun hg => ?_) (fun hg => ?_) | refine z9 ?_ | refine za ?_ | refine zb ?_ | refine zc ?_ | refine zd ?_ | refine ze ?_ | refine zf ?_ | refine zg ?_ | refine zh ?_ | refine zi (fun _ => ?_) | refine zj (fun _ => ?_) | refine zk ?_ | refine zl ?_ ?_ | refine zm ?_ | refine zn ?_ | refine zo ?_ | exact (rfl : _ = _)))
    refine named_ok hn ?_
    cases hnm : namedB n x with
    | true =>
      rw [hnm] at hu
      (repeat' (first | refine z0 ?_ | refine z1 ?_ | refine z2 ?_ | refine z3 ?_ | refine z4 ?_ | refine z5 ?_ | refine z6 ?_ | refine z7 (fun hg => ?_) (fun hg => ?_) | refine z8 (fun hg => ?_) (fun hg => ?_) | refine z9 ?_ | refine za ?_ | refine zb ?_ | refine zc ?_ | refine zd ?_ | refine ze ?_ | refine zf ?_ | refine zg ?_ | refine zh ?_ | refine zi (fun _ => ?_) | refine zj (fun _ => ?_) | refine zk ?_ | refine zl ?_ ?_ | refine zm ?_ | refine zn ?_ | refine zo ?_ | exact (rfl : _ = _)))
      simpa [Tree.up, hd, ← hu] using h
    | false =>
      rw [hnm] at hu
      (repeat' (first | refine z0 ?_ | refine z1 ?_ | refine z2 ?_ | refine z3 ?_ | refine z4 ?_ | refine z5 ?_ | refine z6 ?_ | refine z7 (fun hg => ?_) (fun hg => ?_) | refine z8 (fun hg => ?_) (fun hg => ?_) | refine z9 ?_ | refine za ?_ | refine zb ?_ | refine zc ?_ | refine zd ?_ | refine ze ?_ | refine zf ?_ | refine zg ?_ | refine zh ?_ | refine zi (fun _ => ?_) | refine zj (fun _ => ?_) | refine zk ?_ | refine zl ?_ ?_ | refine zm ?_ | refine zn ?_ | refine zo ?_ | exact (rfl : _ = _)))
      simpa [Tree.up, hd, ← hu] using h
  · (repeat' (first | refine z0 ?_ | refine z1 ?_ | refine z2 ?_ | refine z3 ?_ | refine z4 ?_ | refine z5 ?_ | refine z6 ?_ | refine z7 (fun hg => ?_) (fun hg => ?_) | refine z8 (fun hg => ?_) (fun hg => ?_) | refine z9 ?_ | refine za ?_ | refine zb ?_ | refine zc ?_ | refine zd ?_ | refine ze ?_ | refine zf ?_ | refine zg ?_ | refine zh ?_ | refine zi (fun _ => ?_) | refine zj (fun _ => ?_) | refine zk ?_ | refine zl ?_ ?_ | refine zm ?_ | refine zn ?_ | refine zo ?_ | exact (rfl : _ = _)))
    simpa [Tree.up, hd] using h
theorem tfind_ok {s : Str} (hT : TreeAt l t T β) (h : R (.tuple #[vi ((T.find n s).getD 0), .bool (T.find n s).isSome]) l) : scall Tryz.prog 15 #[ptr t 0, vi n, vstr' s] R l := by
  refine S15_ok ?_
  unfold S15
  refine tdir_ok hT (fun x hd hx hk hn => ?_) (fun hd => ?_)
  · obtain ⟨ty, up, nm, hk2, hu, ⟨-, m, es, clk, rfl, hkm, hm⟩ | ⟨hne, -⟩⟩ := hn.cells
    · (repeat' (first | refine z0 ?_ | refine z1 ?_ | refine z2 ?_ | refine z3 ?_ | refine z4 ?_ | refine z5 ?_ | refine z6 ?_ | refine z7 (fun hg => ?_) (fun hg => ?_) | refine z8 (fun hg => ?_) (fun hg => ?_) | refine z9 ?_ | refine za ?_ | refine zb ?_ | refine zc ?_ | refine zd ?_ | refine ze ?_ | refine zf ?_ | refine zg ?_ | refine zh ?_ | refine zi (fun _ => ?_) | refine zj (fun _ => ?_) | refine zk ?_ | refine zl ?_ ?_ | refine zm ?_ | refine zn ?_ | refine zo ?_ | exact (rfl : _ = _)))
      refine r_name hkm hm (fun q hq => ?_) (fun hq => ?_)
      · (repeat' (first | refine z0 ?_ | refine z1 ?_ | refine z2 ?_ | refine z3 ?_ | refine z4 ?_ | refine z5 ?_ | refine z6 ?_ | refine z7 (fun hg => ?_) (fun hg => ?_) | refine z8 (fun hg => ?_) (fun hg => ?_) | refine z9 ?_ | refine za ?_ | refine zb ?_ | refine zc ?_ | refine zd ?_ | refine ze ?_ | refine zf ?_ | refine zg ?_ | refine zh ?_ | refine zi (fun _ => ?_) | refine zj (fun _ => ?_) | refine zk ?_ | refine zl ?_ ?_ | refine zm ?_ | refine zn ?_ | refine zo ?_ | exact (rfl : _ = _)))
        simpa [Tree.find, hd, hq] using h
      · (repeat' (first | refine z0 ?_ | refine z1 ?_ | refine z2 ?_ | refine z3 ?_ | refine z4 ?_ | refine z5 ?_ | refine z6 ?_ | refine z7 (fun hg => ?_) (fun hg => ?_) | refine z8 (fun hg => ?_) (fun hg => ?_) | refine z9 ?_ | refine za ?_ | refine zb ?_ | refine zc ?_ | refine zd ?_ | refine ze ?_ | refine zf ?_ | refine zg ?_ | refine zh ?_ | refine zi (fun _ => ?_) | refine zj (fun _ => ?_) | refine zk ?_ | refine zl ?_ ?_ | refine zm ?_ | refine zn ?_ | refine zo ?_ | exact (rfl : _ = _)))
        simpa [Tree.find, hd, hq] using h
    · exact absurd hk hne
  · (repeat' (first | refine z0 ?_ | refine z1 ?_ | refine z2 ?_ | refine z3 ?_ | refine z4 ?_ | refine z5 ?_ | refine z6 ?_ | refine z7 (fun hg => ?_) (fun hg => ?_) | refine z8 (fun hg => ?_) (fun hg => ?_) | refine z9 ?_ | refine za ?_ | refine zb ?_ | refine zc ?_ | refine zd ?_ | refine ze ?_ | refine zf ?_ | refine zg ?_ | refine zh ?_ | refine zi (fun _ => ?_) | refine zj (fun _ => ?_) | refine zk ?_ | refine zl ?_ ?_ | refine zm ?_ | refine zn ?_ | refine zo ?_ | exact (rfl : _ = _)))
    simpa [Tree.find, hd] using h
theorem psize_ok {p : Nat} {P : Pool} (hP : PoolAt l p P) (h : R (vi (P.size n)) l) : scall Tryz.prog 53 #[ptr p 0, vi n] R l := by
  refine S53_ok ?_
  obtain ⟨ty, m, es, clk, kv, hk, hkm, hm, hat⟩ := hP.open
  unfold S53
  (repeat' (first | refine z0 ?_ | refine z1 ?_ | refine z2 ?_ | refine z3 ?_ | refine z4 ?_ | refine z5 ?_ | refine z6 ?_ | refine z7 (fun hg => ?_) (fun hg => ?_) | refine z8 (fun hg => ?_) (fun hg => ?_) | refine z9 ?_ | refine za ?_ | refine zb ?_ | refine zc ?_ | refine zd ?_ | refine ze ?_ | refine zf ?_ | refine zg ?_ | refine zh ?_ | refine zi (fun _ => ?_) | refine zj (fun _ => ?_) | refine zk ?_ | refine zl ?_ ?_ | refine zm ?_ | refine zn ?_ | refine zo ?_ | exact (rfl : _ = _)))
  refine r_look1 (K := kInt) (a := n) hkm hm ?_
  rcases hat n with ⟨s, b, ty', m', h1, h2, h3, -⟩ | ⟨h1, h2⟩
  · rw [h2]
    simp only [Option.getD_some]
    (repeat' (first | refine z0 ?_ | refine z1 ?_ | refine z2 ?_ | refine z3 ?_ | refine z4 ?_ | refine z5 ?_ | refine z6 ?_ | refine z7 (fun hg => ?_) (fun hg => ?_) | refine z8 (fun hg => ?_) (fun hg => ?_) | refine z9 ?_ | refine za ?_ | refine zb ?_ | refine zc ?_ | refine zd ?_ | refine ze ?_ | refine zf ?_ | refine zg ?_ | refine zh ?_ | refine zi (fun _ => ?_) | refine zj (fun _ => ?_) | refine zk ?_ | refine zl ?_ ?_ | refine zm ?_ | refine zn ?_ | refine zo ?_ | exact (rfl : _ = _)))
    simpa [Pool.size, h1] using h
  · rw [h2]
    simp only [Option.getD_none]
    (repeat' (first | refine z0 ?_ | refine z1 ?_ | refine z2 ?_ | refine z3 ?_ | refine z4 ?_ | refine z5 ?_ | refine z6 ?_ | refine z7 (fun hg => ?_) (fun hg => ?_) | refine z8 (fun hg => ?_) (fun hg => ?_) | refine z9 ?_ | refine za ?_ | refine zb ?_ | refine zc ?_ | refine zd ?_ | refine ze ?_ | refine zf ?_ | refine zg ?_ | refine zh ?_ | refine zi (fun _ => ?_) | refine zj (fun _ => ?_) | refine zk ?_ | refine zl ?_ ?_ | refine zm ?_ | refine zn ?_ | refine zo ?_ | exact (rfl : _ = _)))
    simpa [Pool.size, h1] using h
end
end Go.Sl
namespace Go.Sl
variable [Ghost]
open Go Go.Mo Go.Proofs
attribute [local irreducible] snil sfa sext sfield sguard sun sbin slen sload sstore snew snewObj sbuildR sbuildSlR smakeMapR smakeSlR slookup smapset srangeMap snext sentry scall scallv sextern sbuiltin sidx sindex sslice sconv srangeX sarg sand sjoin0 sjoin1 sjoin2 sloop0 sloop1 sloop2
theorem wrap_id {x : Int} (h1 : -4611686018427387904 ≤ x) (h2 : x ≤ 4611686018427387904) : IntKind.i64.wrap x = x := IntWalk.i64_in x (by omega)
structure Small (T : Tree) : Prop where
  all : T.all.length ≤ 2 ^ 30
  files : T.pool.fs.length ≤ 2 ^ 30
  names : ∀ n x, T.at n = some x → x.names.length ≤ 2 ^ 30
  links : ∀ n x, T.at n = some x → 0 ≤ x.links ∧ x.links ≤ 2 ^ 30
  holds : ∀ n x, T.at n = some x → 0 ≤ x.holds ∧ x.holds ≤ 2 ^ 30
  blocks : 0 ≤ T.pool.blocks ∧ T.pool.blocks ≤ 2 ^ 30
theorem namesK_perm {l : List (Str × Int)} {r : List (List UInt8 × Value)} (h : r.Perm (namesK l)) : ∃ l', r = namesK l' ∧ l'.Perm l := by
  have hu : ∀ (x : List (Str × Int)), (namesK x).map (fun p => (p.1, match p.2 with | .int _ n => n | _ => 0)) = x := by
    intro x; induction x with
    | nil => rfl
    | cons p x ih => simp only [namesK, List.map_cons, List.cons.injEq] at *; exact ⟨trivial, ih⟩
  refine ⟨r.map fun p => (p.1, match p.2 with | .int _ n => n | _ => 0), ?_, ?_⟩
  · have : ∀ p ∈ r, ∃ q : Str × Int, p = (q.1, vi q.2) := fun p hp => by
      have := (h.mem_iff).1 hp
      obtain ⟨q, -, rfl⟩ := List.mem_map.1 this
      exact ⟨q, rfl⟩
    unfold namesK
    rw [List.map_map]
    conv => lhs; rw [← List.map_id r]
    apply List.map_congr_left
    intro p hp
    obtain ⟨q, rfl⟩ := this p hp
    rfl
  · have := h.map (fun p : List UInt8 × Value => (p.1, match p.2 with | .int _ n => n | _ => 0))
    rw [hu] at this; exact this
theorem dirCount_append (T : Tree) : ∀ a b, dirCount T (a ++ b) = dirCount T a + dirCount T b
  | [], b => by simp [dirCount]
  | (s, n) :: a, b => by simp only [List.cons_append, dirCount, dirCount_append T a b]; omega
theorem dirCount_perm (T : Tree) {a b : List (Str × Int)} (h : a.Perm b) : dirCount T a = dirCount T b := by
  induction h with
  | nil => rfl
  | cons p _ ih => obtain ⟨s, n⟩ := p; simp only [dirCount, ih]
  | swap p q r => obtain ⟨s, n⟩ := p; obtain ⟨u, m⟩ := q; simp only [dirCount]; omega
  | trans _ _ h1 h2 => exact h1.trans h2
theorem dirCount_le (T : Tree) : ∀ a, 0 ≤ dirCount T a ∧ dirCount T a ≤ a.length
  | [] => by simp [dirCount]
  | (s, n) :: a => by
    have := dirCount_le T a
    simp only [dirCount, List.length_cons]
    split <;> omega
theorem namesK_split {r1 r2 : List (List UInt8 × Value)} {a : List UInt8} {v : Value} : ∀ {l : List (Str × Int)}, namesK l = r1 ++ (a, v) :: r2 → ∃ l1 q l2, l = l1 ++ (a, q) :: l2 ∧ v = vi q ∧ r1 ++ r2 = namesK (l1 ++ l2) := by
  intro l h
  unfold namesK at h
  obtain ⟨l1, l2', h1, h2, h3⟩ := List.map_eq_append_iff.1 h
  cases l2' with
  | nil => simp at h3
  | cons p l2 =>
    simp only [List.map_cons, List.cons.injEq, Prod.mk.injEq] at h3
    refine ⟨l1, p.2, l2, by rw [h1]; congr 1; rw [← h3.1.1], h3.1.2.symm, ?_⟩
    unfold namesK; rw [List.map_append, h2, h3.2]
section
variable {l : St} {t b : Nat} {T : Tree} {β : Int → Nat} {n : Int} {x : Nd} {R : Value → SP}
theorem tdirs_ok (hT : TreeAt l t T β) (hS : Small T) (hx : T.at n = some x) (hk : x.kind = 1) (hn : NodeAt l b n x) (h : R (vi (T.dirs n x)) l) : scall Tryz.prog 52 #[ptr t 0, ptr b 0] R l := by
  refine scall_post (S52_ok ?_)
  unfold S52
  refine named_ok hn ?_
  obtain ⟨ty, up, m, es, clk, hk2, hu, hkm, hm⟩ := hn.dirCells hk
  cases hnm : namedB n x with
  | false =>
    (repeat' (first | refine z0 ?_ | refine z1 ?_ | refine z2 ?_ | refine z3 ?_ | refine z4 ?_ | refine z5 ?_ | refine z6 ?_ | refine z7 (fun hg => ?_) (fun hg => ?_) | refine z8 (fun hg => ?_) (fun hg => ?_) | refine z9 ?_ | refine za ?_ | refine zb ?_ | refine zc ?_ | refine zd ?_ | refine ze ?_ | refine zf ?_ | refine zg ?_ | refine zh ?_ | refine zi (fun _ => ?_) | refine zj (fun _ => ?_) | refine zk ?_ | refine zl ?_ ?_ | refine zm ?_ | refine zn ?_ | refine zo ?_ | exact (rfl : _ = _)))
    exact ⟨l, .refl _, by simpa [Tree.dirs, hnm] using h⟩
  | true =>
    (repeat' (first | refine z0 ?_ | refine z1 ?_ | refine z2 ?_ | refine z3 ?_ | refine z4 ?_ | refine z5 ?_ | refine z6 ?_ | refine z7 (fun hg => ?_) (fun hg => ?_) | refine z8 (fun hg => ?_) (fun hg => ?_) | refine z9 ?_ | refine za ?_ | refine zb ?_ | refine zc ?_ | refine zd ?_ | refine ze ?_ | refine zf ?_ | refine zg ?_ | refine zh ?_ | refine zi (fun _ => ?_) | refine zj (fun _ => ?_) | refine zk ?_ | refine zl ?_ ?_ | refine zm ?_ | refine zn ?_ | refine zo ?_ | exact (rfl : _ = _)))
    refine r_rangeMap hkm hm (fun it rs hp hI => ?_)
    obtain ⟨L, rfl, hL⟩ := namesK_perm hp
    have hlen : L.length ≤ 2 ^ 30 := by rw [hL.length_eq]; exact hS.names n x hx
    refine r_loop1 (fun k v σ => ∃ L' dn seen acc, v = vi acc ∧ 0 ≤ acc ∧ σ = pt it (.mapIter (some m) clk seen clk) :: l ∧ IterAt kStr es dn (namesK L') seen ∧ k = L'.length ∧ L'.length ≤ L.length ∧ acc + dirCount T L' = 2 + dirCount T L)
      L.length ⟨L, [], #[], 2, rfl, by omega, rfl, hI, rfl, Nat.le_refl _, rfl⟩ ?_
    rintro k v σ ⟨L', dn, seen, acc, rfl, h0, rfl, hI', rfl, hle, hacc⟩
    have hc := dirCount_le T L'
    have hc2 := dirCount_le T L
    refine r_next hkm hm hI' (fun hrs => ?_) (fun a v r1 r2 seen' hrs hI2 hlast => ?_)
    · (repeat' (first | refine z0 ?_ | refine z1 ?_ | refine z2 ?_ | refine z3 ?_ | refine z4 ?_ | refine z5 ?_ | refine z6 ?_ | refine z7 (fun hg => ?_) (fun hg => ?_) | refine z8 (fun hg => ?_) (fun hg => ?_) | refine z9 ?_ | refine za ?_ | refine zb ?_ | refine zc ?_ | refine zd ?_ | refine ze ?_ | refine zf ?_ | refine zg ?_ | refine zh ?_ | refine zi (fun _ => ?_) | refine zj (fun _ => ?_) | refine zk ?_ | refine zl ?_ ?_ | refine zm ?_ | refine zn ?_ | refine zo ?_ | exact (rfl : _ = _)))
      have : L' = [] := by unfold namesK at hrs; simpa using hrs
      subst this
      have hd : T.dirs n x = acc := by
        simp only [Tree.dirs, hnm, if_true, ← dirCount_perm T hL]
        simp only [dirCount] at hacc; omega
      rw [hd] at h
      exact ⟨l, .drop _ _, h⟩
    · (repeat' (first | refine z0 ?_ | refine z1 ?_ | refine z2 ?_ | refine z3 ?_ | refine z4 ?_ | refine z5 ?_ | refine z6 ?_ | refine z7 (fun hg => ?_) (fun hg => ?_) | refine z8 (fun hg => ?_) (fun hg => ?_) | refine z9 ?_ | refine za ?_ | refine zb ?_ | refine zc ?_ | refine zd ?_ | refine ze ?_ | refine zf ?_ | refine zg ?_ | refine zh ?_ | refine zi (fun _ => ?_) | refine zj (fun _ => ?_) | refine zk ?_ | refine zl ?_ ?_ | refine zm ?_ | refine zn ?_ | refine zo ?_ | exact (rfl : _ = _)))
      obtain ⟨l1, q, l2, rfl, rfl, hr⟩ := namesK_split hrs
      refine r_entry hkm hlast ?_
      (repeat' (first | refine z0 ?_ | refine z1 ?_ | refine z2 ?_ | refine z3 ?_ | refine z4 ?_ | refine z5 ?_ | refine z6 ?_ | refine z7 (fun hg => ?_) (fun hg => ?_) | refine z8 (fun hg => ?_) (fun hg => ?_) | refine z9 ?_ | refine za ?_ | refine zb ?_ | refine zc ?_ | refine zd ?_ | refine ze ?_ | refine zf ?_ | refine zg ?_ | refine zh ?_ | refine zi (fun _ => ?_) | refine zj (fun _ => ?_) | refine zk ?_ | refine zl ?_ ?_ | refine zm ?_ | refine zn ?_ | refine zo ?_ | exact (rfl : _ = _)))
      rw [hr] at hI2
      have hsplit : dirCount T (l1 ++ (a, q) :: l2) = dirCount T (l1 ++ l2) + (if (T.dir q).isSome then 1 else 0) := by
        rw [dirCount_append, dirCount_append]; simp only [dirCount]; omega
      simp only [List.length_append, List.length_cons] at hle
      refine tdir_ok (hT.there _) (fun y hd hy hky hny => ?_) (fun hd => ?_)
      · (repeat' (first | refine z0 ?_ | refine z1 ?_ | refine z2 ?_ | refine z3 ?_ | refine z4 ?_ | refine z5 ?_ | refine z6 ?_ | refine z7 (fun hg => ?_) (fun hg => ?_) | refine z8 (fun hg => ?_) (fun hg => ?_) | refine z9 ?_ | refine za ?_ | refine zb ?_ | refine zc ?_ | refine zd ?_ | refine ze ?_ | refine zf ?_ | refine zg ?_ | refine zh ?_ | refine zi (fun _ => ?_) | refine zj (fun _ => ?_) | refine zk ?_ | refine zl ?_ ?_ | refine zm ?_ | refine zn ?_ | refine zo ?_ | exact (rfl : _ = _)))
        have hw : IntKind.i64.wrap (acc + 1) = acc + 1 := by
          have := dirCount_le T (l1 ++ (a, q) :: l2)
          exact wrap_id (by omega) (by omega)
        rw [hw]
        refine ⟨(l1 ++ l2).length, by simp, l1 ++ l2, _, _, acc + 1, rfl, by omega, rfl, hI2, rfl, by simp; omega, ?_⟩
        rw [hsplit, hd] at hacc
        simp at hacc; omega
      · (repeat' (first | refine z0 ?_ | refine z1 ?_ | refine z2 ?_ | refine z3 ?_ | refine z4 ?_ | refine z5 ?_ | refine z6 ?_ | refine z7 (fun hg => ?_) (fun hg => ?_) | refine z8 (fun hg => ?_) (fun hg => ?_) | refine z9 ?_ | refine za ?_ | refine zb ?_ | refine zc ?_ | refine zd ?_ | refine ze ?_ | refine zf ?_ | refine zg ?_ | refine zh ?_ | refine zi (fun _ => ?_) | refine zj (fun _ => ?_) | refine zk ?_ | refine zl ?_ ?_ | refine zm ?_ | refine zn ?_ | refine zo ?_ | exact (rfl : _ = _)))
        refine ⟨(l1 ++ l2).length, by simp, l1 ++ l2, _, _, acc, rfl, h0, rfl, hI2, rfl, by simp; omega, ?_⟩
        rw [hsplit, hd] at hacc
        simp at hacc; omega
theorem tstat_ok (hT : TreeAt l t T β) (hS : Small T) (h : R (.tuple #[sttV ((T.stat n).getD {}), .bool (T.stat n).isSome]) l) : scall Tryz.prog 16 #[ptr t 0, vi n] R l := by
  refine scall_post (S16_ok ?_)
  obtain ⟨ty, p, m, turns, es, clk, xs, hk, hkm, hm, hat, ⟨pc, hpc, hP⟩, hxs⟩ := hT.open
  have hPA : PoolAt l p T.pool := ⟨pc, hpc, hP⟩
  unfold S16
  (repeat' (first | refine z0 ?_ | refine z1 ?_ | refine z2 ?_ | refine z3 ?_ | refine z4 ?_ | refine z5 ?_ | refine z6 ?_ | refine z7 (fun hg => ?_) (fun hg => ?_) | refine z8 (fun hg => ?_) (fun hg => ?_) | refine z9 ?_ | refine za ?_ | refine zb ?_ | refine zc ?_ | refine zd ?_ | refine ze ?_ | refine zf ?_ | refine zg ?_ | refine zh ?_ | refine zi (fun _ => ?_) | refine zj (fun _ => ?_) | refine zk ?_ | refine zl ?_ ?_ | refine zm ?_ | refine zn ?_ | refine zo ?_ | exact (rfl : _ = _)))
  refine r_all (knows_there _ hkm) hm hxs (fun x hx => ?_) (fun hx => ?_)
  · have hn := hat n x hx
    by_cases hk1 : x.kind = 1
    · obtain ⟨ty, up, m, es, clk, hk2, hu, hkm, hm⟩ := hn.dirCells hk1
      (repeat' (first | refine z0 ?_ | refine z1 ?_ | refine z2 ?_ | refine z3 ?_ | refine z4 ?_ | refine z5 ?_ | refine z6 ?_ | refine z7 (fun hg => ?_) (fun hg => ?_) | refine z8 (fun hg => ?_) (fun hg => ?_) | refine z9 ?_ | refine za ?_ | refine zb ?_ | refine zc ?_ | refine zd ?_ | refine ze ?_ | refine zf ?_ | refine zg ?_ | refine zh ?_ | refine zi (fun _ => ?_) | refine zj (fun _ => ?_) | refine zk ?_ | refine zl ?_ ?_ | refine zm ?_ | refine zn ?_ | refine zo ?_ | exact (rfl : _ = _)))
      · refine tdirs_ok ((hT.there _).there _) hS hx hk1 ((hn.there _).there _) ?_
        (repeat' (first | refine z0 ?_ | refine z1 ?_ | refine z2 ?_ | refine z3 ?_ | refine z4 ?_ | refine z5 ?_ | refine z6 ?_ | refine z7 (fun hg => ?_) (fun hg => ?_) | refine z8 (fun hg => ?_) (fun hg => ?_) | refine z9 ?_ | refine za ?_ | refine zb ?_ | refine zc ?_ | refine zd ?_ | refine ze ?_ | refine zf ?_ | refine zg ?_ | refine zh ?_ | refine zi (fun _ => ?_) | refine zj (fun _ => ?_) | refine zk ?_ | refine zl ?_ ?_ | refine zm ?_ | refine zn ?_ | refine zo ?_ | exact (rfl : _ = _)))
        refine ⟨l, by exact drp, ?_⟩
        have : es.size = x.names.length := by rw [hm.size]; simp [namesK]
        have hv : T.stat n = some { node := n, kind := x.kind, mode := x.mode, uid := x.uid, gid := x.gid, links := T.dirs n x, size := x.names.length } := by simp only [Tree.stat, hx]; rw [if_pos hk1]
        rw [hv] at h; rw [this]; exact h
      all_goals exact absurd hk1 (by assumption)
    · obtain ⟨ty, up, nm, hk2, -⟩ := hn.cells
      (repeat' (first | refine z0 ?_ | refine z1 ?_ | refine z2 ?_ | refine z3 ?_ | refine z4 ?_ | refine z5 ?_ | refine z6 ?_ | refine z7 (fun hg => ?_) (fun hg => ?_) | refine z8 (fun hg => ?_) (fun hg => ?_) | refine z9 ?_ | refine za ?_ | refine zb ?_ | refine zc ?_ | refine zd ?_ | refine ze ?_ | refine zf ?_ | refine zg ?_ | refine zh ?_ | refine zi (fun _ => ?_) | refine zj (fun _ => ?_) | refine zk ?_ | refine zl ?_ ?_ | refine zm ?_ | refine zn ?_ | refine zo ?_ | exact (rfl : _ = _)))
      · exact absurd (by assumption) hk1
      · have hk3 := hg
        refine psize_ok ((hPA.there _).there _) ?_
        (repeat' (first | refine z0 ?_ | refine z1 ?_ | refine z2 ?_ | refine z3 ?_ | refine z4 ?_ | refine z5 ?_ | refine z6 ?_ | refine z7 (fun hg => ?_) (fun hg => ?_) | refine z8 (fun hg => ?_) (fun hg => ?_) | refine z9 ?_ | refine za ?_ | refine zb ?_ | refine zc ?_ | refine zd ?_ | refine ze ?_ | refine zf ?_ | refine zg ?_ | refine zh ?_ | refine zi (fun _ => ?_) | refine zj (fun _ => ?_) | refine zk ?_ | refine zl ?_ ?_ | refine zm ?_ | refine zn ?_ | refine zo ?_ | exact (rfl : _ = _)))
        refine ⟨l, by exact drp, ?_⟩
        have hv : T.stat n = some { node := n, kind := x.kind, mode := x.mode, uid := x.uid, gid := x.gid, links := x.links, size := T.pool.size x.file } := by simp [Tree.stat, hx, hk3]
        rw [hv] at h; exact h
      · have hk3 := hg
        refine ⟨l, by exact drp, ?_⟩
        have : (bs x.text).size = x.text.length := by simp [bs, ByteArray.size]
        have hv : T.stat n = some { node := n, kind := x.kind, mode := x.mode, uid := x.uid, gid := x.gid, links := x.links, size := x.text.length } := by simp [Tree.stat, hx, hk1, hk3]
        rw [hv] at h; rw [this]; exact h
  · (repeat' (first | refine z0 ?_ | refine z1 ?_ | refine z2 ?_ | refine z3 ?_ | refine z4 ?_ | refine z5 ?_ | refine z6 ?_ | refine z7 (fun hg => ?_) (fun hg => ?_) | refine z8 (fun hg => ?_) (fun hg => ?_) | refine z9 ?_ | refine za ?_ | refine zb ?_ | refine zc ?_ | refine zd ?_ | refine ze ?_ | refine zf ?_ | refine zg ?_ | refine zh ?_ | refine zi (fun _ => ?_) | refine zj (fun _ => ?_) | refine zk ?_ | refine zl ?_ ?_ | refine zm ?_ | refine zn ?_ | refine zo ?_ | exact (rfl : _ = _)))
    refine ⟨l, by exact drp, ?_⟩
    have hv : T.stat n = none := by simp only [Tree.stat, hx]
    rw [hv] at h; exact h
end
end Go.Sl
namespace Go.Sl
variable [Ghost]
open Go Go.Mo
theorem setNth_len {α : Type} : ∀ (xs : List α) (k : Nat) (y : α), (setNth xs k y).length = xs.length
  | [], _, _ => rfl
  | _ :: _, 0, _ => rfl
  | _ :: xs, k + 1, y => by simp [setNth, setNth_len xs k y]
theorem liveFrom_set {α : Type} : ∀ (xs : List (Option α)) (i k : Nat) (x : α), nth xs k = some (some x) → ∃ A B, liveFrom i xs = A ++ (((i + k : Nat) : Int), x) :: B ∧
    (∀ y, liveFrom i (setNth xs k (some y)) = A ++ (((i + k : Nat) : Int), y) :: B) ∧ liveFrom i (setNth xs k none) = A ++ B
  | [], i, k, x, h => by simp [nth] at h
  | o :: r, i, 0, x, h => by
    simp only [nth, Option.some.injEq] at h
    subst h
    exact ⟨[], liveFrom (i + 1) r, by simp [liveFrom], fun y => by simp [setNth, liveFrom], by simp [setNth, liveFrom]⟩
  | o :: r, i, k + 1, x, h => by
    obtain ⟨A, B, h1, h2, h3⟩ := liveFrom_set r (i + 1) k x h
    have e : i + (k + 1) = i + 1 + k := by omega
    rw [e]
    cases o with
    | none => exact ⟨A, B, h1, fun y => h2 y, h3⟩
    | some z => exact ⟨((i : Int), z) :: A, B, by simp [liveFrom, h1], fun y => by simp [liveFrom, setNth, h2 y], by simp [liveFrom, setNth, h3]⟩
theorem seti_live {α : Type} {xs : List (Option α)} {n : Int} {x : α} (h : geti xs n = some x) : ∃ A B, liveFrom 1 xs = A ++ (n, x) :: B ∧ (∀ y, liveFrom 1 (seti xs n (some y)) = A ++ (n, y) :: B) ∧ liveFrom 1 (seti xs n none) = A ++ B := by
  match n with
  | .ofNat 0 => cases h
  | .negSucc k => cases h
  | .ofNat (k + 1) =>
    have h' : nth xs k = some (some x) := by
      have h2 : (match nth xs k with | some x => x | none => none) = some x := h
      cases hn : nth xs k with
      | none => rw [hn] at h2; cases h2
      | some o => rw [hn] at h2; simp only at h2; rw [h2]
    obtain ⟨A, B, h1, h2, h3⟩ := liveFrom_set xs 1 k x h'
    have e : (((1 + k : Nat) : Int)) = Int.ofNat (k + 1) := by simp; omega
    rw [e] at h1
    refine ⟨A, B, h1, fun y => ?_, h3⟩
    have := h2 y
    rw [e] at this; exact this
theorem seti_len {α : Type} (xs : List (Option α)) (n : Int) (y : Option α) : (seti xs n y).length = xs.length := by
  match n with
  | .ofNat 0 => rfl
  | .negSucc k => rfl
  | .ofNat (k + 1) => exact setNth_len xs k y
theorem put_lives {T : Tree} {n : Int} {x : Nd} {xs : List (Int × Nd)} (h : T.at n = some x) (hp : ((n, x) :: xs).Perm T.lives) (y : Nd) : ((n, y) :: xs).Perm (T.put n (some y)).lives := by
  obtain ⟨A, B, h1, h2, -⟩ := seti_live h
  unfold Tree.lives at *
  show ((n, y) :: xs).Perm (liveFrom 1 (seti T.all n (some y)))
  rw [h2 y]
  rw [h1] at hp
  have : xs.Perm (A ++ B) := (hp.trans List.perm_middle).cons_inv
  exact (this.cons _).trans List.perm_middle.symm
theorem putNone_lives {T : Tree} {n : Int} {x : Nd} {xs : List (Int × Nd)} (h : T.at n = some x) (hp : ((n, x) :: xs).Perm T.lives) : xs.Perm (T.put n none).lives := by
  obtain ⟨A, B, h1, -, h3⟩ := seti_live h
  unfold Tree.lives at *
  show xs.Perm (liveFrom 1 (seti T.all n none))
  rw [h3]
  rw [h1] at hp
  exact (hp.trans List.perm_middle).cons_inv
theorem pnodes_pick {β : Int → Nat} {xs : List (Int × Nd)} {cs : Chunk} (h : PNodes β xs cs) : ∀ {n : Int} {x : Nd}, (n, x) ∈ xs →
    ∃ nc xs' cs', PNode n x (β n) nc ∧ PNodes β xs' cs' ∧ xs.Perm ((n, x) :: xs') ∧ cs.Perm (nc ++ cs') := by
  induction h with
  | nil => intro n x h; cases h
  | @cons m y c xs cs hp hr ih =>
    intro n x hm
    rcases List.mem_cons.1 hm with e | hm
    · simp only [Prod.mk.injEq] at e
      obtain ⟨rfl, rfl⟩ := e
      exact ⟨c, xs, cs, hp, hr, .refl _, .refl _⟩
    · obtain ⟨nc, xs', cs', h1, h2, h3, h5⟩ := ih hm
      refine ⟨nc, (m, y) :: xs', c ++ cs', h1, .cons hp h2, (h3.cons _).trans (.swap _ _ _), ?_⟩
      exact (h5.append_left c).trans (by rw [← List.append_assoc, ← List.append_assoc]; exact List.perm_append_comm.append_right _)
theorem kvOf_perm {β : Int → Nat} {a b : List (Int × Nd)} (h : a.Perm b) : (kvOf β a).Perm (kvOf β b) := h.map _
abbrev tCells (T : Tree) (p m : Nat) (turns : Int) : Array Value := #[vi T.most, ptr p 0, .map (some m), vi T.all.length, vi turns]
abbrev nCells (n : Int) (x : Nd) (nm : Value) (up : Int) : Array Value := #[vi n, vi x.kind, vi x.mode, vi x.uid, vi x.gid, vi 0, vi 0, nm, vi up, vi x.links, vi x.holds, vstr' x.text, vi x.file]
def NMap (x : Nd) (nm : Value) (mc : Chunk) : Prop :=
  (x.kind = 1 ∧ ∃ m es clk, nm = .map (some m) ∧ mc = [(m, .map es clk)] ∧ MapOf kStr es clk (namesK x.names)) ∨ (x.kind ≠ 1 ∧ nm = .map none ∧ mc = [] ∧ x.names = [])
def UpOk (n : Int) (x : Nd) (up : Int) : Prop := x.kind = 1 → (if namedB n x = true then up else n) = x.up
theorem tree_at {l r : St} {t : Nat} {T : Tree} {β : Int → Nat} {c : Chunk} (hk : Take l c r) (hP : PTree t T β c) : TreeAt l t T β := ⟨c, .of_take hk, hP⟩
theorem tree_open1 {l r : St} {t : Nat} {T : Tree} {β : Int → Nat} {c : Chunk} {n : Int} {x : Nd} (hk : Take l c r) (hP : PTree t T β c) (hx : T.at n = some x) :
    ∃ tt tn p m turns es clk xs cs pc nm up mc, l.flatten.Perm (pt (β n) (.cells (nCells n x nm up) tn) :: mc :: pt t (.cells (tCells T p m turns) tt) :: pt m (.map es clk) :: pc :: cs :: r).flatten ∧
      ((n, x) :: xs).Perm T.lives ∧ MapOf kInt es clk ((n, ptr (β n) 0) :: kvOf β xs) ∧ PNodes β xs cs ∧ PPool p T.pool pc ∧ NMap x nm mc ∧ UpOk n x up := by
  obtain ⟨tt, p, m, turns, es, clk, xs0, cs0, pc, hc, hxs, hm, hn, hp⟩ := hP
  obtain ⟨nc, xs, cs, ⟨tn, up, nm, mc, rfl, hup, hnm⟩, h2, h3, h5⟩ := pnodes_pick hn (hxs.mem_iff.2 ((geti_live T.all n x).1 hx))
  refine ⟨tt, tn, p, m, turns, es, clk, xs, cs, pc, nm, up, mc, ?_, h3.symm.trans hxs, hm.perm (kvOf_perm h3), h2, hp, hnm, hup⟩
  unfold Take at hk
  refine hk.trans ?_
  simp only [List.flatten_cons, pt]
  refine (hc.append_right _).trans ?_
  have e1 : ((t, Obj.cells (tCells T p m turns) tt) :: (m, .map es clk) :: (pc ++ cs0)).Perm ((β n, Obj.cells (nCells n x nm up) tn) :: (mc ++ ((t, .cells (tCells T p m turns) tt) :: (m, .map es clk) :: (pc ++ cs)))) := by
    have e2 : (pc ++ cs0).Perm ((β n, Obj.cells (nCells n x nm up) tn) :: (mc ++ (pc ++ cs))) := by
      refine (h5.append_left pc).trans ?_
      rw [← List.append_assoc, ← List.append_assoc]
      refine (List.perm_append_comm.append_right _).trans ?_
      simp
    refine ((e2.cons _).cons _).trans ?_
    refine List.Perm.trans (l₂ := (β n, Obj.cells (nCells n x nm up) tn) :: (t, .cells (tCells T p m turns) tt) :: (m, .map es clk) :: (mc ++ (pc ++ cs))) ?_ ?_
    · exact ((List.Perm.swap _ _ _).cons _).trans (.swap _ _ _)
    · refine List.Perm.cons _ ?_
      have : ([(t, Obj.cells (tCells T p m turns) tt), (m, .map es clk)] ++ mc ++ (pc ++ cs)).Perm (mc ++ [(t, Obj.cells (tCells T p m turns) tt), (m, .map es clk)] ++ (pc ++ cs)) := List.perm_append_comm.append_right _
      simpa using this
  have := e1.append_right r.flatten
  simpa [List.append_assoc] using this
theorem tree_shut1 {t : Nat} {T : Tree} {n : Int} {x x' : Nd} {tt tn : TypeId} {β : Int → Nat} {p m : Nat} {turns up : Int} {es : Array MapEntry} {clk : Nat} {xs : List (Int × Nd)} {cs pc mc : Chunk} {nm : Value} {P' : Pool}
    (hx : T.at n = some x) (h1 : ((n, x) :: xs).Perm T.lives) (h2 : MapOf kInt es clk ((n, ptr (β n) 0) :: kvOf β xs)) (h3 : PNodes β xs cs) (h4 : PPool p P' pc) (h5 : NMap x' nm mc) (h6 : UpOk n x' up) :
    PTree t { T.put n (some x') with pool := P' } β [pt (β n) (.cells (nCells n x' nm up) tn), mc, pt t (.cells (tCells T p m turns) tt), pt m (.map es clk), pc, cs].flatten := by
  refine ⟨tt, p, m, turns, es, clk, (n, x') :: xs, ((β n, .cells (nCells n x' nm up) tn) :: mc) ++ cs, pc, ?_, put_lives hx h1 x', h2, .cons ⟨tn, up, nm, mc, rfl, h6, h5⟩ h3, h4⟩
  have hl : (T.put n (some x')).all.length = T.all.length := seti_len _ _ _
  have hmost : (T.put n (some x')).most = T.most := rfl
  simp only [List.flatten_cons, List.flatten_nil, pt, hl, hmost, List.append_nil, List.cons_append, List.nil_append]
  have : ([(β n, Obj.cells (nCells n x' nm up) tn)] ++ mc ++ [(t, Obj.cells (tCells T p m turns) tt), (m, .map es clk)] ++ pc ++ cs).Perm ([(t, Obj.cells (tCells T p m turns) tt), (m, .map es clk)] ++ pc ++ ([(β n, Obj.cells (nCells n x' nm up) tn)] ++ mc) ++ cs) := by
    refine List.Perm.append_right _ ?_
    rw [List.append_assoc]
    exact List.perm_append_comm
  simpa [List.append_assoc] using this
theorem ent_close (pre r : St) : Ent (pre ++ r) (pre.flatten :: r) := Ent.of_perm (by simp)
theorem r_all1 {l : St} {m b clk : Nat} {es : Array MapEntry} {kv : List (Int × Value)} {n : Int} {k : Value → SP} (hk : Knows l m (.map es clk)) (hm : MapOf kInt es clk ((n, ptr b 0) :: kv)) (h : k (ptr b 0) l) :
    slookup (.int .i64) (some (.pointer none)) (.map (some m)) (vi n) false k l := by
  refine r_look1 (K := kInt) (a := n) hk hm ?_
  simpa [lk] using h
end Go.Sl
namespace Go.Sl
variable [Ghost]
open Go Go.Mo
@[instance_reducible] noncomputable def cdec : DecidableEq (Nat × Obj) := fun a b => Classical.propDecidable (a = b)
attribute [local instance] cdec
noncomputable def c1 (a x : Nat × Obj) : Nat := if x = a then 1 else 0
noncomputable def ct (a : Nat × Obj) (l : Chunk) : Nat := l.count a
theorem ct_nil (a : Nat × Obj) : ct a [] = 0 := by unfold ct; simp
theorem ct_cons (a x : Nat × Obj) (l : Chunk) : ct a (x :: l) = c1 a x + ct a l := by
  unfold ct c1
  rw [List.count_cons]
  by_cases h : x = a
  · simp [h]; omega
  · simp [h]
theorem ct_append (a : Nat × Obj) (l m : Chunk) : ct a (l ++ m) = ct a l + ct a m := by unfold ct; rw [List.count_append]
theorem perm_of_ct {l m : Chunk} (h : ∀ a, ct a l = ct a m) : l.Perm m := by
  rw [List.perm_iff_count]
  exact fun a => h a
theorem ct_of_perm {l m : Chunk} (h : l.Perm m) (a : Nat × Obj) : ct a l = ct a m := by unfold ct; exact h.count_eq a
theorem pfiles_pick {xs : List (Int × Int)} {kv : List (Int × Value)} {cs : Chunk} (h : PFiles xs kv cs) : ∀ {n : Int} {x : Int}, (n, x) ∈ xs →
    ∃ b nc xs' kv' cs', PFile x b nc ∧ PFiles xs' kv' cs' ∧ xs.Perm ((n, x) :: xs') ∧ kv.Perm ((n, ptr b 0) :: kv') ∧ cs.Perm (nc ++ cs') := by
  induction h with
  | nil => intro n x h; cases h
  | @cons m y b c xs kv cs hp hr ih =>
    intro n x hm
    rcases List.mem_cons.1 hm with e | hm
    · simp only [Prod.mk.injEq] at e
      obtain ⟨rfl, rfl⟩ := e
      exact ⟨b, c, xs, kv, cs, hp, hr, .refl _, .refl _, .refl _⟩
    · obtain ⟨b', nc, xs', kv', cs', h1, h2, h3, h4, h5⟩ := ih hm
      refine ⟨b', nc, (m, y) :: xs', (m, ptr b 0) :: kv', c ++ cs', h1, .cons hp h2, (h3.cons _).trans (.swap _ _ _), (h4.cons _).trans (.swap _ _ _), ?_⟩
      exact (h5.append_left c).trans (by rw [← List.append_assoc, ← List.append_assoc]; exact List.perm_append_comm.append_right _)
theorem pfiles_keys {xs : List (Int × Int)} {kv : List (Int × Value)} {cs : Chunk} (h : PFiles xs kv cs) : kv.map Prod.fst = xs.map Prod.fst := by
  induction h with
  | nil => rfl
  | cons _ _ ih => simp [ih]
theorem lk_none {κ : Type} [DecidableEq κ] {a : κ} : ∀ {kv : List (κ × Value)}, a ∉ kv.map Prod.fst → lk a kv = none
  | [], _ => rfl
  | (b, v) :: r, h => by
    simp only [List.map_cons, List.mem_cons, not_or] at h
    simp [lk, h.1, lk_none h.2]
theorem pdel_lives {fs : List (Option Int)} {n x : Int} {xs : List (Int × Int)} (h : geti fs n = some x) (hp : ((n, x) :: xs).Perm (liveFrom 1 fs)) : xs.Perm (liveFrom 1 (seti fs n none)) := by
  obtain ⟨A, B, h1, -, h3⟩ := seti_live h
  rw [h3]
  rw [h1] at hp
  exact (hp.trans List.perm_middle).cons_inv
theorem liveFrom_snoc {α : Type} (y : α) : ∀ (xs : List (Option α)) (i : Nat), liveFrom i (xs ++ [some y]) = liveFrom i xs ++ [(((i + xs.length : Nat) : Int), y)]
  | [], i => by simp [liveFrom]
  | some z :: r, i => by
    simp only [List.cons_append, liveFrom, liveFrom_snoc y r (i + 1), List.length_cons, List.cons_append, List.cons.injEq, true_and]
    congr 3; omega
  | none :: r, i => by
    simp only [List.cons_append, liveFrom, liveFrom_snoc y r (i + 1), List.length_cons]
    congr 3; omega
theorem not_live_len {α : Type} (xs : List (Option α)) (n : Int) (hn : n = ((xs.length + 1 : Nat) : Int)) : n ∉ (liveFrom 1 xs).map Prod.fst := by
  intro h
  obtain ⟨⟨m, x⟩, hm, rfl⟩ := List.mem_map.1 h
  have := (geti_live xs m x).2 hm
  simp only at hn
  subst hn
  have h2 : geti xs ((xs.length + 1 : Nat) : Int) = (match nth xs xs.length with | some x => x | none => none) := rfl
  rw [h2, nth_eq] at this
  simp at this
theorem seti_none_id {α : Type} {xs : List (Option α)} {n : Int} (h : geti xs n = none) : seti xs n none = xs := by
  match n with
  | .ofNat 0 => rfl
  | .negSucc k => rfl
  | .ofNat (k + 1) =>
    have h2 : (match nth xs k with | some x => x | none => none) = none := h
    show setNth xs k none = xs
    have : ∀ (xs : List (Option α)) (k : Nat), (match nth xs k with | some x => x | none => none) = none → setNth xs k none = xs := by
      intro xs
      induction xs with
      | nil => intro k _; rfl
      | cons o r ih =>
        intro k hk
        cases k with
        | zero => simp only [nth] at hk; rw [hk]; rfl
        | succ k => simp only [setNth, nth] at hk ⊢; rw [ih k hk]
    exact this xs k h2
theorem delK_head {κ : Type} [DecidableEq κ] (a : κ) (v : Value) (r : List (κ × Value)) : delK a ((a, v) :: r) = r := by simp [delK]
end Go.Sl
namespace Go.Sl
variable [Ghost]
open Go Go.Mo
attribute [local irreducible] sload sstore
section
variable {l r : St} {sz n i j : Nat} {v x : Value} {xs : List Value} {k : Value → SP} {c : Chunk}
theorem r_idx (hs : SlAt l sz v n xs) (hi : i < n) (h : ∀ b o cap cs ty fz, v = .slice (some ⟨b, o, none⟩) n cap → Knows l b (.cells cs ty fz) → takeAt cs.toList o (n * sz) = some xs → k (ptr b (o + i * sz)) l) : sidx none sz v (vi (i : Int)) k l := by
  obtain ⟨h1, -, h3⟩ := hs
  rcases h3 with rfl | ⟨b, o, cap, cs, ty, fz, rfl, h5, h6⟩
  · omega
  · refine ⟨by omega, by omega, ?_⟩
    show k (.pointer (some (Addr.add ⟨b, o, none⟩ ((i : Int).toNat * sz)))) l
    rw [add_off]
    have := h b o cap cs ty fz rfl h5 h6
    simpa using this
theorem r_fld (hs : SlAt l sz v n xs) (hi : i < n) (hj : j < sz) (hx : xs[i * sz + j]? = some x) (h : k x l) : sidx none sz v (vi (i : Int)) (fun p => sfa j p fun q => sload none q k) l := by
  refine r_idx hs hi (fun b o cap cs ty fz _ h5 h6 => ?_)
  refine r_fa ?_
  refine r_load1 h5 (x := x) ?_ h
  rw [← hx, Nat.add_assoc]
  refine cellAt_take h6 (i * sz + j) ?_
  calc i * sz + j < i * sz + sz := by omega
    _ = (i + 1) * sz := by rw [Nat.succ_mul]
    _ ≤ n * sz := Nat.mul_le_mul_right _ hi
theorem setAt_app : ∀ (xs zs : List Value) (o : Nat) (ys : List Value), o + ys.length ≤ xs.length → setAt (xs ++ zs) o ys = some (xs.take o ++ ys ++ xs.drop (o + ys.length) ++ zs)
  | xs, zs, 0, [], _ => by cases xs <;> simp [setAt]
  | [], zs, 0, y :: ys, h => by simp at h
  | x :: xs, zs, 0, y :: ys, h => by
    have := setAt_app xs zs 0 ys (by simpa using h)
    simp only [List.cons_append, setAt, this]
    try simp
  | [], zs, o + 1, ys, h => by simp at h
  | x :: xs, zs, o + 1, ys, h => by
    have := setAt_app xs zs o ys (by simp only [List.length_cons] at h; omega)
    simp only [List.cons_append, setAt, this, List.take_succ_cons]
    have e : o + 1 + ys.length = (o + ys.length) + 1 := by omega
    rw [e, List.drop_succ_cons]
    try rfl
theorem r_setC {o m : Nat} {y : Value} {kk : SP} {b : Nat} (hs : SlC sz v n xs c) (hk : Take l c r) (hv : ∃ cap, v = .slice (some ⟨b, 0, none⟩) n cap) (hm : (cellsL y).length = m) (ho : o + m ≤ n * sz) (h1 : (cellsL y).all (·.oneCell') = true)
    (h : ∀ c', SlC sz v n (xs.take o ++ cellsL y ++ xs.drop (o + m)) c' → kk (c' :: r)) : sstore m (ptr b o) y kk l := by
  obtain ⟨hl, hone, ⟨rfl, -⟩ | ⟨b', cap, zs, ty, rfl, hcap, rfl, hall⟩⟩ := hs
  · obtain ⟨cap, e⟩ := hv; cases e
  · obtain ⟨cap2, e⟩ := hv
    injection e with e1 e2 e3
    injection e1 with e1
    injection e1 with e1
    subst e1
    have hk2 : Knows l b' (.cells (xs ++ zs).toArray ty) := by unfold Knows; exact hk.mem_iff.2 (by simp)
    have hset := setAt_app xs zs o (cellsL y) (by rw [hl, hm]; exact ho)
    refine r_store (l' := [(b', .cells (xs.take o ++ cellsL y ++ xs.drop (o + m) ++ zs).toArray ty)] :: r) hk2 (by rw [hm] at hset; simpa using hset) hm h1 (by rfl) ?_ (h _ ⟨?_, ?_, .inr ⟨b', cap, zs, ty, rfl, hcap, rfl, ?_⟩⟩)
    · exact ⟨[], r.flatten, .cells (xs ++ zs).toArray ty, hk, by simp⟩
    · simp only [List.length_append, List.length_take, List.length_drop, hm]
      rw [hl, Nat.min_eq_left (by omega)]; omega
    · intro u hu
      rcases List.mem_append.1 hu with hu | hu
      · rcases List.mem_append.1 hu with hu | hu
        · exact hone u (List.mem_of_mem_take hu)
        · have := List.all_eq_true.1 h1 u hu; exact this
      · exact hone u (List.mem_of_mem_drop hu)
    · simp only [List.length_append, List.length_take, List.length_drop, hm] at hall ⊢
      rw [Nat.min_eq_left (by omega)]; omega
theorem slC_base (hs : SlC sz v n xs c) (hn : 0 < n) : ∃ b cap zs ty, v = .slice (some ⟨b, 0, none⟩) n cap ∧ c = [(b, .cells (xs ++ zs).toArray ty)] := by
  obtain ⟨-, -, ⟨-, rfl, -⟩ | ⟨b, cap, zs, ty, h1, -, h2, -⟩⟩ := hs
  · omega
  · exact ⟨b, cap, zs, ty, h1, h2⟩
theorem r_idxSet {kk : SP} (hs : SlC 1 v n xs c) (hk : Take l c r) (hi : i < n) (hx1 : cellsL x = [x]) (hx2 : x.oneCell' = true) (h : ∀ c', SlC 1 v n (xs.set i x) c' → kk (c' :: r)) : sidx none 1 v (vi (i : Int)) (fun p => sstore 1 p x kk) l := by
  obtain ⟨b, cap, zs, ty, rfl, rfl⟩ := slC_base hs (by omega)
  have hin : ∀ b' o, (b', o) ∈ ([(b, .cells (xs ++ zs).toArray ty)] : Chunk) → Knows l b' o := fun b' o hb => by unfold Knows; exact hk.mem_iff.2 (List.mem_append.2 (.inl hb))
  refine r_idx (hs.at hin) hi (fun b2 o cap2 cs ty2 fz e _ _ => ?_)
  injection e with e1 e2 e3
  injection e1 with e1
  injection e1 with e1 e4
  subst e1; subst e4
  refine r_setC hs hk ⟨cap, rfl⟩ (by rw [hx1]; rfl) (by omega) (by rw [hx1]; simp [hx2]) (fun c' hc' => ?_)
  refine h c' ?_
  have hl := hs.1
  have e : xs.take (0 + i * 1) ++ cellsL x ++ xs.drop (0 + i * 1 + 1) = xs.set i x := by
    rw [hx1, Nat.mul_one, Nat.zero_add, List.set_eq_take_append_cons_drop, if_pos (by omega)]
    simp
  rw [e] at hc'; exact hc'
end
end Go.Sl
namespace Go.Sl
variable [Ghost]
open Go Go.Mo
theorem nth_setNth {α : Type} : ∀ (xs : List α) (k j : Nat) (y : α), nth (setNth xs k y) j = if j = k ∧ k < xs.length then some y else nth xs j
  | [], k, j, y => by simp [setNth, nth]
  | x :: xs, 0, 0, y => by simp [setNth, nth]
  | x :: xs, 0, j + 1, y => by simp [setNth, nth]
  | x :: xs, k + 1, 0, y => by simp [setNth, nth]
  | x :: xs, k + 1, j + 1, y => by
    simp only [setNth, nth, nth_setNth xs k j y, List.length_cons, Nat.add_lt_add_iff_right, Nat.add_right_cancel_iff]
theorem nth_lt {α : Type} : ∀ (xs : List α) (k : Nat) (x : α), nth xs k = some x → k < xs.length
  | [], k, x, h => by simp [nth] at h
  | y :: xs, 0, x, h => by simp
  | y :: xs, k + 1, x, h => by have := nth_lt xs k x h; simp; omega
theorem geti_seti {α : Type} {xs : List (Option α)} {n : Int} {x : α} (h : geti xs n = some x) (y : Option α) (m : Int) : geti (seti xs n y) m = if m = n then y else geti xs m := by
  match n with
  | .ofNat 0 => cases h
  | .negSucc k => cases h
  | .ofNat (k + 1) =>
    have hk : k < xs.length := by
      have h2 : (match nth xs k with | some x => x | none => none) = some x := h
      cases hn : nth xs k with
      | none => rw [hn] at h2; cases h2
      | some o => exact nth_lt xs k o hn
    match m with
    | .ofNat 0 =>
      rw [if_neg (by intro e; cases e)]; rfl
    | .negSucc j =>
      rw [if_neg (by intro e; cases e)]; rfl
    | .ofNat (j + 1) =>
      show (match nth (setNth xs k y) j with | some x => x | none => none) = _
      rw [nth_setNth]
      by_cases hj : j = k
      · subst hj
        rw [if_pos ⟨rfl, hk⟩, if_pos rfl]
      · rw [if_neg (fun e => hj e.1), if_neg (fun e => hj (by injection e with e; omega))]
        rfl
theorem put_at {T : Tree} {n : Int} {x : Nd} (h : T.at n = some x) (y : Option Nd) (m : Int) : (T.put n y).at m = if m = n then y else T.at m := geti_seti h y m
theorem put_len (T : Tree) (n : Int) (y : Option Nd) : (T.put n y).all.length = T.all.length := by
  show (seti T.all n y).length = _
  match n with
  | .ofNat 0 => rfl
  | .negSucc k => rfl
  | .ofNat (k + 1) =>
    show (setNth T.all k y).length = _
    have : ∀ {α : Type} (xs : List α) (k : Nat) (y : α), (setNth xs k y).length = xs.length := by
      intro α xs
      induction xs with
      | nil => intro k y; rfl
      | cons x xs ih => intro k y; cases k <;> simp [setNth, ih]
    exact this _ _ _
def SmallN (x : Nd) : Prop := x.names.length ≤ 2 ^ 30 ∧ (0 ≤ x.links ∧ x.links ≤ 2 ^ 30) ∧ (0 ≤ x.holds ∧ x.holds ≤ 2 ^ 30)
theorem Small.node {T : Tree} (h : Small T) {n : Int} {x : Nd} (hx : T.at n = some x) : SmallN x := ⟨h.names n x hx, h.links n x hx, h.holds n x hx⟩
theorem Small.put {T : Tree} (h : Small T) {n : Int} {x y : Nd} (hx : T.at n = some x) (hy : SmallN y) : Small (T.put n (some y)) := by
  have key : ∀ m z, (T.put n (some y)).at m = some z → SmallN z := by
    intro m z hz
    rw [put_at hx] at hz
    split at hz
    · cases hz; exact hy
    · exact h.node hz
  exact ⟨by rw [put_len]; exact h.all, h.files, fun m z hz => (key m z hz).1, fun m z hz => (key m z hz).2.1, fun m z hz => (key m z hz).2.2, h.blocks⟩
end Go.Sl
namespace Go.Sl
variable [Ghost]
open Go Go.Proofs
def S91 (j k a l f : Value) (R : Value → SP) : SP := snil k fun m => sfa 0 m fun n => sfa 1 n fun o => sload none o fun p => sbin Tryz.prog .none 3 .eql p (.int .i64 1) fun d => sjoin1 (fun b => sjoin1 (fun q => sguard q ( R (.int .i64 37)) ( sjoin1 (fun r => sguard r ( R (.int .i64 38)) ( sjoin1 (fun t => sguard t ( R (.int .i64 47)) ( sjoin1 (fun u => sguard u ( R (.int .i64 44)) ( R (.int .i64 0))) fun c => sguard d ( sun .not b fun w => sguard w ( sbin Tryz.prog .pointer 109 .neq l f fun x => sguard x ( scall Tryz.prog 52 #[j, f] fun y => sbin Tryz.prog .none 3 .geq y (.int .i64 16) fun z => c [z]) ( c [.bool false])) ( c [.bool false])) ( c [.bool false]))) fun g => sguard b ( snil a fun A => sfa 7 A fun B => sload none B fun C => slen .map C fun D => sbin Tryz.prog .none 3 .gtr D (.int .i64 0) fun E => g [E]) ( g [.bool false]))) fun h => sguard b ( sun .not d fun F => h [F]) ( h [.bool false]))) fun e => sbin Tryz.prog .pointer 109 .neq a (.pointer none) fun G => sguard G ( sguard d ( sun .not b fun H => e [H]) ( e [.bool false])) ( e [.bool false])) fun i => sbin Tryz.prog .pointer 109 .neq a (.pointer none) fun K => sguard K ( snil a fun L => sfa 0 L fun M => sfa 1 M fun N => sload none N fun O => sbin Tryz.prog .none 3 .eql O (.int .i64 1) fun Q => i [Q]) ( i [.bool false])
theorem S91_ok {v0 v1 v2 v3 v4 : Value} {R : Value → SP} {l : St} (h : S91 v0 v1 v2 v3 v4 R l) : scall Tryz.prog 91 #[v0, v1, v2, v3, v4] R l := sok [v0, v1, v2, v3, v4] (.seq .leaf (.seq .leaf (.join [12, 19, 20, 21, 22, 23, 24, 25, 26, 27, 28] [12] .leaf (.seq (.one (.join [29, 30, 31, 32, 33, 34, 35, 36, 37, 38] [29] .leaf (.cond (.seq .leaf .leaf) (.join [39, 40, 41, 42, 43, 44] [39] .leaf (.cond (.seq .leaf .leaf) (.join [45, 46, 47, 48, 49, 50, 51, 52, 53, 54] [45] .leaf (.cond (.seq .leaf .leaf) (.join [55, 56, 57, 58, 59, 60, 61, 62, 63, 64, 65, 66, 67, 68, 69, 70, 71] [55] .leaf (.cond (.seq .leaf .leaf) .leaf))))))))) (.seq .leaf .leaf))))) Tryz.func91 (by kernel_rfl) (by kernel_rfl) h
def S92 (a c d : Value) (R : Value → SP) : SP := scall Tryz.prog 78 #[a, c] fun e => sjoin1 (fun h => sguard h ( R (.bool false)) ( sloop2 c e fun i j f => snil f fun k => sfa 9 k fun l => sload none l fun m => sbin Tryz.prog .none 3 .neq m j fun n => sguard n ( snil f fun o => sfa 9 o fun p => sload none p fun b => sbin Tryz.prog .none 3 .eql b d fun q => sguard q ( R (.bool true)) ( scall Tryz.prog 58 #[a, b] fun r => i [b, r])) ( R (.bool false)))) fun g => sbin Tryz.prog .pointer 123 .eql e (.pointer none) fun t => sguard t ( g [.bool true]) ( scall Tryz.prog 78 #[a, d] fun u => sbin Tryz.prog .pointer 123 .eql u (.pointer none) fun w => g [w])
theorem S92_ok {v0 v1 v2 : Value} {R : Value → SP} {l : St} (h : S92 v0 v1 v2 R l) : scall Tryz.prog 92 #[v0, v1, v2] R l := sok [v0, v1, v2] (.seq .leaf (.seq .leaf (.seq (.join [11, 12, 13, 14, 15, 16, 17, 18] [18] .leaf (.cond (.seq .leaf .leaf) .leaf)) (.seq (.one (.loop [1, 6, 7, 19, 20, 21, 22, 23, 24, 25, 26, 27, 28, 29, 30, 31, 32, 33, 34] [1, 7] (.seq (.seq .leaf (.cond .leaf .leaf)) (.one (.seq .leaf (.seq (.seq .leaf (.cond (.seq .leaf .leaf) .leaf)) .leaf)))))) (.seq .leaf .leaf))))) Tryz.func92 (by kernel_rfl) (by kernel_rfl) h
def S93 (a e f : Value) (R : Value → SP) : SP := snew (Value.cells e) 27 fun b => snil a fun g => sfa 0 g fun h => sload none h fun i => sfa 0 b fun j => sload none j fun k => slookup (.int .i64) (some (.agg #[.int .i64 0, .int .i64 0, .int .i64 0])) i k true fun c => sext c 0 fun l => sext c 1 fun m => snew #[.int .i64 0, .int .i64 0, .int .i64 0] 159 fun n => sstore 3 n l <| sun .not m fun o => sguard o ( R (.tuple #[.int .i64 0, .int .i64 1])) ( sload (some 2) b fun p => scall Tryz.prog 126 #[a, p] fun d => sext d 0 fun _ => sext d 1 fun q => sguard q ( R (.tuple #[.int .i64 0, .int .i64 15])) ( snil a fun r => sfa 0 r fun t => sload none t fun u => slen .map u fun w => sbin Tryz.prog .none 3 .geq w (.int .i64 8) fun x => sguard x ( R (.tuple #[.int .i64 0, .int .i64 13])) ( snil a fun y => sfa 1 y fun z => sload none z fun A => sbin Tryz.prog .none 3 .add A (.int .i64 1) fun B => snil a fun C => sfa 1 C fun D => sstore 1 D B <| snil a fun E => sfa 2 E fun F => sload none F fun G => sbin Tryz.prog .none 3 .add G (.int .i64 1) fun H => snil a fun K => sfa 2 K fun L => sstore 1 L H <| snil a fun M => sfa 0 M fun N => sload none N fun O => snil a fun Q => sfa 1 Q fun T => sload none T fun U => sload (some 2) b fun V => sbuildR [(0, 1), (1, 2)] #[.int .i64 0, .int .i64 0, .int .i64 0] #[(0, f), (1, V)] fun W => smapset (.int .i64) O U W <| snil a fun X => sfa 1 X fun Y => sload none Y fun Z => R (.tuple #[Z, .int .i64 0]))))
theorem S93_ok {v0 v1 v2 : Value} {R : Value → SP} {l : St} (h : S93 v0 v1 v2 R l) : scall Tryz.prog 93 #[v0, v1, v2] R l := sok [v0, v1, v2] (.seq .leaf (.seq (.seq (.draw [(0, []), (1, []), (2, []), (3, []), (4, []), (5, []), (6, []), (7, []), (8, []), (9, []), (10, []), (11, []), (12, [])]) (.seq .leaf (.cond (.seq .leaf .leaf) .leaf))) (.seq (.seq .leaf (.seq .leaf (.cond (.seq .leaf .leaf) .leaf))) (.seq (.seq .leaf (.cond (.seq .leaf .leaf) .leaf)) (.seq .leaf (.seq .leaf (.seq (.draw [(0, []), (1, []), (2, []), (3, []), (4, []), (5, []), (6, []), (7, []), (8, []), (9, []), (10, []), (11, [])]) (.seq .leaf .leaf)))))))) Tryz.func93 (by kernel_rfl) (by kernel_rfl) h
def S94 (a e f : Value) (R : Value → SP) : SP := snew (Value.cells e) 27 fun b => sfa 0 b fun g => sload none g fun h => scall Tryz.prog 98 #[a, h] fun i => sun .not i fun j => sguard j ( R (.tuple #[.int .i64 0, .int .i64 1])) ( sload (some 2) b fun k => scall Tryz.prog 127 #[a, k] fun l => sbin Tryz.prog .none 3 .geq l (.int .i64 0) fun m => sguard m ( R (.tuple #[.int .i64 0, .int .i64 15])) ( scall Tryz.prog 65 #[a] fun n => slen .slice n fun o => sbin Tryz.prog .none 3 .geq o (.int .i64 8) fun p => sguard p ( R (.tuple #[.int .i64 0, .int .i64 13])) ( snil a fun q => sfa 0 q fun c => sload none c fun d => sload (some 2) b fun r => sbuildR [(0, 2), (2, 1), (3, 1)] #[.int .i64 0, .int .i64 0, .int .i64 0, .bool false] #[(0, r), (1, f), (2, .bool true)] fun t => sbuildSlR 166 4 (.agg #[.int .i64 0, .int .i64 0, .int .i64 0, .bool false]) 1 #[(0, t)] fun u => sand (sload none c fun v' _ => v' = d) <| sbuiltin Tryz.prog .append #[167, 167] 167 #[false, false] #[d, u] fun w => snil a fun x => sfa 0 x fun y => sstore 1 y w <| snil a fun z => sfa 0 z fun A => sload none A fun B => slen .slice B fun C => sbin Tryz.prog .none 3 .sub C (.int .i64 1) fun D => R (.tuple #[D, .int .i64 0]))))
theorem S94_ok {v0 v1 v2 : Value} {R : Value → SP} {l : St} (h : S94 v0 v1 v2 R l) : scall Tryz.prog 94 #[v0, v1, v2] R l := sok [v0, v1, v2] (.seq .leaf (.seq (.seq .leaf (.cond (.seq .leaf .leaf) .leaf)) (.seq (.seq .leaf (.cond (.seq .leaf .leaf) .leaf)) (.seq (.seq .leaf (.cond (.seq .leaf .leaf) .leaf)) (.seq (.draw [(0, []), (1, []), (2, []), (3, []), (4, []), (5, []), (6, []), (7, []), (8, [4]), (9, []), (10, []), (11, []), (12, [])]) (.seq .leaf .leaf)))))) Tryz.func94 (by kernel_rfl) (by kernel_rfl) h
def S95 (b c : Value) (R : Value → SP) : SP := snil b fun d => sfa 2 d fun e => sload none e fun f => slookup (.int .i64) (some (.pointer none)) f c false fun a => sbin Tryz.prog .pointer 109 .eql a (.pointer none) fun g => sguard g ( R (.int .i64 1)) ( snil a fun h => sfa 10 h fun i => sload none i fun j => sbin Tryz.prog .none 3 .add j (.int .i64 1) fun k => snil a fun l => sfa 10 l fun m => sstore 1 m k <| R (.int .i64 0))
theorem S95_ok {v0 v1 : Value} {R : Value → SP} {l : St} (h : S95 v0 v1 R l) : scall Tryz.prog 95 #[v0, v1] R l := sok [v0, v1] (.seq .leaf (.seq .leaf (.seq (.seq .leaf (.cond (.seq .leaf .leaf) .leaf)) (.seq .leaf (.seq .leaf .leaf))))) Tryz.func95 (by kernel_rfl) (by kernel_rfl) h
def S96 (b c : Value) (R : Value → SP) : SP := scall Tryz.prog 58 #[b, c] fun a => sbin Tryz.prog .pointer 123 .eql a (.pointer none) fun d => sguard d ( R (.int .i64 1)) ( snil a fun e => sfa 11 e fun f => sload none f fun g => sbin Tryz.prog .none 3 .add g (.int .i64 1) fun h => snil a fun i => sfa 11 i fun j => sstore 1 j h <| R (.int .i64 0))
theorem S96_ok {v0 v1 : Value} {R : Value → SP} {l : St} (h : S96 v0 v1 R l) : scall Tryz.prog 96 #[v0, v1] R l := sok [v0, v1] (.seq .leaf (.seq .leaf (.seq (.seq .leaf (.cond (.seq .leaf .leaf) .leaf)) (.seq .leaf (.seq .leaf .leaf))))) Tryz.func96 (by kernel_rfl) (by kernel_rfl) h
def S97 (e f : Value) (R : Value → SP) : SP := snew (Value.cells f) 3 fun g => snew #[.slice none 0 0] 23 fun a => scall Tryz.prog 128 #[e] fun h => srangeX Tryz.prog h 2 (fun xs1 cont1 _ => sarg xs1 0 fun b => sarg xs1 1 fun i => snew #[.int .i64 0, .int .i64 0, .int .i64 0] 159 fun c => sstore 3 c i <| sjoin1 (fun j => sguard j ( sload none a fun k => sbuildSlR 3 1 (.int .i64 0) 1 #[(0, b)] fun l => sbuiltin Tryz.prog .append #[23, 23] 23 #[false, false] #[k, l] fun m => sstore 1 a m <| cont1) ( cont1)) fun d => sbin Tryz.prog .none 3 .gtr b (.int .i64 0) fun n => sguard n ( sfa 1 c fun o => sfa 0 o fun p => sload none p fun q => sload none g fun r => sbin Tryz.prog .none 3 .eql q r fun t => d [t]) ( d [.bool false])) ( sload none a fun u => R u) ( R (.slice none 0 0)) []
theorem S97_ok {v0 v1 : Value} {R : Value → SP} {l : St} (h : S97 v0 v1 R l) : scall Tryz.prog 97 #[v0, v1] R l := sok [v0, v1] (.seq .leaf (.seq .leaf (.seq (.seq .leaf (.one (.range [] (.seq .leaf .leaf) (.one (.join [12, 13, 14, 15, 16, 17, 18, 19, 20] [20] .leaf (.cond .leaf .leaf)))))) (.seq .leaf .leaf)))) Tryz.func97 (by kernel_rfl) (by kernel_rfl) h
def S98 (b a : Value) (R : Value → SP) : SP := sbin Tryz.prog .none 3 .geq a (.int .i64 0) fun c => sguard c ( snil b fun d => sfa 0 d fun e => sload none e fun f => slen .slice f fun g => sbin Tryz.prog .none 3 .lss a g fun h => sguard h ( snil b fun i => sfa 0 i fun j => sload none j fun k => sidx none 4 k a fun l => sfa 3 l fun m => sload none m fun n => R n) ( R (.bool false))) ( R (.bool false))
theorem S98_ok {v0 v1 : Value} {R : Value → SP} {l : St} (h : S98 v0 v1 R l) : scall Tryz.prog 98 #[v0, v1] R l := sok [v0, v1] (.seq .leaf (.seq .leaf .leaf)) Tryz.func98 (by kernel_rfl) (by kernel_rfl) h
def S99 (b f : Value) (R : Value → SP) : SP := sloop2 (.slice none 0 0) (.int .i64 1) fun g c a => snil b fun h => sfa 0 h fun i => sload none i fun j => slen .slice j fun k => sbin Tryz.prog .none 3 .lss a k fun l => sguard l ( sjoin1 (fun m => sbin Tryz.prog .none 3 .add a (.int .i64 1) fun n => g [m, n]) fun d => sjoin1 (fun o => sguard o ( sbuildSlR 3 1 (.int .i64 0) 1 #[(0, a)] fun p => sbuiltin Tryz.prog .append #[23, 23] 23 #[false, false] #[c, p] fun q => d [q]) ( d [c])) fun e => snil b fun r => sfa 0 r fun t => sload none t fun u => sidx none 4 u a fun w => sfa 3 w fun x => sload none x fun y => sguard y ( snil b fun z => sfa 0 z fun A => sload none A fun B => sidx none 4 B a fun C => sfa 0 C fun D => sfa 0 D fun E => sload none E fun F => sbin Tryz.prog .none 3 .eql F f fun G => e [G]) ( e [.bool false])) ( R c)
theorem S99_ok {v0 v1 : Value} {R : Value → SP} {l : St} (h : S99 v0 v1 R l) : scall Tryz.prog 99 #[v0, v1] R l := sok [v0, v1] (.seq .leaf (.seq .leaf (.seq (.seq .leaf (.one (.loop [5, 6, 7, 8, 9, 10, 11, 12, 13, 14, 15, 16, 17, 18, 19, 20, 21, 22, 23, 24, 25, 26, 27, 28, 29, 30, 31, 32, 33, 34, 35, 36, 37, 38, 39, 40] [5, 6] (.seq (.seq .leaf (.cond .leaf .leaf)) (.join [5, 16, 17, 18, 19, 20, 21, 22, 23, 24, 25, 26, 27, 28, 29, 30, 31, 32, 33, 34, 35, 36, 37, 38, 39, 40] [5] (.one (.join [16, 17, 18, 19, 20, 21, 22, 23, 24, 25, 26, 27, 28, 29, 30, 31, 32, 33, 34, 35, 36] [36] .leaf (.cond .leaf .leaf))) .leaf))))) (.seq .leaf .leaf)))) Tryz.func99 (by kernel_rfl) (by kernel_rfl) h
def S100 (d a r t u w x : Value) (R : Value → SP) : SP := snew (Value.cells r) 27 fun l => snew (Value.cells t) 27 fun e => snew (Value.cells u) 54 fun f => sjoin1 (fun y => sguard y ( sbuildR [(0, 1), (1, 1), (2, 2), (4, 2), (6, 1), (7, 2), (9, 1), (10, 1), (11, 1), (12, 1), (13, 7)] #[.pointer none, .pointer none, .int .i64 0, .int .i64 0, .int .i64 0, .int .i64 0, .bool false, .int .i64 0, .int .i64 0, .slice none 0 0, .bool false, .int .i64 0, .int .i64 0, .int .i64 0, .int .i64 0, .string ⟨#[]⟩, .int .i64 0, .int .i64 0, .bool false, .bool false] #[] fun z => snew (Value.cells z) 176 fun A => sbuildR [(0, 1), (1, 1), (2, 7), (9, 1)] #[.pointer none, .bool false, .int .i64 0, .int .i64 0, .string ⟨#[]⟩, .int .i64 0, .int .i64 0, .bool false, .bool false, .int .i64 0] #[(0, A), (1, .bool true), (3, .int .i64 1)] fun B => snew (Value.cells B) 174 fun C => R C) ( scall Tryz.prog 130 #[w] fun m => sext m 0 fun D => sext m 1 fun n => snew #[.bool false, .bool false, .slice none 0 0] 221 fun b => sstore 3 b D <| sbin Tryz.prog .none 49 .neq n (.int .i64 0) fun E => sguard E ( sbuildR [(0, 1), (1, 1), (2, 2), (4, 2), (6, 1), (7, 2), (9, 1), (10, 1), (11, 1), (12, 1), (13, 7)] #[.pointer none, .pointer none, .int .i64 0, .int .i64 0, .int .i64 0, .int .i64 0, .bool false, .int .i64 0, .int .i64 0, .slice none 0 0, .bool false, .int .i64 0, .int .i64 0, .int .i64 0, .int .i64 0, .string ⟨#[]⟩, .int .i64 0, .int .i64 0, .bool false, .bool false] #[] fun F => snew (Value.cells F) 176 fun G => sbuildR [(0, 1), (1, 1), (2, 7), (9, 1)] #[.pointer none, .bool false, .int .i64 0, .int .i64 0, .string ⟨#[]⟩, .int .i64 0, .int .i64 0, .bool false, .bool false, .int .i64 0] #[(0, G), (1, .bool true), (3, n)] fun H => snew (Value.cells H) 174 fun K => R K) ( sload (some 2) f fun g => sload (some 2) l fun L => sload (some 2) e fun o => sfa 2 b fun h => sload none h fun i => sfa 1 b fun j => sload none j fun k => scall Tryz.prog 131 #[a, L] fun M => sand (sload none j fun v' _ => v' = k) <| sand (sload none h fun v' _ => v' = i) <| sand (sload (some 2) e fun v' _ => v' = o) <| sand (sload (some 2) f fun v' _ => v' = g) <| scall Tryz.prog 131 #[a, o] fun N => sand (sload none j fun v' _ => v' = k) <| sand (sload none h fun v' _ => v' = i) <| sand (sload (some 2) f fun v' _ => v' = g) <| sbuildR [(0, 1), (1, 1), (2, 2), (4, 2), (6, 1), (7, 2), (9, 1), (10, 1), (11, 1), (12, 1), (13, 7)] #[.pointer none, .pointer none, .int .i64 0, .int .i64 0, .int .i64 0, .int .i64 0, .bool false, .int .i64 0, .int .i64 0, .slice none 0 0, .bool false, .int .i64 0, .int .i64 0, .int .i64 0, .int .i64 0, .string ⟨#[]⟩, .int .i64 0, .int .i64 0, .bool false, .bool false] #[(0, d), (1, a), (2, g), (3, M), (4, x), (5, N), (6, i), (7, k)] fun O => snew (Value.cells O) 176 fun c => sjoin0 ( scall Tryz.prog 132 #[c] fun _ => sbuildR [(0, 1), (1, 1), (2, 7), (9, 1)] #[.pointer none, .bool false, .int .i64 0, .int .i64 0, .string ⟨#[]⟩, .int .i64 0, .int .i64 0, .bool false, .bool false, .int .i64 0] #[(0, c)] fun Q => snew (Value.cells Q) 174 fun T => R T) fun p => sfa 0 b fun U => sload none U fun V => sguard V ( snil c fun W => sfa 4 W fun X => sload (some 2) X fun Y => snil c fun Z => sfa 7 Z fun a0 => sstore 2 a0 Y <| p []) ( p [])))) fun q => sload (some 2) l fun a1 => scall Tryz.prog 129 #[d, a, a1] fun a2 => sun .not a2 fun a3 => sguard a3 ( q [.bool true]) ( sload (some 2) e fun a4 => scall Tryz.prog 129 #[d, a, a4] fun a5 => sun .not a5 fun a6 => q [a6])
theorem S100_ok {v0 v1 v2 v3 v4 v5 v6 : Value} {R : Value → SP} {l : St} (h : S100 v0 v1 v2 v3 v4 v5 v6 R l) : scall Tryz.prog 100 #[v0, v1, v2, v3, v4, v5, v6] R l := sok [v0, v1, v2, v3, v4, v5, v6] (.seq .leaf (.seq (.join [18, 19, 20, 21, 22, 23, 24, 25, 26, 27, 28, 29] [29] .leaf (.cond (.seq .leaf .leaf) .leaf)) (.seq .leaf (.seq (.seq .leaf (.cond (.seq .leaf .leaf) .leaf)) (.seq (.draw [(0, []), (1, []), (2, []), (3, []), (4, []), (6, []), (7, []), (8, []), (10, []), (11, []), (12, []), (13, []), (5, [2, 8, 11, 13]), (9, [2, 11, 13]), (14, []), (15, []), (16, [])]) (.join [62, 63, 64, 65, 66, 67, 68, 69, 70] [] (.seq .leaf (.cond .leaf .leaf)) (.seq .leaf (.seq .leaf .leaf)))))))) Tryz.func100 (by kernel_rfl) (by kernel_rfl) h
def S101 (b : Value) (R : Value → SP) : SP := snil b fun i => sfa 0 i fun j => sload none j fun a => snil b fun k => sfa 1 k fun l => sload none l fun m => sguard m ( R (.bool true)) ( snil a fun n => sfa 9 n fun o => sload none o fun p => slen .slice p fun q => sbin Tryz.prog .none 3 .gtr q (.int .i64 0) fun r => sguard r ( scall Tryz.prog 133 #[a] fun c => sext c 0 fun t => sext c 1 fun d => sjoin1 (fun u => sguard u ( snil a fun w => sfa 13 w fun x => sload (some 7) x fun y => scall Tryz.prog 134 #[b, y, d] fun z => R z) ( R (.bool false))) fun e => sguard t ( e [.bool true]) ( sbin Tryz.prog .none 49 .neq d (.int .i64 0) fun A => e [A])) ( snil a fun B => sfa 10 B fun C => sload none C fun D => snil a fun E => sfa 13 E fun F => sfa 6 F fun G => sstore 1 G D <| snil a fun H => sfa 0 H fun K => sload none K fun L => snil a fun M => sfa 7 M fun N => sfa 1 N fun O => sload none O fun Q => scall Tryz.prog 16 #[L, Q] fun f => sext f 0 fun T => sext f 1 fun _ => snew #[.int .i64 0, .int .i64 0, .int .i64 0, .int .i64 0, .int .i64 0, .int .i64 0, .int .i64 0] 42 fun g => sstore 7 g T <| sjoin1 (fun U => sguard U ( sbuildR [(0, 2), (2, 1), (3, 2), (5, 1), (6, 1)] #[.int .i64 0, .int .i64 0, .string ⟨#[]⟩, .int .i64 0, .int .i64 0, .bool false, .bool false] #[] fun V => scall Tryz.prog 134 #[b, V, .int .i64 37] fun W => R W) ( snil a fun X => sfa 13 X fun Y => sload (some 7) Y fun Z => scall Tryz.prog 134 #[b, Z, .int .i64 0] fun a0 => R a0)) fun h => snil a fun a1 => sfa 10 a1 fun a2 => sload none a2 fun a3 => sguard a3 ( sfa 1 g fun a4 => sload none a4 fun a5 => sbin Tryz.prog .none 3 .neq a5 (.int .i64 1) fun a6 => h [a6]) ( h [.bool false])))
theorem S101_ok {v0 : Value} {R : Value → SP} {l : St} (h : S101 v0 R l) : scall Tryz.prog 101 #[v0] R l := sok [v0] (.seq .leaf (.seq .leaf (.seq (.one (.seq .leaf (.cond (.seq .leaf .leaf) (.seq .leaf (.cond (.seq .leaf (.seq (.join [29, 30, 31, 32, 33] [33] .leaf (.cond (.seq .leaf .leaf) .leaf)) (.seq .leaf .leaf))) .leaf))))) (.seq .leaf (.seq (.seq (.draw [(0, []), (1, []), (2, []), (3, []), (4, []), (5, []), (6, []), (7, []), (8, []), (9, []), (10, []), (11, []), (12, []), (13, []), (14, []), (15, [])]) (.join [62, 63, 64, 65, 66, 67, 68, 69, 70] [70] .leaf (.cond (.seq .leaf .leaf) .leaf))) (.seq .leaf .leaf)))))) Tryz.func101 (by kernel_rfl) (by kernel_rfl) h
def S102 (c d : Value) (R : Value → SP) : SP := sload none d fun e => snil e fun f => sfa 7 f fun g => sload none g fun h => scall Tryz.prog 104 #[h] fun i => scall Tryz.prog 103 #[i] fun b => slen .slice b fun j => sloop1 (.int .i64 0) fun k a => sbin Tryz.prog .none 3 .lss a j fun l => sguard l ( sidx none 1 b a fun m => sload none m fun n => scallv Tryz.prog c #[n] fun o => sun .not o fun p => sguard p ( R (.tuple #[])) ( sbin Tryz.prog .none 3 .add a (.int .i64 1) fun q => k [q])) ( R (.tuple #[]))
theorem S102_ok {v0 v1 : Value} {R : Value → SP} {l : St} (h : S102 v0 v1 R l) : scall Tryz.prog 102 #[v0, v1] R l := sok [v0, v1] (.seq .leaf (.one (.loop [4, 12, 13, 14, 15, 16, 17, 18, 19, 20] [12] (.seq .leaf (.seq (.cond .leaf .leaf) (.seq (.one (.seq .leaf (.seq .leaf (.cond .leaf .leaf)))) .leaf)))))) Tryz.func102 (by kernel_rfl) (by kernel_rfl) h
def S103 (b : Value) (R : Value → SP) : SP := scall Tryz.prog 135 #[b] fun a => scall Tryz.prog 136 #[a] fun _ => R a
theorem S103_ok {v0 : Value} {R : Value → SP} {l : St} (h : S103 v0 R l) : scall Tryz.prog 103 #[v0] R l := sok [v0] (.seq .leaf (.seq .leaf (.seq .leaf (.seq .leaf .leaf)))) Tryz.func103 (by kernel_rfl) (by kernel_rfl) h
def S104 (a : Value) (R : Value → SP) : SP := snew (Value.cells a) 111 fun b => R (.func (.func 137) #[] #[b])
theorem S104_ok {v0 : Value} {R : Value → SP} {l : St} (h : S104 v0 R l) : scall Tryz.prog 104 #[v0] R l := sok [v0] (.seq .leaf (.seq .leaf .leaf)) Tryz.func104 (by kernel_rfl) (by kernel_rfl) h
end Go.Sl
