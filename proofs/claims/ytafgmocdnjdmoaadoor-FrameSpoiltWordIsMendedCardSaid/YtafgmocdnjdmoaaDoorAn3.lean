/- Chapter 1: what is wrong with a frame; lists that are equal. -/
import Derived.Test.YtafgmocdnjdmoaaDoorAn2
namespace Go.Lf
open Go.RowKit Go.OB Go.Fr1
/-- The words among the first k that are too wide. -/
def flW (g : List Nat) : Nat → List Flaw
  | 0 => []
  | k + 1 => if 4095 < wd g k then flW g k ++ [⟨(k : Nat), 5⟩] else flW g k
def flO (l : List Flaw) (g : List Nat) : Nat → List Flaw
  | 0 => l
  | k + 1 => if goodW (wd g (k + 1)) then flO l g k else flO l g k ++ [⟨((k + 1 : Nat) : Int), 2⟩]
theorem flW_len (g : List Nat) : ∀ k, (flW g k).length ≤ k
  | 0 => by simp [flW]
  | k + 1 => by have := flW_len g k; unfold flW; split <;> simp <;> omega
theorem flO_len (l : List Flaw) (g : List Nat) : ∀ k, (flO l g k).length ≤ l.length + k
  | 0 => by simp [flO]
  | k + 1 => by have := flO_len l g k; unfold flO; split <;> simp <;> omega
theorem flW_nil (g : List Nat) : ∀ k, flW g k = [] ↔ ∀ i, i < k → ¬ 4095 < wd g i
  | 0 => by simp [flW]
  | k + 1 => by
    have ih := flW_nil g k
    unfold flW
    constructor
    · intro h
      split at h
      · simp at h
      · rename_i c; exact upto_succ (ih.1 h) c
    · intro h
      rw [if_neg (h k (by omega))]
      exact ih.2 fun i hi => h i (by omega)
theorem flO_nil (g : List Nat) : ∀ k, flO [] g k = [] ↔ ∀ i, 1 ≤ i → i < k + 1 → goodW (wd g i)
  | 0 => by simp [flO]; omega
  | k + 1 => by
    have ih := flO_nil g k
    unfold flO
    constructor
    · intro h
      split at h
      · rename_i c
        intro i h1 h2
        by_cases e : i = k + 1
        · subst e; exact c
        · exact ih.1 h i h1 (by omega)
      · simp at h
    · intro h
      rw [if_pos (h (k + 1) (by omega) (by omega))]
      exact ih.2 fun i h1 h2 => h i h1 (by omega)
def flS (g : List Nat) : List Flaw := if wd g 0 = wd tab (numN g % 4) then [] else [⟨0, 1⟩]
def flP (g : List Nat) : List Flaw := flO (flS g) g 63
def flT (g : List Nat) : List Flaw := if wd g 61 % 2048 = sumN g then flP g else flP g ++ [⟨61, 3⟩]
def flC (g : List Nat) : List Flaw := if wd g 62 % 2048 * 2048 + wd g 63 % 2048 = checkN g then flT g else flT g ++ [⟨62, 4⟩]
/-- What is wrong with a frame. -/
def flawsL (g : List Nat) : List Flaw := if flW g 64 = [] then flC g else flW g 64
theorem flS_len (g : List Nat) : (flS g).length ≤ 1 := by unfold flS; split <;> simp
theorem flP_len (g : List Nat) : (flP g).length ≤ 64 := by have := flO_len (flS g) g 63; have := flS_len g; unfold flP; omega
theorem flT_len (g : List Nat) : (flT g).length ≤ 65 := by have := flP_len g; unfold flT; split <;> simp <;> omega
theorem flC_len (g : List Nat) : (flC g).length ≤ 66 := by have := flT_len g; unfold flC; split <;> simp <;> omega
theorem flawsL_len (g : List Nat) : (flawsL g).length ≤ 66 := by
  have := flC_len g
  have := flW_len g 64
  unfold flawsL; split <;> omega
theorem app_nil_l {α : Type} {l m : List α} : l ++ m = [] ↔ l = [] ∧ m = [] := List.append_eq_nil_iff
theorem flawsL_nil (g : List Nat) : flawsL g = [] ↔ soundN g := by
  have hw : flW g 64 = [] ↔ ¬ wideN g := by
    rw [flW_nil]
    exact ⟨fun h ⟨i, h1, h2⟩ => h i h1 h2, fun h i h1 h2 => h ⟨i, h1, h2⟩⟩
  have ho : flO [] g 63 = [] ↔ oddsN g := by
    rw [flO_nil]
    exact ⟨fun h i a b => h i b a, fun h i a b => h i b a⟩
  have hl : ∀ (l : List Flaw) k, flO l g k = [] → l = [] := by
    intro l k
    induction k with
    | zero => exact id
    | succ k ih =>
      intro h
      unfold flO at h
      split at h
      · exact ih h
      · simp at h
  unfold flawsL
  constructor
  · intro h
    split at h
    · rename_i c
      unfold flC at h
      split at h
      · rename_i c5
        unfold flT at h
        split at h
        · rename_i c3
          unfold flP at h
          have h1 := hl _ _ h
          unfold flS at h1
          split at h1
          · rename_i c2
            unfold flS at h
            rw [if_pos c2] at h
            exact ⟨hw.1 c, c2, c3, ho.1 h, c5⟩
          · simp at h1
        · simp at h
      · simp at h
    · rename_i c; exact absurd h c
  · rintro ⟨c1, c2, c3, c4, c5⟩
    rw [if_pos (hw.2 c1)]
    unfold flC flT flP flS
    rw [if_pos c5, if_pos c3, if_pos c2]
    exact ho.2 c4
theorem app16 {l : List Flaw} (x : Flaw) (h : l.length ≤ 200) : app' 16 l [x] = some (l ++ [x]) := by
  unfold app'
  rw [if_pos]
  rw [maxLen_eq]; simp; omega
theorem flaws_L1 {g : List Nat} {h : g.length = 64} : F_frame_Flaws_L1 (en g h) ([], 0) = some (flW g 64) := by
  unfold F_frame_Flaws_L1
  refine loopO_seq (fun i => (flW g i, (i : Int))) 0 64 _ (by decide) (by decide) (fun k i _ hi => ?_) (fun k => rfl)
  have := flW_len g i
  simp only [letO_eq]
  rw [show decide ((i : Int) < 64) = true from decide_eq_true (by omega), iteB_tr, at_en (by omega), bindO_s, app16 _ (by omega), wrap_i64 (by omega) (by omega)]
  by_cases c : 4095 < wd g i
  · rw [show decide ((4095 : Int) < ((wd g i : Nat) : Int)) = true from decide_eq_true (by omega), iteB_tr, bindO_s, bindO_s, show flW g (i + 1) = flW g i ++ [⟨(i : Nat), 5⟩] from if_pos c]
    rfl
  · rw [show decide ((4095 : Int) < ((wd g i : Nat) : Int)) = false from decide_eq_false (by omega), iteB_fa, bindO_s, show flW g (i + 1) = flW g i from if_neg c]
    rfl
section
variable {g : List Nat} {h : g.length = 64}
theorem flaws_L2 (hs : Small g) {l : List Flaw} (hl : l.length ≤ 1) : F_frame_Flaws_L2 (en g h) (l, 1) = some (flO l g 63) := by
  unfold F_frame_Flaws_L2
  refine (loopO_seq (fun i => (flO l g i, ((i + 1 : Nat) : Int))) 0 63 (some (flO l g 63)) (by decide) (by decide) (fun k i _ hi => ?_) (fun k => rfl))
  have := flO_len l g i
  simp only [letO_eq]
  rw [show decide (((i + 1 : Nat) : Int) < 64) = true from decide_eq_true (by omega), iteB_tr, at_en (by omega), bindO_s, odd_eq (hs _), bindO_s, app16 _ (by omega), wrap_i64 (by omega) (by omega)]
  by_cases c : goodW (wd g (i + 1))
  · rw [decide_eq_true c, show flO l g (i + 1) = flO l g i from if_pos c]
    rfl
  · rw [decide_eq_false c, show flO l g (i + 1) = flO l g i ++ [⟨((i + 1 : Nat) : Int), 2⟩] from if_neg c]
    rfl
theorem Flaws_eq (hs : Small g) : F_frame_Flaws (en g h) = some (flawsL g) := by
  have n1 := numN_lt g
  have e4 : rem' ((numN g : Nat) : Int) 4 = some ((numN g % 4 : Nat) : Int) := rem_nat (b := 4) (by decide)
  have a0 : at' (en g h).l 0 = some ((wd g 0 : Nat) : Int) := at_en (i := 0) (by decide)
  have a1 : at' (en g h).l 61 = some ((wd g 61 : Nat) : Int) := at_en (i := 61) (by decide)
  have a2 : at' (en g h).l 62 = some ((wd g 62 : Nat) : Int) := at_en (i := 62) (by decide)
  have a3 : at' (en g h).l 63 = some ((wd g 63 : Nat) : Int) := at_en (i := 63) (by decide)
  obtain ⟨z, z1, z2⟩ := or_data (a := wd g 62 % 2048) (b := wd g 63 % 2048) (by omega) (by omega)
  have d1 : decide (((wd g 0 : Nat) : Int) ≠ ((wd tab (numN g % 4) : Nat) : Int)) = !decide (wd g 0 = wd tab (numN g % 4)) := by rw [Bool.eq_iff_iff]; simp; omega
  have d2 : decide (((wd g 61 % 2048 : Nat) : Int) ≠ ((sumN g : Nat) : Int)) = !decide (wd g 61 % 2048 = sumN g) := by rw [Bool.eq_iff_iff]; simp; omega
  have d3 : decide (((wd g 62 % 2048 * 2048 + wd g 63 % 2048 : Nat) : Int) ≠ ((checkN g : Nat) : Int)) = !decide (wd g 62 % 2048 * 2048 + wd g 63 % 2048 = checkN g) := by rw [Bool.eq_iff_iff]; simp; omega
  unfold F_frame_Flaws flawsL
  rw [flaws_L1, bindO_s, letO_eq, letO_eq]
  by_cases c : flW g 64 = []
  · rw [if_pos c, c]
    rw [show decide (0 < (([] : List Flaw).length : Int)) = false from rfl, iteB_fa, a0, bindO_s, number_eq hs, bindO_s, e4, bindO_s, sync_at (show numN g % 4 < 4 by omega), bindO_s]
    simp only [letO_eq]
    rw [d1]
    have q1 : (iteB (!decide (wd g 0 = wd tab (numN g % 4))) (bindO (app' 16 [] [(⟨0, 1⟩ : Flaw)]) fun x => some x) (some [])) = some (flS g) := by
      rw [app16 _ (by simp)]
      unfold flS
      by_cases c2 : wd g 0 = wd tab (numN g % 4)
      · rw [decide_eq_true c2, if_pos c2]; rfl
      · rw [decide_eq_false c2, if_neg c2]; rfl
    rw [q1, bindO_s, flaws_L2 hs (flS_len g), bindO_s, a1, bindO_s, data_eq (hs 61), bindO_s, sum_eq hs, bindO_s, d2]
    have q2 : (iteB (!decide (wd g 61 % 2048 = sumN g)) (bindO (app' 16 (flP g) [(⟨61, 3⟩ : Flaw)]) fun x => some x) (some (flP g))) = some (flT g) := by
      have := flP_len g
      rw [app16 _ (by omega)]
      unfold flT
      by_cases c2 : wd g 61 % 2048 = sumN g
      · rw [decide_eq_true c2, if_pos c2]; rfl
      · rw [decide_eq_false c2, if_neg c2]; rfl
    unfold flP at q2
    rw [q2, bindO_s, a2, bindO_s, data_eq (hs 62), bindO_s, z1, bindO_s, a3, bindO_s, data_eq (hs 63), bindO_s, z2, check_eq hs, bindO_s, d3]
    have := flT_len g
    rw [app16 _ (by omega)]
    unfold flC
    by_cases c2 : wd g 62 % 2048 * 2048 + wd g 63 % 2048 = checkN g
    · rw [decide_eq_true c2, if_pos c2]; rfl
    · rw [decide_eq_false c2, if_neg c2]; rfl
  · rw [if_neg c, show decide (0 < ((flW g 64).length : Int)) = true from decide_eq_true (by have := List.length_pos_iff.2 c; omega), iteB_tr]
end
/-! ### Lists that are equal -/
theorem first_diff {α : Type} [DecidableEq α] : ∀ (l m : List α), l.length = m.length → l ≠ m → ∃ j, j < l.length ∧ l[j]? ≠ m[j]? ∧ ∀ i, i < j → l[i]? = m[i]?
  | [], [], _, h => absurd rfl h
  | [], _ :: _, h, _ => by simp at h
  | _ :: _, [], h, _ => by simp at h
  | a :: l, b :: m, h, hn => by
    by_cases e : a = b
    · subst e
      obtain ⟨j, h1, h2, h3⟩ := first_diff l m (by simpa using h) (fun e => hn (by rw [e]))
      refine ⟨j + 1, by simp; omega, by simpa using h2, fun i hi => ?_⟩
      cases i with
      | zero => rfl
      | succ i => simpa using h3 i (by omega)
    · exact ⟨0, by simp, by simpa using e, fun i hi => by omega⟩
/-- The loop of slices.Equal. -/
theorem equal_loop {α : Type} [DecidableEq α] {body : (Int → Option Bool) → Int → Option Bool} {l m : List α} (hl : l.length ≤ 9223372036854775807) (hlm : l.length = m.length)
    (hs : ∀ k (i : Nat) x y, l[i]? = some x → m[i]? = some y → i < l.length → body k (i : Int) = if x = y then k ((i + 1 : Nat) : Int) else some false) (he : ∀ k, body k (l.length : Int) = some true) : loopO body 0 = some (decide (l = m)) := by
  by_cases e : l = m
  · rw [decide_eq_true e]
    refine loopO_seq (fun i => (i : Int)) 0 l.length _ (Nat.zero_le _) hl (fun k i _ hi => ?_) he
    subst e
    show body k (i : Int) = _
    rw [hs k i l[i] l[i] (List.getElem?_eq_getElem hi) (List.getElem?_eq_getElem hi) hi, if_pos rfl]
  · rw [decide_eq_false e]
    obtain ⟨j, h1, h2, h3⟩ := first_diff l m hlm e
    refine loopO_seq (fun i => (i : Int)) 0 j _ (Nat.zero_le _) (by omega) (fun k i _ hi => ?_) (fun k => ?_)
    · have := h3 i hi
      show body k (i : Int) = _
      rw [hs k i l[i] l[i] (List.getElem?_eq_getElem (by omega)) (by rw [← this]; exact List.getElem?_eq_getElem (by omega)) (by omega), if_pos rfl]
    · show body k (j : Int) = _
      rw [hs k j l[j] m[j] (List.getElem?_eq_getElem h1) (List.getElem?_eq_getElem (by omega)) h1, if_neg]
      intro e2
      rw [List.getElem?_eq_getElem h1, List.getElem?_eq_getElem (show j < m.length by omega), e2] at h2
      exact h2 rfl
theorem EqualI {l m : List Int} (hl : l.length ≤ 9223372036854775807) (_hm : m.length ≤ 9223372036854775807) : F_slices_Equal___int_int_ l m = some (decide (l = m)) := by
  unfold F_slices_Equal___int_int_
  simp only [letO_eq, joinO_eq]
  by_cases c : l.length = m.length
  · rw [show decide ((l.length : Int) ≠ (m.length : Int)) = false from decide_eq_false (by omega), iteB_fa]
    unfold F_slices_Equal___int_int__L1
    refine equal_loop hl c (fun k i x y hx hy hi => ?_) (fun k => ?_)
    · simp only [letO_eq]
      rw [lt_true hi, iteB_tr, at_ok hx, bindO_s, at_ok hy, bindO_s, wrap1 hi hl]
      by_cases e : x = y
      · rw [if_pos e, show decide (x ≠ y) = false from decide_eq_false (by simpa using e), iteB_fa]
      · rw [if_neg e, show decide (x ≠ y) = true from decide_eq_true e, iteB_tr]
    · simp only [letO_eq]; rw [lt_self]; rfl
  · rw [show decide ((l.length : Int) ≠ (m.length : Int)) = true from decide_eq_true (by omega), iteB_tr, decide_eq_false (fun e => c (by rw [e]))]
theorem EqualB {l m : List Bool} (hl : l.length ≤ 9223372036854775807) (_hm : m.length ≤ 9223372036854775807) : F_slices_Equal___bool_bool_ l m = some (decide (l = m)) := by
  unfold F_slices_Equal___bool_bool_
  simp only [letO_eq, joinO_eq]
  by_cases c : l.length = m.length
  · rw [show decide ((l.length : Int) ≠ (m.length : Int)) = false from decide_eq_false (by omega), iteB_fa]
    unfold F_slices_Equal___bool_bool__L1
    refine equal_loop hl c (fun k i x y hx hy hi => ?_) (fun k => ?_)
    · simp only [letO_eq]
      rw [lt_true hi, iteB_tr, at_ok hx, bindO_s, at_ok hy, bindO_s, wrap1 hi hl]
      by_cases e : x = y
      · rw [if_pos e, show (!(x == y)) = false by simp [e], iteB_fa]
      · rw [if_neg e, show (!(x == y)) = true by simp [e], iteB_tr]
    · simp only [letO_eq]; rw [lt_self]; rfl
  · rw [show decide ((l.length : Int) ≠ (m.length : Int)) = true from decide_eq_true (by omega), iteB_tr, decide_eq_false (fun e => c (by rw [e]))]
theorem EqualF {l m : List Flaw} (hl : l.length ≤ 9223372036854775807) (_hm : m.length ≤ 9223372036854775807) : F_slices_Equal___api_Flaw_api_Flaw_ l m = some (decide (l = m)) := by
  unfold F_slices_Equal___api_Flaw_api_Flaw_
  simp only [letO_eq, joinO_eq]
  by_cases c : l.length = m.length
  · rw [show decide ((l.length : Int) ≠ (m.length : Int)) = false from decide_eq_false (by omega), iteB_fa]
    unfold F_slices_Equal___api_Flaw_api_Flaw__L1
    refine equal_loop hl c (fun k i x y hx hy hi => ?_) (fun k => ?_)
    · simp only [letO_eq]
      rw [lt_true hi, iteB_tr, at_ok hx, bindO_s, at_ok hy, bindO_s, wrap1 hi hl]
      by_cases e : x = y
      · rw [if_pos e, show (!decide (x = y)) = false by simp [e], iteB_fa]
      · rw [if_neg e, show (!decide (x = y)) = true by simp [e], iteB_tr]
    · simp only [letO_eq]; rw [lt_self]; rfl
  · rw [show decide ((l.length : Int) ≠ (m.length : Int)) = true from decide_eq_true (by omega), iteB_tr, decide_eq_false (fun e => c (by rw [e]))]
end Go.Lf
