/- Chapter 1: the laws of new frames and of flipped bits. -/
import Derived.Test.YtafgmocdnjdmoaaDoorAn6
namespace Go.Lf
open Go.RowKit Go.OB Go.Fr1
theorem first_at {α : Type} [DecidableEq α] (x : α) : ∀ (l : List α), x ∈ l → ∃ j, j < l.length ∧ l[j]? = some x ∧ ∀ i, i < j → l[i]? ≠ some x
  | [], h => by cases h
  | a :: l, h => by
    by_cases e : a = x
    · exact ⟨0, by simp, by simp [e], fun i hi => by omega⟩
    · have h' : x ∈ l := by
        rcases List.mem_cons.1 h with h | h
        · exact absurd h.symm e
        · exact h
      obtain ⟨j, h1, h2, h3⟩ := first_at x l h'
      refine ⟨j + 1, by simp; omega, by simpa using h2, fun i hi => ?_⟩
      cases i with
      | zero => simpa using e
      | succ i => simpa using h3 i (by omega)
/-- The loop of slices.Index. -/
theorem index_loop {α : Type} [DecidableEq α] {body : (Int → Option Int) → Int → Option Int} {l : List α} {x : α} (hl : l.length ≤ 9223372036854775807)
    (hs : ∀ k (i : Nat) y, l[i]? = some y → i < l.length → body k (i : Int) = if x = y then some (i : Int) else k ((i + 1 : Nat) : Int)) (he : ∀ k, body k (l.length : Int) = some (-1)) :
    ∃ z, loopO body 0 = some z ∧ decide (0 ≤ z) = decide (x ∈ l) := by
  by_cases hm : x ∈ l
  · obtain ⟨j, h1, h2, h3⟩ := first_at x l hm
    refine ⟨(j : Int), ?_, by rw [decide_eq_true hm, decide_eq_true (by omega)]⟩
    refine loopO_seq (fun i => (i : Int)) 0 j _ (Nat.zero_le _) (by omega) (fun k i _ hi => ?_) (fun k => ?_)
    · show body k (i : Int) = _
      rw [hs k i l[i] (List.getElem?_eq_getElem (by omega)) (by omega), if_neg]
      intro e
      exact h3 i hi (by rw [List.getElem?_eq_getElem (by omega), ← e])
    · show body k (j : Int) = _
      rw [hs k j x h2 h1, if_pos rfl]
  · refine ⟨-1, ?_, by rw [decide_eq_false hm]; rfl⟩
    refine loopO_seq (fun i => (i : Int)) 0 l.length _ (Nat.zero_le _) hl (fun k i _ hi => ?_) he
    show body k (i : Int) = _
    rw [hs k i l[i] (List.getElem?_eq_getElem (by omega)) hi, if_neg]
    intro e
    exact hm (e ▸ List.getElem_mem hi)
theorem ContainsB {l : List Bool} (x : Bool) (hl : l.length ≤ 9223372036854775807) : F_slices_Contains___bool_bool_ l x = some (decide (x ∈ l)) := by
  unfold F_slices_Contains___bool_bool_ F_slices_Index___bool_bool_
  rw [joinO_eq, letO_eq]
  unfold F_slices_Index___bool_bool__L1
  obtain ⟨z, h1, h2⟩ := index_loop (body := fun k211 g207 => letO (decide (g207 < (l.length : Int))) fun x215 => iteB x215 (bindO (at' l g207) fun x241 => letO (x == x241) fun x253 => iteB x253 (some g207) (letO (IntKind.i64.wrap (g207 + 1)) fun x257 => k211 x257)) (some (-1))) (l := l) (x := x) hl
    (fun k i y hy hi => by
      simp only [letO_eq]
      rw [lt_true hi, iteB_tr, at_ok hy, bindO_s, wrap1 hi hl]
      by_cases e : x = y
      · rw [if_pos e, show (x == y) = true by simp [e], iteB_tr]
      · rw [if_neg e, show (x == y) = false by simp [e], iteB_fa])
    (fun k => by simp only [letO_eq]; rw [lt_self]; rfl)
  rw [h1, bindO_s, letO_eq, h2]
theorem ContainsI {l : List Int} (x : Int) (hl : l.length ≤ 9223372036854775807) : F_slices_Contains___int_int_ l x = some (decide (x ∈ l)) := by
  unfold F_slices_Contains___int_int_ F_slices_Index___int_int_
  rw [joinO_eq, letO_eq]
  unfold F_slices_Index___int_int__L1
  obtain ⟨z, h1, h2⟩ := index_loop (body := fun k211 g207 => letO (decide (g207 < (l.length : Int))) fun x215 => iteB x215 (bindO (at' l g207) fun x241 => letO (decide (x = x241)) fun x253 => iteB x253 (some g207) (letO (IntKind.i64.wrap (g207 + 1)) fun x257 => k211 x257)) (some (-1))) (l := l) (x := x) hl
    (fun k i y hy hi => by
      simp only [letO_eq]
      rw [lt_true hi, iteB_tr, at_ok hy, bindO_s, wrap1 hi hl]
      by_cases e : x = y
      · rw [if_pos e, decide_eq_true e, iteB_tr]
      · rw [if_neg e, decide_eq_false e, iteB_fa])
    (fun k => by simp only [letO_eq]; rw [lt_self]; rfl)
  rw [h1, bindO_s, letO_eq, h2]
/-! ### New frames -/
theorem newF_words {m : Nat} {d : List Int} (j : Nat) : wd (newF m (d.map Int.toNat)) j = if j = 1 then wordN (m % 2048) else if j = 2 then wordN (m / 2048) else if 3 ≤ j ∧ j < 3 + 58 then wordN (wd (d.map Int.toNat) (j - 3)) else 0 := by
  rw [← newF_eq rfl]; exact newTo_wd m _ 58 (Nat.le_refl _) j
theorem fin_word {g : List Nat} {i : Nat} (h1 : 1 ≤ i) (h2 : i ≤ 60) : wd (finN g) i = wd g i := by
  unfold finN fin3; rw [wd_ne (by omega), wd_ne (by omega)]; unfold fin2; rw [wd_ne (by omega)]; unfold fin1; rw [wd_ne (by omega)]
theorem set_same {f : List Nat} {i x : Nat} (hl : f.length = 64) (hx : x = wd f i) (hi : i < 64) : f.set i x = f := by
  subst hx
  apply wd_ext (len_set hl _ _) hl
  intro j hj
  by_cases e : i = j
  · subst e; exact wd_eq (by omega)
  · exact wd_ne e
/-- Sealing a sound frame turns nothing. -/
theorem seal_sound {f : List Nat} (hl : f.length = 64) (hs : soundN f) : finN (sealF f) = f := by
  obtain ⟨c1, c2, c3, c4, c5⟩ := hs
  have e0 : sealF f = f := by
    rw [← sealF_eq rfl]
    apply wd_ext ((sealTo_len f 60).trans hl) hl
    intro j hj
    rw [sealTo_wd hl 60 (Nat.le_refl _) j]
    split
    · rename_i c
      exact (good_uniq (c4 j hj c.1)).symm
    · rfl
  have dm : ∀ i, wd f i % 2048 < 2048 := fun i => Nat.mod_lt _ (by decide)
  have d63 := dm 63
  rw [e0]
  have e1 : fin1 f = f := set_same hl c2.symm (by decide)
  have e2 : fin2 f = f := by unfold fin2; rw [e1]; exact set_same hl (by rw [← c3]; exact (good_uniq (c4 61 (by decide) (by decide))).symm) (by decide)
  have e3 : fin3 f = f := by unfold fin3; rw [e2]; exact set_same hl (by rw [show checkN f / 2048 = wd f 62 % 2048 by omega]; exact (good_uniq (c4 62 (by decide) (by decide))).symm) (by decide)
  unfold finN
  rw [e3, e2]
  exact set_same hl (by rw [show checkN f % 2048 = wd f 63 % 2048 by omega]; exact (good_uniq (c4 63 (by decide) (by decide))).symm) (by decide)
theorem numN_new {m : Nat} {d : List Int} (hm : m < 4194304) : numN (newN m (d.map Int.toNat)) = m := by
  have h1 : wd (newN m (d.map Int.toNat)) 1 = wordN (m % 2048) := by unfold newN; rw [fin_word (by decide) (by decide), newF_words, if_pos rfl]
  have h2 : wd (newN m (d.map Int.toNat)) 2 = wordN (m / 2048) := by unfold newN; rw [fin_word (by decide) (by decide), newF_words, if_neg (by decide), if_pos rfl]
  unfold numN
  rw [h1, h2, (good_word (show m % 2048 < 2048 by omega)).2, (good_word (show m / 2048 < 2048 by omega)).2]
  omega
theorem rig_true {f : List Nat} (hs : soundN f) : ∀ k, k ≤ 58 → false ∉ rigL f k
  | 0, _ => by simp [rigL]
  | k + 1, h => by
    have ih := rig_true hs k (by omega)
    unfold rigL
    rw [decide_eq_true (hs.2.2.2.1 (3 + k) (by omega) (by omega))]
    simp [ih]
theorem val_new {m : Nat} {d : List Int} (hl : d.length = 58) (hd : ∀ i, i < 58 → okD (d.getD i 0)) : ∀ k, k ≤ 58 → valL (newN m (d.map Int.toNat)) k = d.take k
  | 0, _ => by simp [valL]
  | k + 1, h => by
    have hk := hd k (by omega)
    unfold okD at hk
    have hg := good_word (d := (d.getD k 0).toNat) (by omega)
    have hw : wd (newN m (d.map Int.toNat)) (3 + k) = wordN (d.getD k 0).toNat := by
      unfold newN
      rw [fin_word (by omega) (by omega), newF_words, if_neg (by omega), if_neg (by omega), if_pos (by omega), show 3 + k - 3 = k by omega, wd_toNat]
    rw [valL, val_new hl hd k (by omega), hw, if_pos hg.1.1, hg.2, List.take_add_one]
    congr 1
    rw [List.getD_eq_getElem?_getD] at *
    rw [List.getElem?_eq_getElem (by omega)] at *
    simp at *
    omega
theorem law_New (n : Int) (d : List Int) (hd : d.length ≤ 9223372036854775807) : F_law1_FrameNewMatchesSpec n d = some true := by
  unfold F_law1_FrameNewMatchesSpec
  simp only [X_New, X_framed, bindO_s, letO_eq]
  have q2 : decide ((newR n d).2 ≠ (newR n d).2) = false := by simp
  rw [show (!decide True) = false from rfl, iteB_fa, q2, bindO_s, iteB_fa]
  by_cases c0 : (newR n d).2 = 0
  · rw [show decide ((newR n d).2 ≠ 0) = false from decide_eq_false (by simpa using c0), iteB_fa]
    obtain ⟨m, rfl, hm, hdl, hok, hN⟩ := newR_ok c0
    have hsd := newN_sound hm hok
    have hnum := numN_new (d := d) hm
    have hval := val_new (m := m) hdl hok 58 (Nat.le_refl _)
    have hl := newR_len (m : Int) d
    have hsm := newR_small (m : Int) d
    have hw : ¬ wideN (newR (m : Int) d).1 := by rw [hN]; exact hsd.1
    have hseal := seal_sound (f := newN m (d.map Int.toNat)) (by rw [← hN]; exact hl) hsd
    have hfl : flawsL (newR (m : Int) d).1 = [] := by rw [hN]; exact (flawsL_nil _).2 hsd
    have hgd : numR (newR (m : Int) d).1 = ((m : Int), true) := by
      rw [hN]; unfold numR
      rw [if_pos ⟨hsd.2.2.2.1 1 (by decide) (by decide), hsd.2.2.2.1 2 (by decide) (by decide)⟩, hnum]
    have hv : valL (newR (m : Int) d).1 58 = d := by rw [hN, hval, List.take_of_length_le (by omega)]
    have hr : false ∉ rigL (newR (m : Int) d).1 58 := by rw [hN]; exact rig_true hsd 58 (Nat.le_refl _)
    have hse : finN (sealF (newR (m : Int) d).1) = (newR (m : Int) d).1 := by rw [hN]; exact hseal
    have hrl := rigL_len (newR (m : Int) d).1 58
    have hvl := valL_len (newR (m : Int) d).1 58
    rw [Number_eq hsm, hgd]
    simp only [bindO_s, letO_eq]
    rw [Values_eq hsm]
    simp only [bindO_s, letO_eq]
    rw [Seal_eq hsm, if_neg hw]
    simp only [bindO_s, letO_eq]
    rw [EqualI (by omega) hd, ContainsB _ (by omega), Flaws_eq hsm, hfl, hv, decide_eq_false hr, decide_eq_true (en_inj.2 hse)]
    simp [iteB, bindO]
  · rw [show decide ((newR n d).2 ≠ 0) = true from decide_eq_true c0, iteB_tr]
end Go.Lf
