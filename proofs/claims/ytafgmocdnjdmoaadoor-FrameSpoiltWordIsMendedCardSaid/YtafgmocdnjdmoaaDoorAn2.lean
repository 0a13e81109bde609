/- Chapter 1: new frames, and whether frames are sound. -/
import Derived.Test.YtafgmocdnjdmoaaDoorAn1
namespace Go.Lf
open Go.RowKit Go.OB Go.Fr1
theorem sync_at {k : Nat} (hk : k < 4) : at' G_frame_syncs.l (k : Int) = some ((wd tab k : Nat) : Int) := by
  have : ∀ i : Fin 4, at' G_frame_syncs.l (i.val : Int) = some ((wd tab i.val : Nat) : Int) := by decide +kernel
  exact this ⟨k, hk⟩
theorem len_set {g : List Nat} (h : g.length = 64) (i x : Nat) : (g.set i x).length = 64 := by rw [List.length_set]; exact h
theorem wide_eq {g : List Nat} {h : g.length = 64} : F_frame_wide (some (en g h)) = some (decide (wideN g)) := by
  unfold F_frame_wide
  rw [joinO_eq]
  unfold F_frame_wide_L1
  by_cases hw : wideN g
  · rw [decide_eq_true hw]
    obtain ⟨i0, h0, h1⟩ := hw
    -- the first one
    have : ∃ m, m < 64 ∧ 4095 < wd g m ∧ ∀ i, i < m → ¬ 4095 < wd g i := by
      have key : ∀ n, (∀ i, i < n → ¬ 4095 < wd g i) ∨ ∃ m, m < n ∧ 4095 < wd g m ∧ ∀ i, i < m → ¬ 4095 < wd g i := by
        intro n
        induction n with
        | zero => exact .inl fun i hi => by omega
        | succ n ih =>
          rcases ih with ih | ⟨m, q1, q2, q3⟩
          · by_cases hq : 4095 < wd g n
            · exact .inr ⟨n, by omega, hq, ih⟩
            · exact .inl (upto_succ ih hq)
          · exact .inr ⟨m, by omega, q2, q3⟩
      rcases key 64 with k | k
      · exact absurd h1 (k i0 h0)
      · exact k
    obtain ⟨m, m1, m2, m3⟩ := this
    refine loopO_seq (fun i => (i : Int)) 0 m _ (by omega) (by omega) (fun k i _ hi => ?_) (fun k => ?_)
    · simp only [letO_eq]
      rw [show decide ((i : Int) < 64) = true from decide_eq_true (by omega), iteB_tr, bindO_s, at_en (by omega), bindO_s, show decide ((4095 : Int) < ((wd g i : Nat) : Int)) = false from decide_eq_false (by have := m3 i hi; omega), iteB_fa, wrap_i64 (by omega) (by omega)]
      rfl
    · simp only [letO_eq]
      rw [show decide ((m : Int) < 64) = true from decide_eq_true (by omega), iteB_tr, bindO_s, at_en (by omega), bindO_s, show decide ((4095 : Int) < ((wd g m : Nat) : Int)) = true from decide_eq_true (by omega), iteB_tr]
  · rw [decide_eq_false hw]
    have hn := notwide h hw
    refine loopO_seq (fun i => (i : Int)) 0 64 _ (by decide) (by decide) (fun k i _ hi => ?_) (fun k => rfl)
    simp only [letO_eq]
    rw [show decide ((i : Int) < 64) = true from decide_eq_true (by omega), iteB_tr, bindO_s, at_en (by omega), bindO_s, show decide ((4095 : Int) < ((wd g i : Nat) : Int)) = false from decide_eq_false (by have := hn i; omega), iteB_fa, wrap_i64 (by omega) (by omega)]
    rfl
section
variable {g : List Nat} {h : g.length = 64}
theorem finish_eq (hs : Small g) : F_frame_finish (en g h) = some (en (finN g) ((finN_len g).trans h)) := by
  have h1 := (fin1_len g).trans h
  have h2 := (fin2_len g).trans h
  have h3 := (fin3_len g).trans h
  have s1 := fin1_small hs
  have s2 := fin2_small hs
  have n1 := numN_lt g
  have n2 := sumN_lt (fin1 g)
  have n3 := checkN_lt (fin2 g)
  have t := tab_lt (numN g % 4)
  have e4 : rem' ((numN g : Nat) : Int) 4 = some ((numN g % 4 : Nat) : Int) := rem_nat (b := 4) (by decide)
  have a0 : at' (en g h).l 0 = some ((wd g 0 : Nat) : Int) := at_en (i := 0) (by decide)
  have c0 : Arr.set (en g h) 0 ((wd tab (numN g % 4) : Nat) : Int) = en (fin1 g) h1 := set_en 0 _
  have a1 : at' (en (fin1 g) h1).l 61 = some ((wd (fin1 g) 61 : Nat) : Int) := at_en (i := 61) (by decide)
  have c1 : Arr.set (en (fin1 g) h1) 61 ((wordN (sumN (fin1 g)) : Nat) : Int) = en (fin2 g) h2 := set_en 61 _
  have a2 : at' (en (fin2 g) h2).l 62 = some ((wd (fin2 g) 62 : Nat) : Int) := at_en (i := 62) (by decide)
  have c2 : Arr.set (en (fin2 g) h2) 62 ((wordN (checkN (fin2 g) / 2048) : Nat) : Int) = en (fin3 g) h3 := set_en 62 _
  have a3 : at' (en (fin3 g) h3).l 63 = some ((wd (fin3 g) 63 : Nat) : Int) := at_en (i := 63) (by decide)
  have c3 : Arr.set (en (fin3 g) h3) 63 ((wordN (checkN (fin2 g) % 2048) : Nat) : Int) = en (finN g) ((finN_len g).trans h) := set_en 63 _
  have e5 : shr' .i64 ((checkN (fin2 g) : Nat) : Int) 11 = some ((checkN (fin2 g) / 2048 : Nat) : Int) := shr_nat (b := 11) (by decide)
  have e6 : bits .and .i64 ((checkN (fin2 g) : Nat) : Int) 2047 = ((checkN (fin2 g) % 2048 : Nat) : Int) := by rw [mask_i64 (m := 2048) 11 (by decide) (by decide) (by omega) (by omega)]; omega
  unfold F_frame_finish
  rw [number_eq hs, bindO_s, e4, bindO_s, sync_at (by omega), bindO_s, a0, bindO_s, letO_eq, c0, sum_eq s1, bindO_s, word_eq n2, bindO_s, a1, bindO_s, letO_eq, c1, check_eq s2, bindO_s, e5, bindO_s,
    word_eq (by omega), bindO_s, letO_eq, e6, word_eq (by omega), bindO_s, a2, bindO_s, letO_eq, c2, a3, bindO_s, letO_eq, c3]
end
/-- All words but the first have an odd number of ones. -/
def oddsN (g : List Nat) : Prop := ∀ i, i < 64 → 1 ≤ i → goodW (wd g i)
instance (g : List Nat) : Decidable (oddsN g) := by unfold oddsN; exact inferInstance
/-- A sound frame. -/
def soundN (g : List Nat) : Prop := ¬ wideN g ∧ wd g 0 = wd tab (numN g % 4) ∧ wd g 61 % 2048 = sumN g ∧ oddsN g ∧ wd g 62 % 2048 * 2048 + wd g 63 % 2048 = checkN g
instance (g : List Nat) : Decidable (soundN g) := by unfold soundN; exact inferInstance
theorem or_data {a b : Nat} (ha : a < 2048) (hb : b < 2048) : ∃ z, shl' .i64 (a : Int) 11 = some z ∧ bits .or .i64 z (b : Int) = ((a * 2048 + b : Nat) : Int) := by
  refine ⟨((a * 2048 : Nat) : Int), ?_, ?_⟩
  · unfold shl'
    rw [if_pos (by decide)]
    congr 1
    rw [show (2 : Int) ^ (11 : Int).toNat = 2048 by decide, wrap_i64 (by omega) (by omega)]
    omega
  · rw [join_i64 (m := 2048) 11 (by decide) (by omega) (by omega) (by omega) (by omega) (by omega) (by omega)]
    omega
section
variable {g : List Nat} {h : g.length = 64}
theorem odds_loop (hs : Small g) (k : Unit → Option Bool) : F_frame_sound_L1 (some (en g h)) k 1 = if oddsN g then k () else some false := by
  unfold F_frame_sound_L1
  have key : ∀ n, (∀ i, 1 ≤ i → i < n → goodW (wd g i)) ∨ ∃ m, 1 ≤ m ∧ m < n ∧ ¬ goodW (wd g m) ∧ ∀ i, 1 ≤ i → i < m → goodW (wd g i) := by
    intro n
    induction n with
    | zero => exact .inl fun i _ hi => by omega
    | succ n ih =>
      rcases ih with ih | ⟨m, q0, q1, q2, q3⟩
      · by_cases hn : 1 ≤ n
        · by_cases hq : goodW (wd g n)
          · refine .inl fun i h1 h2 => ?_
            by_cases e : i = n
            · subst e; exact hq
            · exact ih i h1 (by omega)
          · exact .inr ⟨n, hn, by omega, hq, ih⟩
        · exact .inl fun i h1 h2 => by omega
      · exact .inr ⟨m, q0, by omega, q2, q3⟩
  rcases key 64 with hk | ⟨m, q0, q1, q2, q3⟩
  · rw [if_pos (show oddsN g from fun i a b => hk i b a)]
    refine loopO_seq (fun i => (i : Int)) 1 64 _ (by decide) (by decide) (fun k i hi0 hi => ?_) (fun k => rfl)
    simp only [letO_eq]
    rw [show decide ((i : Int) < 64) = true from decide_eq_true (by omega), iteB_tr, bindO_s, at_en (by omega), bindO_s, odd_eq (hs i), bindO_s, decide_eq_true (hk i hi0 hi), wrap_i64 (by omega) (by omega)]
    rfl
  · rw [if_neg (show ¬ oddsN g from fun a => q2 (a m (by omega) q0))]
    refine loopO_seq (fun i => (i : Int)) 1 m _ q0 (by omega) (fun k i hi0 hi => ?_) (fun k => ?_)
    · simp only [letO_eq]
      rw [show decide ((i : Int) < 64) = true from decide_eq_true (by omega), iteB_tr, bindO_s, at_en (by omega), bindO_s, odd_eq (hs i), bindO_s, decide_eq_true (q3 i hi0 hi), wrap_i64 (by omega) (by omega)]
      rfl
    · simp only [letO_eq]
      rw [show decide ((m : Int) < 64) = true from decide_eq_true (by omega), iteB_tr, bindO_s, at_en (by omega), bindO_s, odd_eq (hs m), bindO_s, decide_eq_false q2]
      rfl
theorem sound_eq (hs : Small g) : F_frame_sound (some (en g h)) = some (decide (soundN g)) := by
  have e4 : rem' ((numN g : Nat) : Int) 4 = some ((numN g % 4 : Nat) : Int) := rem_nat (b := 4) (by decide)
  have n1 := numN_lt g
  have a0 : at' (en g h).l 0 = some ((wd g 0 : Nat) : Int) := at_en (i := 0) (by decide)
  have a1 : at' (en g h).l 61 = some ((wd g 61 : Nat) : Int) := at_en (i := 61) (by decide)
  have a2 : at' (en g h).l 62 = some ((wd g 62 : Nat) : Int) := at_en (i := 62) (by decide)
  have a3 : at' (en g h).l 63 = some ((wd g 63 : Nat) : Int) := at_en (i := 63) (by decide)
  obtain ⟨z, z1, z2⟩ := or_data (a := wd g 62 % 2048) (b := wd g 63 % 2048) (by omega) (by omega)
  unfold F_frame_sound
  simp only [wide_eq, bindO_s, letO_eq, joinO_eq, number_eq hs, e4, sync_at (show numN g % 4 < 4 by omega), a0, a1, a2, a3, data_eq (hs 61), data_eq (hs 62), data_eq (hs 63), sum_eq hs, check_eq hs, z1, z2, odds_loop hs]
  have d1 : decide (((wd g 0 : Nat) : Int) ≠ ((wd tab (numN g % 4) : Nat) : Int)) = !decide (wd g 0 = wd tab (numN g % 4)) := by rw [Bool.eq_iff_iff]; simp; omega
  have d2 : decide (((wd g 61 % 2048 : Nat) : Int) ≠ ((sumN g : Nat) : Int)) = !decide (wd g 61 % 2048 = sumN g) := by rw [Bool.eq_iff_iff]; simp; omega
  have d3 : decide (((wd g 62 % 2048 * 2048 + wd g 63 % 2048 : Nat) : Int) = ((checkN g : Nat) : Int)) = decide (wd g 62 % 2048 * 2048 + wd g 63 % 2048 = checkN g) := dec_dec (by omega)
  rw [d1, d2, d3]
  by_cases c1 : wideN g
  · rw [decide_eq_true c1, decide_eq_false (show ¬ soundN g from fun q => q.1 c1)]; rfl
  by_cases c2 : wd g 0 = wd tab (numN g % 4)
  · by_cases c3 : wd g 61 % 2048 = sumN g
    · by_cases c4 : oddsN g
      · rw [decide_eq_false c1, decide_eq_true c2, decide_eq_true c3, if_pos c4]
        show some _ = some _
        congr 1
        exact dec_dec ⟨fun q => ⟨c1, c2, c3, c4, q⟩, fun q => q.2.2.2.2⟩
      · rw [decide_eq_false c1, decide_eq_true c2, decide_eq_true c3, if_neg c4, decide_eq_false (show ¬ soundN g from fun q => c4 q.2.2.2.1)]; rfl
    · rw [decide_eq_false c1, decide_eq_true c2, decide_eq_false c3, decide_eq_false (show ¬ soundN g from fun q => c3 q.2.2.1)]; rfl
  · rw [decide_eq_false c1, decide_eq_false c2, decide_eq_false (show ¬ soundN g from fun q => c2 q.2.1)]; rfl
end
end Go.Lf
