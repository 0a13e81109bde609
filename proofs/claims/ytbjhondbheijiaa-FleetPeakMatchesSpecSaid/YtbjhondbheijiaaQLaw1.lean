/- FleetPeak, plainly. -/
import Derived.Test.YtbjhondbheijiaaPn7
import Derived.Test.YtbjhondbheijiaaPkA
namespace Go.Lf
theorem fl_neg (N n : Int) (hN : -1125899906842624 ≤ N ∧ N ≤ 1125899906842624) (hn : 1 ≤ n ∧ n ≤ 1125899906842624) :
    iteB (decide (N.tmod n < 0)) (some (IntKind.i64.wrap (IntKind.i64.wrap (N - N.tmod n) - n))) (some (IntKind.i64.wrap (N - N.tmod n))) = some (N - N % n) := by
  have h1 := Int.emod_nonneg N (b := n) (by omega)
  have h2 := Int.emod_lt_of_pos N (b := n) (by omega)
  have t := tm_neg N n hn.1
  rw [iteB_dec]
  by_cases c : N.tmod n < 0
  · rw [if_pos c] at t ⊢
    rw [Go.OB.wrap_i64 (n := N - N.tmod n) (by omega) (by omega), Go.OB.wrap_i64 (by omega) (by omega)]
    congr 1; omega
  · rw [if_neg c] at t ⊢
    rw [Go.OB.wrap_i64 (by omega) (by omega), t]
theorem peak_plain (f : Flight) (s : Str) (n : Int) (h : okFlight f) (hs : okS s) (_ : i64 n) : F_law9_FleetPeakMatchesSpec f s n = some true := by
  have d0 : decide ((PkC f s).1 ≠ (PkC f s).1) = false := by simp
  have d1 : (!((PkC f s).2.1 == (PkC f s).2.1)) = false := by simp
  have d2 : decide ((PkC f s).2.2 ≠ (PkC f s).2.2) = false := by simp
  unfold F_law9_FleetPeakMatchesSpec
  rw [Peak_eq f h s hs, rPeak_eq f h s hs]
  simp only [letO_eq, bindO_s, totals_ok, d0, d1, d2, iteB_fa]
  by_cases hn : n < 1
  · rw [decide_eq_true hn]; rfl
  rw [decide_eq_false hn, iteB_fa]
  change bindO (F_fleet_Masked f (m1 s n)) _ = _
  by_cases hb : fltC f ≠ 0 ∨ isNm s = false
  · obtain ⟨m, hm⟩ := Masked_some f s n h hs hb
    have e : decide ((PkC f s).2.2 ≠ 0) = true := by
      unfold PkC
      rcases hb with hb | hb
      · simp [hb]
      · by_cases c : fltC f = 0
        · simp [c, hb]
        · simp [c]
    rw [hm, bindO_s, e]; rfl
  · have hf : fltC f = 0 := by
      by_cases c : fltC f = 0
      · exact c
      · exact absurd (.inl c) hb
    have hi : isNm s = true := by
      cases c : isNm s
      · exact absurd (.inr c) hb
      · rfl
    have g := good_of hf
    have hP : PkC f s = ((pkOf f s).1, (pkOf f s).2, 0) := by unfold PkC; simp [hf, hi]
    rw [hP]
    by_cases hbig : n ≤ 1125899906842624
    · have hr := pkOf_rng g s
      have hn2 : 1 ≤ n ∧ n ≤ 1125899906842624 := ⟨by omega, hbig⟩
      have hf2 : fltC (mf f s n) = 0 := good_iff (good_mask hn2.1 g)
      have hP2 : PkC (mf f s n) s = ((cp n (pkOf f s)).1, (cp n (pkOf f s)).2, 0) := by unfold PkC; simp [hf2, hi, pkOf_mask f s hn2.1]
      rw [Masked_eq f s n h hs hf hi hn2, bindO_s]
      simp only []
      rw [show decide ((0 : Int) ≠ 0) = false by decide, iteB_fa, bindO_s, iteB_fa, Peak_eq _ (ok_mask hn2.1 g h) s hs, hP2, bindO_s]
      simp only []
      unfold rem'
      rw [if_neg (by omega), bindO_s, bindO_s, fl_neg _ n hr hn2, bindO_s]
      unfold cp
      cases hq : (pkOf f s).2
      · simp [hq, iteB, bindO]
      · simp [iteB, bindO, co]
    · obtain ⟨m, hm⟩ := Masked_big f s n h hs hf hi hbig
      rw [hm, bindO_s]; rfl
end Go.Lf
