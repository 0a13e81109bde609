/- Peaks: both programs tell them alike. -/
import Derived.Test.YtgmikmoapfmedaaGreatDoorVn4
namespace Go.Lf
theorem uZ {α : Type} (e : Nat → α → Int) : ∀ (l : List α) (i : Nat), dU (fun i x => if e i x = 0 then none else some (some (e i x))) (some 0) l i = some 0 ↔ ∀ j x, l[j]? = some x → e (i + j) x = 0
  | [], i => by simp [dU]
  | x :: l, i => by
    rw [dU]
    by_cases h : e i x = 0
    · rw [if_pos h]
      refine (uZ e l (i + 1)).trans ?_
      constructor
      · intro q j y hy
        cases j with
        | zero => simp at hy; subst hy; simpa using h
        | succ j => have := q j y (by simpa using hy); rwa [show i + (j + 1) = i + 1 + j by omega]
      · intro q j y hy; have := q (j + 1) y (by simpa using hy); rwa [show i + (j + 1) = i + 1 + j by omega] at this
    · rw [if_neg h]
      constructor
      · intro q; exact absurd (Option.some.inj q) h
      · intro q; exact absurd (by simpa using q 0 x rfl) h
theorem aDx (l : List gW) : tZ l = 0 ↔ l.length ≤ 50 ∧ ∀ i x, l[i]? = some x → aBg l i x = 0 := by
  have e := aEc l
  unfold xZ at e
  split at e
  · rename_i h
    simp only [decide_eq_true_eq] at h
    have := Option.some.inj e
    constructor
    · intro h0; omega
    · intro h0; omega
  · rename_i h
    simp only [decide_eq_true_eq] at h
    have f := uZ (aBg l) l 0
    simp only [Nat.zero_add] at f
    rw [e] at f
    constructor
    · intro h0; exact ⟨by omega, f.1 (by rw [h0])⟩
    · rintro ⟨_, h0⟩; exact Option.some.inj (f.2 h0)
theorem aBn (l : List gW) (i : Nat) (x : gW) : aBg l i x = 0 ↔ wU x.Name = true ∧ aS (fun _ y => decide (y.Name = x.Name)) (l.take i) 0 = false ∧ qO x.Series = 0 ∧ 0 ≤ x.Long ∧ x.Long ≤ 1099511627776 := by
  unfold aBg
  cases wU x.Name
  · simp
  · cases aS (fun _ y => decide (y.Name = x.Name)) (l.take i) 0
    · by_cases hz : qO x.Series = 0
      · simp [hz]
      · simp [hz]
    · simp
theorem wM (e : Nat → fF → Int) : ∀ (l : List fF) (i : Nat) (r : Int × Int), dU (fun i x => if e i x = 0 then none else some (some ((i : Int), e i x))) (some (-1, 0)) l i = some r → (r.2 = 0 ↔ ∀ j x, l[j]? = some x → e (i + j) x = 0)
  | [], i, r, h => by cases h; simp
  | x :: l, i, r, h => by
    rw [dU] at h
    by_cases hz : e i x = 0
    · rw [if_pos hz] at h
      refine (wM e l (i + 1) r h).trans ?_
      constructor
      · intro q j y hy
        cases j with
        | zero => simp at hy; subst hy; simpa using hz
        | succ j => have := q j y (by simpa using hy); rwa [show i + (j + 1) = i + 1 + j by omega]
      · intro q j y hy; have := q (j + 1) y (by simpa using hy); rwa [show i + (j + 1) = i + 1 + j by omega] at this
    · rw [if_neg hz] at h
      have hr := Option.some.inj h
      subst hr
      constructor
      · intro q; exact absurd q hz
      · intro q; exact absurd (by simpa using q 0 x rfl) hz
theorem aDv (s : Series) : qO s = 0 ↔ (1 ≤ s.Den ∧ s.Den ≤ 1000000) ∧ s.Samples.length ≤ 20000 ∧ ∀ i x, s.Samples[i]? = some x → aAy s.Samples i x = 0 := by
  obtain ⟨r, hr⟩ := rO s
  have e : qO s = r.2 := by unfold qO; rw [hr]; rfl
  rw [e]
  unfold aBh at hr
  split at hr
  · rename_i h
    cases hr
    simp only [Bool.not_eq_true', Bool.and_eq_false_iff, decide_eq_false_iff_not] at h
    constructor
    · intro h0; cases h0
    · rintro ⟨h1, _⟩; omega
  · rename_i h
    simp only [Bool.not_eq_true', Bool.and_eq_false_iff, decide_eq_false_iff_not] at h
    split at hr
    · rename_i h2
      simp only [decide_eq_true_eq] at h2
      cases hr
      constructor
      · intro h0; cases h0
      · rintro ⟨_, h1, _⟩; omega
    · rename_i h2
      simp only [decide_eq_true_eq] at h2
      have := wM (aAy s.Samples) s.Samples 0 r hr
      simp only [Nat.zero_add] at this
      rw [this]
      constructor
      · intro q; exact ⟨by omega, by omega, q⟩
      · intro q; exact q.2.2
end Go.Lf
