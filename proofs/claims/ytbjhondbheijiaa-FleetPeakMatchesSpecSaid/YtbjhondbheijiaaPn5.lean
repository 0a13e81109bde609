/- Peaks: both programs tell them alike. -/
import Derived.Test.YtbjhondbheijiaaPn4
namespace Go.Lf
theorem findO_zero {α : Type} (e : Nat → α → Int) : ∀ (l : List α) (i : Nat), findO (fun i x => if e i x = 0 then none else some (some (e i x))) (some 0) l i = some 0 ↔ ∀ j x, l[j]? = some x → e (i + j) x = 0
  | [], i => by simp [findO]
  | x :: l, i => by
    rw [findO]
    by_cases h : e i x = 0
    · rw [if_pos h]
      refine (findO_zero e l (i + 1)).trans ?_
      constructor
      · intro q j y hy
        cases j with
        | zero => simp at hy; subst hy; simpa using h
        | succ j => have := q j y (by simpa using hy); rwa [show i + (j + 1) = i + 1 + j by omega]
      · intro q j y hy; have := q (j + 1) y (by simpa using hy); rwa [show i + (j + 1) = i + 1 + j by omega] at this
    · rw [if_neg h]
      constructor
      · intro q; exact absurd (Option.some.inj q) h
      · intro q; exact absurd (by simpa using q 0 x rfl) h
theorem trk_iff (l : List Track) : trkC l = 0 ↔ l.length ≤ 50 ∧ ∀ i x, l[i]? = some x → trkE l i x = 0 := by
  have e := trkF_eq l
  unfold trkF at e
  split at e
  · rename_i h
    simp only [decide_eq_true_eq] at h
    have := Option.some.inj e
    constructor
    · intro h0; omega
    · intro h0; omega
  · rename_i h
    simp only [decide_eq_true_eq] at h
    have f := findO_zero (trkE l) l 0
    simp only [Nat.zero_add] at f
    rw [e] at f
    constructor
    · intro h0; exact ⟨by omega, f.1 (by rw [h0])⟩
    · rintro ⟨_, h0⟩; exact Option.some.inj (f.2 h0)
theorem trkE_iff (l : List Track) (i : Nat) (x : Track) : trkE l i x = 0 ↔ isNm x.Name = true ∧ anyI (fun _ y => decide (y.Name = x.Name)) (l.take i) 0 = false ∧ serC x.Series = 0 ∧ 0 ≤ x.Long ∧ x.Long ≤ 1099511627776 := by
  unfold trkE
  cases isNm x.Name
  · simp
  · cases anyI (fun _ y => decide (y.Name = x.Name)) (l.take i) 0
    · by_cases hz : serC x.Series = 0
      · simp [hz]
      · simp [hz]
    · simp
theorem findO_one (e : Nat → Sample → Int) : ∀ (l : List Sample) (i : Nat) (r : Int × Int), findO (fun i x => if e i x = 0 then none else some (some ((i : Int), e i x))) (some (-1, 0)) l i = some r → (r.2 = 0 ↔ ∀ j x, l[j]? = some x → e (i + j) x = 0)
  | [], i, r, h => by cases h; simp
  | x :: l, i, r, h => by
    rw [findO] at h
    by_cases hz : e i x = 0
    · rw [if_pos hz] at h
      refine (findO_one e l (i + 1) r h).trans ?_
      constructor
      · intro q j y hy
        cases j with
        | zero => simp at hy; subst hy; simpa using hz
        | succ j => have := q j y (by simpa using hy); rwa [show i + (j + 1) = i + 1 + j by omega]
      · intro q j y hy; have := q (j + 1) y (by simpa using hy); rwa [show i + (j + 1) = i + 1 + j by omega] at this
    · rw [if_neg hz] at h
      have hr := Option.some.inj h
      subst hr
      constructor
      · intro q; exact absurd q hz
      · intro q; exact absurd (by simpa using q 0 x rfl) hz
theorem ser_iff (s : Series) : serC s = 0 ↔ (1 ≤ s.Den ∧ s.Den ≤ 1000000) ∧ s.Samples.length ≤ 20000 ∧ ∀ i x, s.Samples[i]? = some x → smpE s.Samples i x = 0 := by
  obtain ⟨r, hr⟩ := serE_some s
  have e : serC s = r.2 := by unfold serC; rw [hr]; rfl
  rw [e]
  unfold serE at hr
  split at hr
  · rename_i h
    cases hr
    simp only [Bool.not_eq_true', Bool.and_eq_false_iff, decide_eq_false_iff_not] at h
    constructor
    · intro h0; cases h0
    · rintro ⟨h1, _⟩; omega
  · rename_i h
    simp only [Bool.not_eq_true', Bool.and_eq_false_iff, decide_eq_false_iff_not] at h
    split at hr
    · rename_i h2
      simp only [decide_eq_true_eq] at h2
      cases hr
      constructor
      · intro h0; cases h0
      · rintro ⟨_, h1, _⟩; omega
    · rename_i h2
      simp only [decide_eq_true_eq] at h2
      have := findO_one (smpE s.Samples) s.Samples 0 r hr
      simp only [Nat.zero_add] at this
      rw [this]
      constructor
      · intro q; exact ⟨by omega, by omega, q⟩
      · intro q; exact q.2.2
/-- Names of a good list of tracks differ. -/
theorem names_ne {l : List Track} (h : trkC l = 0) {i j : Nat} {x y : Track} (hx : l[i]? = some x) (hy : l[j]? = some y) (hij : i < j) : x.Name ≠ y.Name := by
  have := ((trkE_iff l j y).1 (((trk_iff l).1 h).2 j y hy)).2.1
  intro e
  have t : anyI (fun _ z => decide (z.Name = y.Name)) (l.take j) 0 = true := (anyI_iff _ _ _).2 ⟨i, x, by rw [List.getElem?_take, if_pos hij]; exact hx, by simpa using e⟩
  rw [this] at t; cases t
theorem names_pw {l : List Track} (h : trkC l = 0) : l.Pairwise fun a b => a.Name ≠ b.Name := by
  rw [List.pairwise_iff_getElem]
  intro i j hi hj hij
  exact names_ne h (List.getElem?_eq_getElem hi) (List.getElem?_eq_getElem hj) hij
/-- The peak of a flight without fault. -/
def pkOf (f : Flight) (s : Str) : Int × Bool :=
  match f.Tracks.find? fun t => decide (t.Name = s) with
  | some t => t.Series.Samples.foldl (pk f) (0, false)
  | none => (0, false)
theorem peak_eq (f : Flight) (g : Good f) (h : okFlight f) (s : Str) : F_fleet_peak f s = some (pkOf f s) := by
  unfold F_fleet_peak pkOf
  rw [trackOf_eq f s h.2.2.2.2.2.1, bindO_s, letO_eq]
  cases e : f.Tracks.find? fun t => decide (t.Name = s) with
  | none => rfl
  | some t =>
    have hm := List.mem_of_find?_eq_some e
    have := (h.2.2.2.2.2.2 t hm).2.1.2.1
    simp only [Option.isNone_some, iteB_fa, bindO_s, letO_eq, peak_L1 f g t this]
def rst (f : Flight) (s : Str) (b : Int × Int × Bool) (t : Track) : Int × Int × Bool :=
  if decide (t.Name ≠ s) then b else ((t.Series.Samples.foldl (pk f) (b.1, b.2.2)).1, t.Series.Den, (t.Series.Samples.foldl (pk f) (b.1, b.2.2)).2)
theorem rst_none (f : Flight) (s : Str) : ∀ (l : List Track) (b : Int × Int × Bool), (∀ t ∈ l, t.Name ≠ s) → l.foldl (rst f s) b = b
  | [], b, _ => rfl
  | t :: l, b, h => by
    have := h t (by simp)
    rw [List.foldl_cons]
    have e : rst f s b t = b := by unfold rst; simp [this]
    rw [e]; exact rst_none f s l b fun u hu => h u (by simp [hu])
theorem rst_pk (f : Flight) (s : Str) : ∀ (l : List Track), l.Pairwise (fun a b => a.Name ≠ b.Name) → 
    ((l.foldl (rst f s) (0, 1, false)).1, (l.foldl (rst f s) (0, 1, false)).2.2) = match l.find? fun t => decide (t.Name = s) with
      | some t => t.Series.Samples.foldl (pk f) (0, false)
      | none => (0, false)
  | [], _ => rfl
  | t :: l, h => by
    rw [List.pairwise_cons] at h
    rw [List.foldl_cons, List.find?_cons]
    by_cases e : t.Name = s
    · rw [rst_none f s l _ (fun u hu q => h.1 u hu (by rw [e, q]))]
      simp [rst, e]
    · have e2 : rst f s (0, 1, false) t = (0, 1, false) := by unfold rst; simp [e]
      rw [e2, decide_eq_false e]
      exact rst_pk f s l h.2
theorem rpeak_eq (f : Flight) (g : Good f) (h : okFlight f) (s : Str) : ∃ d, F_ref9_peak f s = some ((pkOf f s).1, d, (pkOf f s).2) := by
  have hl := h.2.2.2.2.2.1
  have e : F_ref9_peak_L1 f s (0, 1, false, 0) = some (f.Tracks.foldl (rst f s) (0, 1, false)) := by
    unfold F_ref9_peak_L1
    refine loopO_fold (σ := Int × Int × Bool) (fun (i : Nat) b => (b.1, b.2.1, b.2.2, (i : Int))) f.Tracks (rst f s) (fun b => some b) hl ?_ ?_ (0, 1, false)
    · intro kk i b x hx hi
      have hs := (h.2.2.2.2.2.2 x (List.mem_of_getElem? hx)).2.1.2.1
      simp only [letO_eq]
      rw [lt_true hi, iteB_tr, at_ok hx, bindO_s, wrap1 hi hl]
      have := rpeak_L2 f g x hs (b.1, b.2.2)
      simp only at this
      rw [bindO_s, this]
      unfold rst
      cases decide (x.Name ≠ s) <;> rfl
    · intro kk b; simp only [letO_eq]; rw [lt_self]; rfl
  refine ⟨(f.Tracks.foldl (rst f s) (0, 1, false)).2.1, ?_⟩
  unfold F_ref9_peak
  rw [e, bindO_s]
  have := rst_pk f s f.Tracks (names_pw g.trk)
  have q : pkOf f s = ((f.Tracks.foldl (rst f s) (0, 1, false)).1, (f.Tracks.foldl (rst f s) (0, 1, false)).2.2) := this.symm
  rw [q]
/-- Peak. -/
def PkC (f : Flight) (s : Str) : Int × Bool × Int := if fltC f ≠ 0 then (0, false, fltC f) else if !isNm s then (0, false, 8) else ((pkOf f s).1, (pkOf f s).2, 0)
theorem Peak_eq (f : Flight) (h : okFlight f) (s : Str) (hs : okS s) : F_fleet_Peak f s = some (PkC f s) := by
  unfold F_fleet_Peak PkC
  rw [CheckFlight_eq f h]
  simp only [letO_eq, bindO_s, IsName_eq s hs, iteB_ite, decide_eq_true_eq]
  by_cases e : fltC f = 0
  · rw [peak_eq f (good_of e) h s]
    cases isNm s <;> simp [bindO, e]
  · rw [if_pos e, if_pos e]
theorem rPeak_eq (f : Flight) (h : okFlight f) (s : Str) (hs : okS s) : F_ref9_Peak f s = some (PkC f s) := by
  unfold F_ref9_Peak PkC
  rw [rCheckFlight_eq f h]
  simp only [letO_eq, bindO_s, rIsName_eq s hs, iteB_ite, decide_eq_true_eq]
  by_cases e : fltC f = 0
  · obtain ⟨d, hd⟩ := rpeak_eq f (good_of e) h s
    rw [hd]
    cases isNm s <;> simp [bindO, e]
  · rw [if_pos e, if_pos e]
end Go.Lf
