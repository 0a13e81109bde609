/- Flights and peaks: both programs tell them alike. -/
import Derived.Test.YtbjhondbheijiaaPn3
namespace Go.Lf
def trkC (l : List Track) : Int := (trkF l).getD 0
theorem trkF_eq (l : List Track) : trkF l = some (trkC l) := by obtain ⟨r, h⟩ := trkF_some l; unfold trkC; rw [h]; rfl
/-- The error of a flight. -/
def fltC (f : Flight) : Int :=
  if (decide (f.Tail ≠ []) && !isNm f.Tail) || !isNm f.Route then 8
  else if !(decide (0 ≤ f.Day) && decide (f.Day ≤ 1000000)) || decide (f.From < 0) || decide (f.To < f.From) || decide (4194304 ≤ f.To) then 9
  else if decide (20000 < IntKind.i64.wrap (IntKind.i64.wrap (f.To - f.From) + 1)) || decide (30 < (f.Tracks.length : Int)) then 3
  else trkC f.Tracks
theorem CheckFlight_eq (f : Flight) (h : okFlight f) : F_fleet_CheckFlight f = some (fltC f) := by
  unfold F_fleet_CheckFlight fltC
  simp only [letO_eq, IsName_eq _ h.1, IsName_eq _ h.2.1, fwithin, CheckTracks_eq _ h.2.2.2.2.2, trkF_eq, bindO_s, iteB_or2]
  cases decide (f.Tail ≠ []) <;> cases isNm f.Tail <;> cases isNm f.Route <;> simp only [iteB_tr, iteB_fa, bindO_s, Bool.not_true, Bool.not_false, Bool.and_true, Bool.and_false, Bool.or_true, Bool.or_false, if_true, Bool.false_eq_true, if_false, iteB_ite, Bool.or_assoc] <;> (repeat' split) <;> rfl
theorem rCheckFlight_eq (f : Flight) (h : okFlight f) : F_ref9_CheckFlight f = some (fltC f) := by
  have e : decide (4194303 < f.To) = decide (4194304 ≤ f.To) := decide_eq_decide.2 (by omega)
  unfold F_ref9_CheckFlight fltC
  simp only [letO_eq, rIsName_eq _ h.1, rIsName_eq _ h.2.1, out9, not_out, rCheckTracks_eq _ h.2.2.2.2.2, trkF_eq, bindO_s, iteB_or2, e]
  cases decide (f.Tail ≠ []) <;> cases isNm f.Tail <;> cases isNm f.Route <;> simp only [iteB_tr, iteB_fa, bindO_s, Bool.not_true, Bool.not_false, Bool.and_true, Bool.and_false, Bool.or_true, Bool.or_false, if_true, Bool.false_eq_true, if_false, iteB_ite, Bool.or_assoc] <;> (repeat' split) <;> rfl
/-- What holds of a flight without fault. -/
structure Good (f : Flight) : Prop where
  tail : f.Tail = [] ∨ isNm f.Tail = true
  route : isNm f.Route = true
  day : 0 ≤ f.Day ∧ f.Day ≤ 1000000
  frm : 0 ≤ f.From ∧ f.From ≤ f.To ∧ f.To < 4194304
  span : f.To - f.From + 1 ≤ 20000
  many : f.Tracks.length ≤ 30
  trk : trkC f.Tracks = 0
theorem good_of {f : Flight} (h : fltC f = 0) : Good f := by
  unfold fltC at h
  split at h
  · cases h
  · split at h
    · cases h
    · split at h
      · cases h
      · rename_i h1 h2 h3
        simp only [Bool.or_eq_true, Bool.and_eq_true, Bool.not_eq_true', decide_eq_true_eq, not_or, not_and, Bool.not_eq_false, Bool.and_eq_false_iff, decide_eq_false_iff_not] at h1 h2 h3
        obtain ⟨⟨⟨h4, h5⟩, h6⟩, h7⟩ := h2
        have h5 : 0 ≤ f.From := by omega
        have w1 : IntKind.i64.wrap (f.To - f.From) = f.To - f.From := Go.OB.wrap_i64 (by omega) (by omega)
        rw [w1, Go.OB.wrap_i64 (by omega) (by omega)] at h3
        refine ⟨?_, h1.2, ⟨by omega, by omega⟩, ⟨by omega, by omega, by omega⟩, by omega, by omega, h⟩
        by_cases ht : f.Tail = []
        · exact .inl ht
        · exact .inr (h1.1 ht)
theorem good_iff {f : Flight} (g : Good f) : fltC f = 0 := by
  unfold fltC
  have w1 : IntKind.i64.wrap (f.To - f.From) = f.To - f.From := by have := g.frm; exact Go.OB.wrap_i64 (by omega) (by omega)
  have w2 : IntKind.i64.wrap (f.To - f.From + 1) = f.To - f.From + 1 := by have := g.frm; exact Go.OB.wrap_i64 (by omega) (by omega)
  have g1 := g.day; have g2 := g.frm; have g3 := g.span; have g4 := g.many
  rw [w1, w2]
  rw [if_neg, if_neg, if_neg]
  · exact g.trk
  · simp only [Bool.or_eq_true, decide_eq_true_eq, not_or]; omega
  · simp only [Bool.or_eq_true, Bool.not_eq_true', Bool.and_eq_false_iff, decide_eq_false_iff_not, decide_eq_true_eq, not_or]; omega
  · rcases g.tail with h | h
    · simp [h, g.route]
    · simp [h, g.route]
/-! ### Tracks of a flight -/
theorem trackOf_eq (f : Flight) (s : Str) (hl : f.Tracks.length ≤ 9223372036854775807) : F_fleet_trackOf f s = some (f.Tracks.find? fun t => decide (t.Name = s)) := by
  unfold F_fleet_trackOf
  simp only [letO_eq, joinO_eq]
  unfold F_fleet_trackOf_L1
  have key : ∀ (l : List Track) (i : Nat), findO (fun _ t => if decide (t.Name = s) = true then some (some (some t)) else none) (some none) l i = some (l.find? fun t => decide (t.Name = s)) := by
    intro l
    induction l with
    | nil => intro i; rfl
    | cons t l ih =>
      intro i
      rw [findO, List.find?_cons]
      cases h : decide (t.Name = s)
      · simpa using ih (i + 1)
      · simp
  rw [← key f.Tracks 0]
  refine loopO_find f.Tracks _ _ hl ?_ ?_
  · intro kk i x hx hi
    simp only [letO_eq]
    rw [lt_true hi, iteB_tr, at_ok hx, bindO_s, wrap1 hi hl]
    cases decide (x.Name = s)
    · rfl
    · simp only [iteB_tr, at_ok hx, bindO_s, if_true]
  · intro kk; simp only [letO_eq]; rw [lt_self]; rfl
/-- One sample of a peak. -/
def pk (f : Flight) (b : Int × Bool) (x : Sample) : Int × Bool :=
  if decide (x.Mark < 3) || !(decide (64 * f.From ≤ x.At) && decide (x.At ≤ 64 * f.To + 63)) then b else if !b.2 || decide (b.1 < x.N) then (x.N, true) else b
theorem wr64 {f : Flight} (g : Good f) : IntKind.i64.wrap (64 * f.From) = 64 * f.From ∧ IntKind.i64.wrap (64 * f.To) = 64 * f.To ∧ IntKind.i64.wrap (64 * f.To + 64) = 64 * f.To + 64 ∧ IntKind.i64.wrap (64 * f.To + 64 - 1) = 64 * f.To + 63 := by
  have := g.frm
  refine ⟨Go.OB.wrap_i64 (by omega) (by omega), Go.OB.wrap_i64 (by omega) (by omega), Go.OB.wrap_i64 (by omega) (by omega), ?_⟩
  rw [Go.OB.wrap_i64 (by omega) (by omega)]; omega
theorem peak_L1 (f : Flight) (g : Good f) (t : Track) (hl : t.Series.Samples.length ≤ 9223372036854775807) : F_fleet_peak_L1 f t (t.Series.Samples.length : Int) (0, false, 0) = some (t.Series.Samples.foldl (pk f) (0, false)) := by
  obtain ⟨w1, w2, w3, w4⟩ := wr64 g
  unfold F_fleet_peak_L1
  refine loopO_fold (σ := Int × Bool) (fun (i : Nat) b => (b.1, b.2, (i : Int))) t.Series.Samples (pk f) (fun b => some b) hl ?_ ?_ (0, false)
  · intro kk i b x hx hi
    simp only [letO_eq]
    rw [lt_true hi, iteB_tr, at_ok hx, bindO_s, w1, w2, w3, w4, wrap1 hi hl]
    simp only [fwithin, bindO_s, iteB_or2]
    unfold pk
    cases (decide (x.Mark < 3) || !(decide (64 * f.From ≤ x.At) && decide (x.At ≤ 64 * f.To + 63)))
    · cases (!b.2 || decide (b.1 < x.N)) <;> rfl
    · rfl
  · intro kk b; simp only [letO_eq]; rw [lt_self]; rfl
theorem rpeak_L2 (f : Flight) (g : Good f) (t : Track) (hl : t.Series.Samples.length ≤ 9223372036854775807) (b0 : Int × Bool) : F_ref9_peak_L2 f t (b0.1, b0.2, 0) = some ((t.Series.Samples.foldl (pk f) b0).1, t.Series.Den, (t.Series.Samples.foldl (pk f) b0).2) := by
  obtain ⟨w1, w2, w3, w4⟩ := wr64 g
  unfold F_ref9_peak_L2
  refine loopO_fold (σ := Int × Bool) (fun (i : Nat) b => (b.1, b.2, (i : Int))) t.Series.Samples (pk f) (fun b => some (b.1, t.Series.Den, b.2)) hl ?_ ?_ b0
  · intro kk i b x hx hi
    simp only [letO_eq]
    rw [lt_true hi, iteB_tr, at_ok hx, bindO_s, w1, w2, w3, w4, wrap1 hi hl]
    simp only [bindO_s, iteB_or2]
    unfold pk
    rw [← not_out]
    cases (decide (x.Mark < 3) || (decide (x.At < 64 * f.From) || decide (64 * f.To + 63 < x.At)))
    · cases (!b.2 || decide (b.1 < x.N)) <;> rfl
    · rfl
  · intro kk b; simp only [letO_eq]; rw [lt_self]; rfl
end Go.Lf
