/- Tracks and flights: both programs tell them alike. -/
import Derived.Test.YtbjhondbheijiaaPn2
namespace Go.Lf
theorem idx_any {α : Type} (p : Nat → α → Bool) : ∀ (l : List α) (i : Nat), ∃ n, findO (fun i x => if p i x = true then some (some (i : Int)) else none) (some (-1)) l i = some n ∧ decide (0 ≤ n) = anyI p l i
  | [], i => ⟨-1, rfl, rfl⟩
  | x :: l, i => by
    rw [findO, anyI]
    cases h : p i x with
    | true => exact ⟨i, rfl, by simp⟩
    | false => simpa using idx_any p l (i + 1)
theorem contT_eq (l : List Track) (c : Track) (hl : l.length ≤ 9223372036854775807) : F_slices_ContainsFunc___api_Track_api_Track__event_CheckTracks_1 l c = some (anyI (fun _ y => decide (y.Name = c.Name)) l 0) := by
  obtain ⟨n, h1, h2⟩ := idx_any (fun (_ : Nat) (y : Track) => decide (y.Name = c.Name)) l 0
  have e : F_slices_IndexFunc___api_Track_api_Track__event_CheckTracks_1 l c = some n := by
    unfold F_slices_IndexFunc___api_Track_api_Track__event_CheckTracks_1
    simp only [letO_eq, joinO_eq]
    unfold F_slices_IndexFunc___api_Track_api_Track__event_CheckTracks_1_L1
    rw [← h1]
    refine loopO_find l _ _ hl ?_ ?_
    · intro kk i x hx hi
      unfold F_event_CheckTracks_1
      simp only [letO_eq, bindO_s]
      rw [lt_true hi, iteB_tr, at_ok hx, bindO_s, wrap1 hi hl]
      cases decide (x.Name = c.Name) <;> rfl
    · intro kk; simp only [letO_eq]; rw [lt_self]; rfl
  unfold F_slices_ContainsFunc___api_Track_api_Track__event_CheckTracks_1
  rw [e]
  simp only [letO_eq, bindO_s, h2]
/-- What is wrong with track i of a list. -/
def trkE (l : List Track) (i : Nat) (x : Track) : Int :=
  if !isNm x.Name then 8 else if anyI (fun _ y => decide (y.Name = x.Name)) (l.take i) 0 then 5
  else if serC x.Series ≠ 0 then serC x.Series else if !(decide (0 ≤ x.Long) && decide (x.Long ≤ 1099511627776)) then 9 else 0
def trkF (l : List Track) : Option Int := if decide (50 < (l.length : Int)) then some 3 else findO (fun i x => if trkE l i x = 0 then none else some (some (trkE l i x))) (some 0) l 0
theorem okTrack_of {l : List Track} (h : okL okTrack l) {i : Nat} {x : Track} (hx : l[i]? = some x) : okS x.Name ∧ x.Series.Samples.length ≤ 9223372036854775807 := by
  have := h.2 x (List.mem_of_getElem? hx)
  exact ⟨this.1, this.2.1.2.1⟩
theorem CheckTracks_eq (l : List Track) (h : okL okTrack l) : F_event_CheckTracks l = trkF l := by
  unfold F_event_CheckTracks trkF
  simp only [letO_eq, joinO_eq, iteB_ite]
  congr 1
  unfold F_event_CheckTracks_L1
  refine loopO_find l _ _ h.1 ?_ ?_
  · intro kk i x hx hi
    obtain ⟨o1, o2⟩ := okTrack_of h hx
    simp only [letO_eq]
    rw [lt_true hi, iteB_tr, at_ok hx, bindO_s, isName_eq _ o1, bindO_s, sub_nat l (by omega), wrap1 hi h.1]
    simp only [bindO_s, contT_eq (l.take i) x (by have := h.1; simp; omega), sCheck_eq _ o2, ewithin]
    unfold trkE
    cases isNm x.Name
    · rfl
    · cases anyI (fun _ y => decide (y.Name = x.Name)) (l.take i) 0
      · simp only [Bool.not_true, iteB_fa, Bool.false_eq_true, if_false, iteB_dec, iteB_ite]
        by_cases hz : serC x.Series = 0
        · cases (decide (0 ≤ x.Long) && decide (x.Long ≤ 1099511627776)) <;> simp [hz]
        · simp [hz]
      · rfl
  · intro kk; simp only [letO_eq]; rw [lt_self]; rfl
theorem rTracks_L2 (l : List Track) (hl : l.length ≤ 9223372036854775807) {i : Nat} {x : Track} (hx : l[i]? = some x) (k : Unit → Option Int) : F_ref6_CheckTracks_L2 l (i : Int) k 0 = if anyI (fun _ y => decide (y.Name = x.Name)) (l.take i) 0 = true then some 5 else k () := by
  have hi := (List.getElem?_eq_some_iff.1 hx).1
  have ht : (l.take i).length = i := by rw [List.length_take]; exact Nat.min_eq_left (Nat.le_of_lt hi)
  have hm : (l.take i).length ≤ 9223372036854775807 := by rw [ht]; exact Nat.le_trans (Nat.le_of_lt hi) hl
  have e := findO_any (fun _ y => decide (y.Name = x.Name)) (some 5) (k ()) (l.take i) 0
  rw [← e]
  unfold F_ref6_CheckTracks_L2
  refine loopO_find (l.take i) _ (k ()) hm ?_ ?_
  · intro kk j y hy hj
    rw [ht] at hj
    have hy' : l[j]? = some y := by rw [List.getElem?_take, if_pos hj] at hy; exact hy
    simp only [letO_eq]
    rw [lt_true hj, iteB_tr, at_ok hy', bindO_s, at_ok hx, bindO_s, wrap1 (n := l.length) (Nat.lt_trans hj hi) hl]
    cases decide (y.Name = x.Name)
    · rfl
    · rfl
  · intro kk
    rw [ht]
    simp only [letO_eq, lt_self, iteB_fa]
theorem rCheckTracks_eq (l : List Track) (h : okL okTrack l) : F_ref6_CheckTracks l = trkF l := by
  unfold F_ref6_CheckTracks trkF
  simp only [letO_eq, joinO_eq, iteB_ite]
  congr 1
  unfold F_ref6_CheckTracks_L1
  refine loopO_find l _ _ h.1 ?_ ?_
  · intro kk i x hx hi
    obtain ⟨o1, o2⟩ := okTrack_of h hx
    simp only [letO_eq, joinO_eq]
    rw [lt_true hi, iteB_tr, at_ok hx, bindO_s, rIsName_eq _ o1, bindO_s, rTracks_L2 l h.1 hx, wrap1 hi h.1]
    simp only [bindO_s, rCheck_eq _ o2, out6, not_out]
    unfold trkE
    cases isNm x.Name
    · rfl
    · cases anyI (fun _ y => decide (y.Name = x.Name)) (l.take i) 0
      · simp only [Bool.not_true, iteB_fa, Bool.false_eq_true, if_false, iteB_dec, iteB_ite]
        by_cases hz : serC x.Series = 0
        · cases (decide (0 ≤ x.Long) && decide (x.Long ≤ 1099511627776)) <;> simp [hz]
        · simp [hz]
      · rfl
  · intro kk; simp only [letO_eq]; rw [lt_self]; rfl
theorem trkF_some (l : List Track) : ∃ r, trkF l = some r := by
  unfold trkF
  split
  · exact ⟨_, rfl⟩
  · exact findO_some ⟨_, rfl⟩ (fun i x r h => ite_some h) _ _
end Go.Lf
