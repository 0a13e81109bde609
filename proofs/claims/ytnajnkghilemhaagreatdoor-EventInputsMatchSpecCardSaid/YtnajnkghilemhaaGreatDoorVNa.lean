/- Walks: what each function computes, for every argument; no condition but those that stand in the statements. -/
import Derived.Test.YtnajnkghilemhaaGreatDoorVOk
import Derived.Test.YtnajnkghilemhaaGreatDoorPl
namespace Go.Lf
def kws : List Str := [[112, 104, 97, 115, 101], [109, 111, 118, 101], [114, 117, 108, 101], [105, 102], [111, 114], [97, 110, 100], [116, 114, 117, 101], [102, 97, 108, 115, 101], [115, 116, 101, 97, 100, 121], [110, 111, 116], [102, 111, 114], [119, 105, 116, 104, 105, 110], [99, 111, 117, 110, 116], [111, 102], [114, 105, 115, 101, 115], [115, 105, 110, 99, 101]]
theorem ewithin (a b c : Int) : F_event_within a b c = some (decide (b ≤ a) && decide (a ≤ c)) := by
  unfold F_event_within; simp only [xB, iteB_and, yR]
theorem swithin (a b c : Int) : F_series_within a b c = some (decide (b ≤ a) && decide (a ≤ c)) := by
  unfold F_series_within; simp only [xB, iteB_and, yR]
theorem out5 (a b c : Int) : F_ref5_outside a b c = some (decide (a < b) || decide (c < a)) := by
  unfold F_ref5_outside; simp only [xB, iteB_or2, yR]
theorem out6 (a b c : Int) : F_ref6_outside a b c = some (decide (a < b) || decide (c < a)) := by
  unfold F_ref6_outside; simp only [xB, iteB_or2, yR]
def isW (s : Str) : Bool := decide (s ∈ kws)
theorem isWord_eq (s : Str) : F_event_isWord s = some (isW s) := by
  unfold F_event_isWord isW kws
  simp only [xB, iteB_or, yR, iteB_id, List.mem_cons, List.not_mem_nil, or_false, Bool.decide_or]
def nmB (c : Int) : Bool := (decide (97 ≤ c) && decide (c ≤ 122)) || (decide (48 ≤ c) && decide (c ≤ 57)) || decide (c = 45)
theorem nameByte_eq (c : Int) : F_event_nameByte c = some (nmB c) := by
  unfold F_event_nameByte nmB
  simp only [xB, yR]
  cases decide (97 ≤ c) <;> cases decide (c ≤ 122) <;> cases decide (48 ≤ c) <;> cases decide (c ≤ 57) <;> cases decide (c = 45) <;> rfl
def badB : Nat → UInt8 → Bool := fun _ c => !nmB (c.toNat : Int)
theorem isName_L1 (s : Str) (hs : okS s) (k : Unit → Option Bool) : F_event_isName_L1 s k (s.length : Int) 0 = if anyI badB s 0 = true then some false else k () := by
  unfold F_event_isName_L1
  rw [loopO_find s (fun i c => if badB i c = true then some (some false) else none) (k ()) hs]
  · exact findO_any badB (some false) (k ()) s 0
  · intro kk i c hc hi
    unfold badB
    simp only [xB]
    rw [lt_true hi, iteB_tr, byte_nat hc, yR, nameByte_eq, yR]
    cases nmB (c.toNat : Int)
    · rfl
    · simp only [Bool.not_true, iteB_fa]; rw [wrap1 hi hs]; rfl
  · intro kk; simp only [xB]; rw [lt_self]; rfl
def firstOk (s : Str) : Bool := match s with
  | [] => false
  | c :: _ => decide (97 ≤ (c.toNat : Int)) && decide ((c.toNat : Int) ≤ 122)
/-- A name. -/
def isNm (s : Str) : Bool := decide (s.length ≤ 30) && firstOk s && !isW s && !anyI badB s 0
theorem isName_eq (s : Str) (hs : okS s) : F_event_isName s = some (isNm s) := by
  unfold F_event_isName isNm
  simp only [xB, yR, ewithin, joinO_eq, isName_L1 s hs, isWord_eq]
  cases s with
  | nil => rfl
  | cons c l =>
    have h0 : byte' (c :: l) 0 = some (c.toNat : Int) := byte_nat (i := 0) rfl
    have h1 : decide ((1 : Int) ≤ ((c :: l).length : Int)) = true := decide_eq_true (by simp; omega)
    have h2 : decide (((c :: l).length : Int) ≤ 30) = decide ((c :: l).length ≤ 30) := decide_eq_decide.2 (by omega)
    have h3 : decide ((c.toNat : Int) < 97) = !decide (97 ≤ (c.toNat : Int)) := by rw [← decide_not]; exact decide_eq_decide.2 (by omega)
    have h4 : decide (122 < (c.toNat : Int)) = !decide ((c.toNat : Int) ≤ 122) := by rw [← decide_not]; exact decide_eq_decide.2 (by omega)
    rw [h0, h1, h2]
    simp only [yR, Bool.true_and, h3, h4, firstOk]
    cases decide ((c :: l).length ≤ 30) <;> cases decide (97 ≤ (c.toNat : Int)) <;> cases decide ((c.toNat : Int) ≤ 122) <;> cases isW (c :: l) <;> cases anyI badB (c :: l) 0 <;> rfl
end Go.Lf
namespace Go.Lf
theorem reserved_eq (s : Str) : F_ref6_Reserved s = some (isW s) := by
  unfold F_ref6_Reserved F_ref6_words
  simp only [xB, yR, joinO_eq]
  change F_ref6_Reserved_L1 s kws (fun _ => some false) 0 = _
  unfold F_ref6_Reserved_L1
  rw [loopO_find kws (fun _ x => if decide (x = s) = true then some (some true) else none) (some false) (by decide)]
  · rw [findO_any (fun _ x => decide (x = s))]
    have e : anyI (fun _ x => decide (x = s)) kws 0 = isW s := by
      rw [Bool.eq_iff_iff, anyI_iff]
      unfold isW
      simp only [decide_eq_true_eq]
      constructor
      · rintro ⟨j, x, h, rfl⟩; exact List.mem_of_getElem? h
      · intro h; obtain ⟨j, hj⟩ := List.getElem?_of_mem h; exact ⟨j, s, hj, rfl⟩
    rw [e]; cases isW s <;> rfl
  · intro kk i c hc hi
    simp only [xB]
    rw [lt_true hi, iteB_tr, at_ok hc, yR]
    cases decide (c = s)
    · simp only [iteB_fa]; rw [wrap1 hi (by decide)]; rfl
    · rfl
  · intro kk; simp only [xB]; rw [lt_self]; rfl
def badR : Nat → UInt8 → Bool := fun i c => !((decide (97 ≤ (c.toNat : Int)) && decide ((c.toNat : Int) ≤ 122)) || (decide (0 < (i : Int)) && ((decide (48 ≤ (c.toNat : Int)) && decide ((c.toNat : Int) ≤ 57)) || decide ((c.toNat : Int) = 45))))
theorem rIsName_L1 (s : Str) (hs : okS s) (k : Unit → Option Bool) : F_ref6_IsName_L1 s k 0 = if anyI badR s 0 = true then some false else k () := by
  unfold F_ref6_IsName_L1
  rw [loopO_find s (fun i c => if badR i c = true then some (some false) else none) (k ()) hs]
  · exact findO_any badR (some false) (k ()) s 0
  · intro kk i c hc hi
    unfold badR
    simp only [xB]
    rw [lt_true hi, iteB_tr, byte_nat hc, yR]
    rw [wrap1 hi hs]
    cases decide (97 ≤ (c.toNat : Int)) <;> cases decide ((c.toNat : Int) ≤ 122) <;> cases decide (0 < (i : Int)) <;> cases decide (48 ≤ (c.toNat : Int)) <;> cases decide ((c.toNat : Int) ≤ 57) <;> cases decide ((c.toNat : Int) = 45) <;> rfl
  · intro kk; simp only [xB]; rw [lt_self]; rfl
theorem rIsName_eq (s : Str) (hs : okS s) : F_ref6_IsName s = some (isNm s) := by
  unfold F_ref6_IsName isNm
  simp only [xB, yR, joinO_eq, rIsName_L1 s hs, reserved_eq]
  cases s with
  | nil => rfl
  | cons c l =>
    have h2 : decide (((c :: l).length : Int) ≤ 30) = decide ((c :: l).length ≤ 30) := decide_eq_decide.2 (by omega)
    have h5 : decide ((c :: l) ≠ []) = true := by simp
    have e : anyI badR l (0 + 1) = anyI badB l (0 + 1) := anyI_congr l (0 + 1) fun j x _ => by
      have : decide (0 < ((0 + 1 + j : Nat) : Int)) = true := decide_eq_true (by omega)
      unfold badR badB nmB
      rw [this]
      simp only [Bool.true_and, Bool.or_assoc]
    rw [anyI, anyI, e, h2, h5]
    have e2 : badR 0 c = !(decide (97 ≤ (c.toNat : Int)) && decide ((c.toNat : Int) ≤ 122)) := by unfold badR; simp
    have e3 : badB 0 c = !(firstOk (c :: l) || (decide (48 ≤ (c.toNat : Int)) && decide ((c.toNat : Int) ≤ 57)) || decide ((c.toNat : Int) = 45)) := rfl
    have e4 : badR 0 c = !firstOk (c :: l) := e2
    rw [e3, e4]
    cases firstOk (c :: l) <;> cases anyI badB l (0 + 1) <;> cases decide ((c :: l).length ≤ 30) <;> cases isW (c :: l) <;> simp [iteB, bindO]
/-! ### Series -/
/-- What is wrong with sample i of a list. -/
def smpE (l : List Sample) (i : Nat) (x : Sample) : Int :=
  if !(decide (0 ≤ x.At) && decide (x.At ≤ 1099511627776)) || !(decide (-1125899906842624 ≤ x.N) && decide (x.N ≤ 1125899906842624)) || !(decide (0 ≤ x.Mark) && decide (x.Mark ≤ 4)) then 9
  else if decide (x.N ≠ 0) && decide (x.Mark ≤ 1) then 2
  else match i with
    | 0 => 0
    | j + 1 => match l[j]? with
      | some y => if decide (x.At ≤ y.At) then 10 else 0
      | none => 0
def serF (l : List Sample) (fin : Option (Int × Int)) : Option (Int × Int) := findO (fun i x => if smpE l i x = 0 then none else some (some ((i : Int), smpE l i x))) fin l 0
theorem prev_get {l : List Sample} {i : Nat} (hi : i < l.length) (hl : l.length ≤ 9223372036854775807) (h0 : 0 < i) : ∃ y, l[i - 1]? = some y ∧ at' l (IntKind.i64.wrap ((i : Int) - 1)) = some y := by
  have h1 : i - 1 < l.length := by omega
  refine ⟨l[i - 1], List.getElem?_eq_getElem h1, ?_⟩
  rw [Go.OB.wrap_i64 (by omega) (by omega), show (i : Int) - 1 = ((i - 1 : Nat) : Int) by omega]
  exact at_ok (List.getElem?_eq_getElem h1)
theorem check_L1 (s : Series) (hs : s.Samples.length ≤ 9223372036854775807) (k : Unit → Option (Int × Int)) : F_series_check_L1 s k (s.Samples.length : Int) 0 = serF s.Samples (k ()) := by
  unfold F_series_check_L1 serF
  refine loopO_find s.Samples _ (k ()) hs ?_ ?_
  · intro kk i x hx hi
    simp only [xB, swithin, yR]
    rw [lt_true hi, iteB_tr, at_ok hx, yR, wrap1 hi hs]
    unfold smpE
    cases decide (0 ≤ x.At) <;> cases decide (x.At ≤ 1099511627776) <;> simp only [Bool.and_true, Bool.and_false, Bool.true_and, Bool.false_and, Bool.not_true, Bool.not_false, Bool.true_or, Bool.false_or, iteB_tr, iteB_fa, yR, if_true, Bool.false_eq_true, if_false] <;> try rfl
    cases decide (-1125899906842624 ≤ x.N) <;> cases decide (x.N ≤ 1125899906842624) <;> simp only [Bool.and_true, Bool.and_false, Bool.true_and, Bool.false_and, Bool.not_true, Bool.not_false, Bool.true_or, Bool.false_or, iteB_tr, iteB_fa, yR, if_true, Bool.false_eq_true, if_false] <;> try rfl
    cases decide (0 ≤ x.Mark) <;> cases decide (x.Mark ≤ 4) <;> simp only [Bool.and_true, Bool.and_false, Bool.true_and, Bool.false_and, Bool.not_true, Bool.not_false, Bool.true_or, Bool.false_or, iteB_tr, iteB_fa, yR, if_true, Bool.false_eq_true, if_false] <;> try rfl
    cases decide (x.N ≠ 0) <;> cases decide (x.Mark ≤ 1) <;> simp only [Bool.and_true, Bool.and_false, Bool.true_and, Bool.false_and, Bool.not_true, Bool.not_false, Bool.true_or, Bool.false_or, iteB_tr, iteB_fa, yR, if_true, Bool.false_eq_true, if_false] <;> try rfl
    all_goals
      cases i with
      | zero => rfl
      | succ j =>
        obtain ⟨y, h1, h2⟩ := prev_get hi hs (by omega)
        have h3 : decide (0 < ((j + 1 : Nat) : Int)) = true := decide_eq_true (by omega)
        rw [h2, h3]
        simp only [Nat.add_sub_cancel] at h1
        simp only [iteB_tr, yR, h1]
        cases decide (x.At ≤ y.At) <;> rfl
  · intro kk; simp only [xB]; rw [lt_self]; rfl
theorem not_out (a b c : Int) : (decide (a < b) || decide (c < a)) = !(decide (b ≤ a) && decide (a ≤ c)) := by
  by_cases h1 : b ≤ a <;> by_cases h2 : a ≤ c <;> simp [h1, h2] <;> omega
theorem sampleFault_eq (x : Sample) : F_ref5_sampleFault x = some (if !(decide (0 ≤ x.At) && decide (x.At ≤ 1099511627776)) || !(decide (-1125899906842624 ≤ x.N) && decide (x.N ≤ 1125899906842624)) || !(decide (0 ≤ x.Mark) && decide (x.Mark ≤ 4)) then 9
    else if decide (x.N ≠ 0) && decide (x.Mark ≤ 1) then 2 else 0) := by
  unfold F_ref5_sampleFault F_ref5_numbered
  simp only [xB, yR, out5, not_out, iteB_or2, iteB_and]
  have h : (!decide (2 ≤ x.Mark)) = decide (x.Mark ≤ 1) := by rw [← decide_not]; exact decide_eq_decide.2 (by omega)
  rw [h]
  cases (!(decide (0 ≤ x.At) && decide (x.At ≤ 1099511627776))) <;> cases (!(decide (-1125899906842624 ≤ x.N) && decide (x.N ≤ 1125899906842624))) <;> cases (!(decide (0 ≤ x.Mark) && decide (x.Mark ≤ 4))) <;> cases decide (x.N ≠ 0) <;> cases decide (x.Mark ≤ 1) <;> rfl
theorem fault_L1 (s : Series) (hs : s.Samples.length ≤ 9223372036854775807) (k : Unit → Option (Int × Int)) : F_ref5_fault_L1 s k 0 = serF s.Samples (k ()) := by
  unfold F_ref5_fault_L1 serF
  refine loopO_find s.Samples _ (k ()) hs ?_ ?_
  · intro kk i x hx hi
    simp only [xB, sampleFault_eq, yR]
    rw [lt_true hi, iteB_tr, at_ok hx, yR, wrap1 hi hs]
    unfold smpE
    cases (!(decide (0 ≤ x.At) && decide (x.At ≤ 1099511627776)) || !(decide (-1125899906842624 ≤ x.N) && decide (x.N ≤ 1125899906842624)) || !(decide (0 ≤ x.Mark) && decide (x.Mark ≤ 4)))
    · cases (decide (x.N ≠ 0) && decide (x.Mark ≤ 1))
      · cases i with
        | zero => rfl
        | succ j =>
          obtain ⟨y, h1, h2⟩ := prev_get hi hs (by omega)
          have h3 : decide (0 < ((j + 1 : Nat) : Int)) = true := decide_eq_true (by omega)
          rw [h2, h3]
          simp only [Nat.add_sub_cancel] at h1
          simp only [iteB_tr, yR, h1, Bool.false_eq_true, if_false]
          cases decide (x.At ≤ y.At) <;> rfl
      · rfl
    · rfl
  · intro kk; simp only [xB]; rw [lt_self]; rfl
/-- The error of a series. -/
def serE (s : Series) : Option (Int × Int) := if !(decide (1 ≤ s.Den) && decide (s.Den ≤ 1000000)) then some (-1, 9) else if decide (20000 < (s.Samples.length : Int)) then some (-1, 3) else serF s.Samples (some (-1, 0))
theorem check_eq (s : Series) (hs : s.Samples.length ≤ 9223372036854775807) : F_series_check s = serE s := by
  unfold F_series_check serE
  simp only [xB, yR, swithin, joinO_eq, check_L1 s hs, iteB_ite]
theorem fault_eq (s : Series) (hs : s.Samples.length ≤ 9223372036854775807) : F_ref5_fault s = serE s := by
  unfold F_ref5_fault serE
  simp only [xB, yR, out5, not_out, joinO_eq, fault_L1 s hs, iteB_ite]
theorem findO_some {α β : Type} {q : Nat → α → Option (Option β)} {fin : Option β} (hf : ∃ r, fin = some r) (hq : ∀ i x r, q i x = some r → ∃ y, r = some y) : ∀ (l : List α) (i : Nat), ∃ r, findO q fin l i = some r
  | [], i => hf
  | x :: l, i => by
    rw [findO]
    cases h : q i x with
    | none => exact findO_some hf hq l (i + 1)
    | some r => exact hq i x r h
theorem ite_some {β : Type} {p : Prop} [Decidable p] {y : β} {r : Option β} (h : (if p then none else some (some y)) = some r) : ∃ z, r = some z := by
  split at h
  · cases h
  · cases h; exact ⟨_, rfl⟩
theorem serE_some (s : Series) : ∃ r, serE s = some r := by
  unfold serE serF
  split
  · exact ⟨_, rfl⟩
  · split
    · exact ⟨_, rfl⟩
    · exact findO_some ⟨_, rfl⟩ (fun i x r h => ite_some h) _ _
def serC (s : Series) : Int := ((serE s).getD (0, 0)).2
theorem sCheck_eq (s : Series) (hs : s.Samples.length ≤ 9223372036854775807) : F_series_Check s = some (serC s) := by
  obtain ⟨r, hr⟩ := serE_some s
  unfold F_series_Check serC; rw [check_eq s hs, hr]; rfl
theorem rCheck_eq (s : Series) (hs : s.Samples.length ≤ 9223372036854775807) : F_ref5_Check s = some (serC s) := by
  obtain ⟨r, hr⟩ := serE_some s
  unfold F_ref5_Check serC; rw [fault_eq s hs, hr]; rfl
end Go.Lf
namespace Go.Lf
theorem idx_any {α : Type} (p : Nat → α → Bool) : ∀ (l : List α) (i : Nat), ∃ n, findO (fun i x => if p i x = true then some (some (i : Int)) else none) (some (-1)) l i = some n ∧ decide (0 ≤ n) = anyI p l i
  | [], i => ⟨-1, rfl, rfl⟩
  | x :: l, i => by
    rw [findO, anyI]
    cases h : p i x with
    | true => exact ⟨i, rfl, by simp⟩
    | false => simpa using idx_any p l (i + 1)
theorem contT_eq (l : List Track) (c : Track) (hl : l.length ≤ 9223372036854775807) : F_slices_ContainsFunc___api_Track_api_Track__event_CheckTracks_1 l c = some (anyI (fun _ y => decide (y.Name = c.Name)) l 0) := by
  obtain ⟨n, h1, h2⟩ := idx_any (fun (_ : Nat) (y : Track) => decide (y.Name = c.Name)) l 0
  have e : F_slices_IndexFunc___api_Track_api_Track__event_CheckTracks_1 l c = some n := by
    unfold F_slices_IndexFunc___api_Track_api_Track__event_CheckTracks_1
    simp only [xB, joinO_eq]
    unfold F_slices_IndexFunc___api_Track_api_Track__event_CheckTracks_1_L1
    rw [← h1]
    refine loopO_find l _ _ hl ?_ ?_
    · intro kk i x hx hi
      unfold F_event_CheckTracks_1
      simp only [xB, yR]
      rw [lt_true hi, iteB_tr, at_ok hx, yR, wrap1 hi hl]
      cases decide (x.Name = c.Name) <;> rfl
    · intro kk; simp only [xB]; rw [lt_self]; rfl
  unfold F_slices_ContainsFunc___api_Track_api_Track__event_CheckTracks_1
  rw [e]
  simp only [xB, yR, h2]
/-- What is wrong with track i of a list. -/
def trkE (l : List Track) (i : Nat) (x : Track) : Int :=
  if !isNm x.Name then 8 else if anyI (fun _ y => decide (y.Name = x.Name)) (l.take i) 0 then 5
  else if serC x.Series ≠ 0 then serC x.Series else if !(decide (0 ≤ x.Long) && decide (x.Long ≤ 1099511627776)) then 9 else 0
def trkF (l : List Track) : Option Int := if decide (50 < (l.length : Int)) then some 3 else findO (fun i x => if trkE l i x = 0 then none else some (some (trkE l i x))) (some 0) l 0
theorem okTrack_of {l : List Track} (h : okL okTrack l) {i : Nat} {x : Track} (hx : l[i]? = some x) : okS x.Name ∧ x.Series.Samples.length ≤ 9223372036854775807 := by
  have := h.2 x (List.mem_of_getElem? hx)
  exact ⟨this.1, this.2.1.2.1⟩
theorem CheckTracks_eq (l : List Track) (h : okL okTrack l) : F_event_CheckTracks l = trkF l := by
  unfold F_event_CheckTracks trkF
  simp only [xB, joinO_eq, iteB_ite]
  congr 1
  unfold F_event_CheckTracks_L1
  refine loopO_find l _ _ h.1 ?_ ?_
  · intro kk i x hx hi
    obtain ⟨o1, o2⟩ := okTrack_of h hx
    simp only [xB]
    rw [lt_true hi, iteB_tr, at_ok hx, yR, isName_eq _ o1, yR, sub_nat l (by omega), wrap1 hi h.1]
    simp only [yR, contT_eq (l.take i) x (by have := h.1; simp; omega), sCheck_eq _ o2, ewithin]
    unfold trkE
    cases isNm x.Name
    · rfl
    · cases anyI (fun _ y => decide (y.Name = x.Name)) (l.take i) 0
      · simp only [Bool.not_true, iteB_fa, Bool.false_eq_true, if_false, iteB_dec, iteB_ite]
        by_cases hz : serC x.Series = 0
        · cases (decide (0 ≤ x.Long) && decide (x.Long ≤ 1099511627776)) <;> simp [hz]
        · simp [hz]
      · rfl
  · intro kk; simp only [xB]; rw [lt_self]; rfl
theorem rTracks_L2 (l : List Track) (hl : l.length ≤ 9223372036854775807) {i : Nat} {x : Track} (hx : l[i]? = some x) (k : Unit → Option Int) : F_ref6_CheckTracks_L2 l (i : Int) k 0 = if anyI (fun _ y => decide (y.Name = x.Name)) (l.take i) 0 = true then some 5 else k () := by
  have hi := (List.getElem?_eq_some_iff.1 hx).1
  have ht : (l.take i).length = i := by rw [List.length_take]; exact Nat.min_eq_left (Nat.le_of_lt hi)
  have hm : (l.take i).length ≤ 9223372036854775807 := by rw [ht]; exact Nat.le_trans (Nat.le_of_lt hi) hl
  have e := findO_any (fun _ y => decide (y.Name = x.Name)) (some 5) (k ()) (l.take i) 0
  rw [← e]
  unfold F_ref6_CheckTracks_L2
  refine loopO_find (l.take i) _ (k ()) hm ?_ ?_
  · intro kk j y hy hj
    rw [ht] at hj
    have hy' : l[j]? = some y := by rw [List.getElem?_take, if_pos hj] at hy; exact hy
    simp only [xB]
    rw [lt_true hj, iteB_tr, at_ok hy', yR, at_ok hx, yR, wrap1 (n := l.length) (Nat.lt_trans hj hi) hl]
    cases decide (y.Name = x.Name)
    · rfl
    · rfl
  · intro kk
    rw [ht]
    simp only [xB, lt_self, iteB_fa]
theorem rCheckTracks_eq (l : List Track) (h : okL okTrack l) : F_ref6_CheckTracks l = trkF l := by
  unfold F_ref6_CheckTracks trkF
  simp only [xB, joinO_eq, iteB_ite]
  congr 1
  unfold F_ref6_CheckTracks_L1
  refine loopO_find l _ _ h.1 ?_ ?_
  · intro kk i x hx hi
    obtain ⟨o1, o2⟩ := okTrack_of h hx
    simp only [xB, joinO_eq]
    rw [lt_true hi, iteB_tr, at_ok hx, yR, rIsName_eq _ o1, yR, rTracks_L2 l h.1 hx, wrap1 hi h.1]
    simp only [yR, rCheck_eq _ o2, out6, not_out]
    unfold trkE
    cases isNm x.Name
    · rfl
    · cases anyI (fun _ y => decide (y.Name = x.Name)) (l.take i) 0
      · simp only [Bool.not_true, iteB_fa, Bool.false_eq_true, if_false, iteB_dec, iteB_ite]
        by_cases hz : serC x.Series = 0
        · cases (decide (0 ≤ x.Long) && decide (x.Long ≤ 1099511627776)) <;> simp [hz]
        · simp [hz]
      · rfl
  · intro kk; simp only [xB]; rw [lt_self]; rfl
theorem trkF_some (l : List Track) : ∃ r, trkF l = some r := by
  unfold trkF
  split
  · exact ⟨_, rfl⟩
  · exact findO_some ⟨_, rfl⟩ (fun i x r h => ite_some h) _ _
end Go.Lf
namespace Go.Lf
def trkC (l : List Track) : Int := (trkF l).getD 0
theorem trkF_eq (l : List Track) : trkF l = some (trkC l) := by obtain ⟨r, h⟩ := trkF_some l; unfold trkC; rw [h]; rfl
end Go.Lf
namespace Go.Lf
theorem findO_zero {α : Type} (e : Nat → α → Int) : ∀ (l : List α) (i : Nat), findO (fun i x => if e i x = 0 then none else some (some (e i x))) (some 0) l i = some 0 ↔ ∀ j x, l[j]? = some x → e (i + j) x = 0
  | [], i => by simp [findO]
  | x :: l, i => by
    rw [findO]
    by_cases h : e i x = 0
    · rw [if_pos h]
      refine (findO_zero e l (i + 1)).trans ?_
      constructor
      · intro q j y hy
        cases j with
        | zero => simp at hy; subst hy; simpa using h
        | succ j => have := q j y (by simpa using hy); rwa [show i + (j + 1) = i + 1 + j by omega]
      · intro q j y hy; have := q (j + 1) y (by simpa using hy); rwa [show i + (j + 1) = i + 1 + j by omega] at this
    · rw [if_neg h]
      constructor
      · intro q; exact absurd (Option.some.inj q) h
      · intro q; exact absurd (by simpa using q 0 x rfl) h
theorem trk_iff (l : List Track) : trkC l = 0 ↔ l.length ≤ 50 ∧ ∀ i x, l[i]? = some x → trkE l i x = 0 := by
  have e := trkF_eq l
  unfold trkF at e
  split at e
  · rename_i h
    simp only [decide_eq_true_eq] at h
    have := Option.some.inj e
    constructor
    · intro h0; omega
    · intro h0; omega
  · rename_i h
    simp only [decide_eq_true_eq] at h
    have f := findO_zero (trkE l) l 0
    simp only [Nat.zero_add] at f
    rw [e] at f
    constructor
    · intro h0; exact ⟨by omega, f.1 (by rw [h0])⟩
    · rintro ⟨_, h0⟩; exact Option.some.inj (f.2 h0)
theorem trkE_iff (l : List Track) (i : Nat) (x : Track) : trkE l i x = 0 ↔ isNm x.Name = true ∧ anyI (fun _ y => decide (y.Name = x.Name)) (l.take i) 0 = false ∧ serC x.Series = 0 ∧ 0 ≤ x.Long ∧ x.Long ≤ 1099511627776 := by
  unfold trkE
  cases isNm x.Name
  · simp
  · cases anyI (fun _ y => decide (y.Name = x.Name)) (l.take i) 0
    · by_cases hz : serC x.Series = 0
      · simp [hz]
      · simp [hz]
    · simp
theorem findO_one (e : Nat → Sample → Int) : ∀ (l : List Sample) (i : Nat) (r : Int × Int), findO (fun i x => if e i x = 0 then none else some (some ((i : Int), e i x))) (some (-1, 0)) l i = some r → (r.2 = 0 ↔ ∀ j x, l[j]? = some x → e (i + j) x = 0)
  | [], i, r, h => by cases h; simp
  | x :: l, i, r, h => by
    rw [findO] at h
    by_cases hz : e i x = 0
    · rw [if_pos hz] at h
      refine (findO_one e l (i + 1) r h).trans ?_
      constructor
      · intro q j y hy
        cases j with
        | zero => simp at hy; subst hy; simpa using hz
        | succ j => have := q j y (by simpa using hy); rwa [show i + (j + 1) = i + 1 + j by omega]
      · intro q j y hy; have := q (j + 1) y (by simpa using hy); rwa [show i + (j + 1) = i + 1 + j by omega] at this
    · rw [if_neg hz] at h
      have hr := Option.some.inj h
      subst hr
      constructor
      · intro q; exact absurd q hz
      · intro q; exact absurd (by simpa using q 0 x rfl) hz
theorem ser_iff (s : Series) : serC s = 0 ↔ (1 ≤ s.Den ∧ s.Den ≤ 1000000) ∧ s.Samples.length ≤ 20000 ∧ ∀ i x, s.Samples[i]? = some x → smpE s.Samples i x = 0 := by
  obtain ⟨r, hr⟩ := serE_some s
  have e : serC s = r.2 := by unfold serC; rw [hr]; rfl
  rw [e]
  unfold serE at hr
  split at hr
  · rename_i h
    cases hr
    simp only [Bool.not_eq_true', Bool.and_eq_false_iff, decide_eq_false_iff_not] at h
    constructor
    · intro h0; cases h0
    · rintro ⟨h1, _⟩; omega
  · rename_i h
    simp only [Bool.not_eq_true', Bool.and_eq_false_iff, decide_eq_false_iff_not] at h
    split at hr
    · rename_i h2
      simp only [decide_eq_true_eq] at h2
      cases hr
      constructor
      · intro h0; cases h0
      · rintro ⟨_, h1, _⟩; omega
    · rename_i h2
      simp only [decide_eq_true_eq] at h2
      have := findO_one (smpE s.Samples) s.Samples 0 r hr
      simp only [Nat.zero_add] at this
      rw [this]
      constructor
      · intro q; exact ⟨by omega, by omega, q⟩
      · intro q; exact q.2.2
end Go.Lf
