/- Walks: what each function computes, for every argument; no condition but those that stand in the statements. -/
import Derived.Test.YtbjhondbheijiaaGreatZOk
import Derived.Test.YtbjhondbheijiaaGreatPl
namespace Go.Lf
def kws : List Str := [[112, 104, 97, 115, 101], [109, 111, 118, 101], [114, 117, 108, 101], [105, 102], [111, 114], [97, 110, 100], [116, 114, 117, 101], [102, 97, 108, 115, 101], [115, 116, 101, 97, 100, 121], [110, 111, 116], [102, 111, 114], [119, 105, 116, 104, 105, 110], [99, 111, 117, 110, 116], [111, 102], [114, 105, 115, 101, 115], [115, 105, 110, 99, 101]]
theorem ewithin (a b c : Int) : F_event_within a b c = some (decide (b ≤ a) && decide (a ≤ c)) := by
  unfold F_event_within; simp only [letO_eq, iteB_and, bindO_s]
theorem fwithin (a b c : Int) : F_fleet_within a b c = some (decide (b ≤ a) && decide (a ≤ c)) := by
  unfold F_fleet_within; simp only [letO_eq, iteB_and, bindO_s]
theorem swithin (a b c : Int) : F_series_within a b c = some (decide (b ≤ a) && decide (a ≤ c)) := by
  unfold F_series_within; simp only [letO_eq, iteB_and, bindO_s]
theorem out9 (a b c : Int) : F_ref9_outside a b c = some (decide (a < b) || decide (c < a)) := by
  unfold F_ref9_outside; simp only [letO_eq, iteB_or2, bindO_s]
theorem out5 (a b c : Int) : F_ref5_outside a b c = some (decide (a < b) || decide (c < a)) := by
  unfold F_ref5_outside; simp only [letO_eq, iteB_or2, bindO_s]
theorem out6 (a b c : Int) : F_ref6_outside a b c = some (decide (a < b) || decide (c < a)) := by
  unfold F_ref6_outside; simp only [letO_eq, iteB_or2, bindO_s]
def isW (s : Str) : Bool := decide (s ∈ kws)
theorem isWord_eq (s : Str) : F_event_isWord s = some (isW s) := by
  unfold F_event_isWord isW kws
  simp only [letO_eq, iteB_or, bindO_s, iteB_id, List.mem_cons, List.not_mem_nil, or_false, Bool.decide_or]
def nmB (c : Int) : Bool := (decide (97 ≤ c) && decide (c ≤ 122)) || (decide (48 ≤ c) && decide (c ≤ 57)) || decide (c = 45)
theorem nameByte_eq (c : Int) : F_event_nameByte c = some (nmB c) := by
  unfold F_event_nameByte nmB
  simp only [letO_eq, bindO_s]
  cases decide (97 ≤ c) <;> cases decide (c ≤ 122) <;> cases decide (48 ≤ c) <;> cases decide (c ≤ 57) <;> cases decide (c = 45) <;> rfl
def badB : Nat → UInt8 → Bool := fun _ c => !nmB (c.toNat : Int)
theorem isName_L1 (s : Str) (hs : okS s) (k : Unit → Option Bool) : F_event_isName_L1 s k (s.length : Int) 0 = if anyI badB s 0 = true then some false else k () := by
  unfold F_event_isName_L1
  rw [loopO_find s (fun i c => if badB i c = true then some (some false) else none) (k ()) hs]
  · exact findO_any badB (some false) (k ()) s 0
  · intro kk i c hc hi
    unfold badB
    simp only [letO_eq]
    rw [lt_true hi, iteB_tr, byte_nat hc, bindO_s, nameByte_eq, bindO_s]
    cases nmB (c.toNat : Int)
    · rfl
    · simp only [Bool.not_true, iteB_fa]; rw [wrap1 hi hs]; rfl
  · intro kk; simp only [letO_eq]; rw [lt_self]; rfl
def firstOk (s : Str) : Bool := match s with
  | [] => false
  | c :: _ => decide (97 ≤ (c.toNat : Int)) && decide ((c.toNat : Int) ≤ 122)
/-- A name. -/
def isNm (s : Str) : Bool := decide (s.length ≤ 30) && firstOk s && !isW s && !anyI badB s 0
theorem isName_eq (s : Str) (hs : okS s) : F_event_isName s = some (isNm s) := by
  unfold F_event_isName isNm
  simp only [letO_eq, bindO_s, ewithin, joinO_eq, isName_L1 s hs, isWord_eq]
  cases s with
  | nil => rfl
  | cons c l =>
    have h0 : byte' (c :: l) 0 = some (c.toNat : Int) := byte_nat (i := 0) rfl
    have h1 : decide ((1 : Int) ≤ ((c :: l).length : Int)) = true := decide_eq_true (by simp; omega)
    have h2 : decide (((c :: l).length : Int) ≤ 30) = decide ((c :: l).length ≤ 30) := decide_eq_decide.2 (by omega)
    have h3 : decide ((c.toNat : Int) < 97) = !decide (97 ≤ (c.toNat : Int)) := by rw [← decide_not]; exact decide_eq_decide.2 (by omega)
    have h4 : decide (122 < (c.toNat : Int)) = !decide ((c.toNat : Int) ≤ 122) := by rw [← decide_not]; exact decide_eq_decide.2 (by omega)
    rw [h0, h1, h2]
    simp only [bindO_s, Bool.true_and, h3, h4, firstOk]
    cases decide ((c :: l).length ≤ 30) <;> cases decide (97 ≤ (c.toNat : Int)) <;> cases decide ((c.toNat : Int) ≤ 122) <;> cases isW (c :: l) <;> cases anyI badB (c :: l) 0 <;> rfl
theorem IsName_eq (s : Str) (hs : okS s) : F_event_IsName s = some (isNm s) := by
  unfold F_event_IsName; rw [isName_eq s hs]; rfl
end Go.Lf
namespace Go.Lf
theorem reserved_eq (s : Str) : F_ref6_Reserved s = some (isW s) := by
  unfold F_ref6_Reserved F_ref6_words
  simp only [letO_eq, bindO_s, joinO_eq]
  change F_ref6_Reserved_L1 s kws (fun _ => some false) 0 = _
  unfold F_ref6_Reserved_L1
  rw [loopO_find kws (fun _ x => if decide (x = s) = true then some (some true) else none) (some false) (by decide)]
  · rw [findO_any (fun _ x => decide (x = s))]
    have e : anyI (fun _ x => decide (x = s)) kws 0 = isW s := by
      rw [Bool.eq_iff_iff, anyI_iff]
      unfold isW
      simp only [decide_eq_true_eq]
      constructor
      · rintro ⟨j, x, h, rfl⟩; exact List.mem_of_getElem? h
      · intro h; obtain ⟨j, hj⟩ := List.getElem?_of_mem h; exact ⟨j, s, hj, rfl⟩
    rw [e]; cases isW s <;> rfl
  · intro kk i c hc hi
    simp only [letO_eq]
    rw [lt_true hi, iteB_tr, at_ok hc, bindO_s]
    cases decide (c = s)
    · simp only [iteB_fa]; rw [wrap1 hi (by decide)]; rfl
    · rfl
  · intro kk; simp only [letO_eq]; rw [lt_self]; rfl
def badR : Nat → UInt8 → Bool := fun i c => !((decide (97 ≤ (c.toNat : Int)) && decide ((c.toNat : Int) ≤ 122)) || (decide (0 < (i : Int)) && ((decide (48 ≤ (c.toNat : Int)) && decide ((c.toNat : Int) ≤ 57)) || decide ((c.toNat : Int) = 45))))
theorem rIsName_L1 (s : Str) (hs : okS s) (k : Unit → Option Bool) : F_ref6_IsName_L1 s k 0 = if anyI badR s 0 = true then some false else k () := by
  unfold F_ref6_IsName_L1
  rw [loopO_find s (fun i c => if badR i c = true then some (some false) else none) (k ()) hs]
  · exact findO_any badR (some false) (k ()) s 0
  · intro kk i c hc hi
    unfold badR
    simp only [letO_eq]
    rw [lt_true hi, iteB_tr, byte_nat hc, bindO_s]
    rw [wrap1 hi hs]
    cases decide (97 ≤ (c.toNat : Int)) <;> cases decide ((c.toNat : Int) ≤ 122) <;> cases decide (0 < (i : Int)) <;> cases decide (48 ≤ (c.toNat : Int)) <;> cases decide ((c.toNat : Int) ≤ 57) <;> cases decide ((c.toNat : Int) = 45) <;> rfl
  · intro kk; simp only [letO_eq]; rw [lt_self]; rfl
theorem rIsName_eq (s : Str) (hs : okS s) : F_ref6_IsName s = some (isNm s) := by
  unfold F_ref6_IsName isNm
  simp only [letO_eq, bindO_s, joinO_eq, rIsName_L1 s hs, reserved_eq]
  cases s with
  | nil => rfl
  | cons c l =>
    have h2 : decide (((c :: l).length : Int) ≤ 30) = decide ((c :: l).length ≤ 30) := decide_eq_decide.2 (by omega)
    have h5 : decide ((c :: l) ≠ []) = true := by simp
    have e : anyI badR l (0 + 1) = anyI badB l (0 + 1) := anyI_congr l (0 + 1) fun j x _ => by
      have : decide (0 < ((0 + 1 + j : Nat) : Int)) = true := decide_eq_true (by omega)
      unfold badR badB nmB
      rw [this]
      simp only [Bool.true_and, Bool.or_assoc]
    rw [anyI, anyI, e, h2, h5]
    have e2 : badR 0 c = !(decide (97 ≤ (c.toNat : Int)) && decide ((c.toNat : Int) ≤ 122)) := by unfold badR; simp
    have e3 : badB 0 c = !(firstOk (c :: l) || (decide (48 ≤ (c.toNat : Int)) && decide ((c.toNat : Int) ≤ 57)) || decide ((c.toNat : Int) = 45)) := rfl
    have e4 : badR 0 c = !firstOk (c :: l) := e2
    rw [e3, e4]
    cases firstOk (c :: l) <;> cases anyI badB l (0 + 1) <;> cases decide ((c :: l).length ≤ 30) <;> cases isW (c :: l) <;> simp [iteB, bindO]
/-! ### Series -/
/-- What is wrong with sample i of a list. -/
def smpE (l : List Sample) (i : Nat) (x : Sample) : Int :=
  if !(decide (0 ≤ x.At) && decide (x.At ≤ 1099511627776)) || !(decide (-1125899906842624 ≤ x.N) && decide (x.N ≤ 1125899906842624)) || !(decide (0 ≤ x.Mark) && decide (x.Mark ≤ 4)) then 9
  else if decide (x.N ≠ 0) && decide (x.Mark ≤ 1) then 2
  else match i with
    | 0 => 0
    | j + 1 => match l[j]? with
      | some y => if decide (x.At ≤ y.At) then 10 else 0
      | none => 0
def serF (l : List Sample) (fin : Option (Int × Int)) : Option (Int × Int) := findO (fun i x => if smpE l i x = 0 then none else some (some ((i : Int), smpE l i x))) fin l 0
theorem prev_get {l : List Sample} {i : Nat} (hi : i < l.length) (hl : l.length ≤ 9223372036854775807) (h0 : 0 < i) : ∃ y, l[i - 1]? = some y ∧ at' l (IntKind.i64.wrap ((i : Int) - 1)) = some y := by
  have h1 : i - 1 < l.length := by omega
  refine ⟨l[i - 1], List.getElem?_eq_getElem h1, ?_⟩
  rw [Go.OB.wrap_i64 (by omega) (by omega), show (i : Int) - 1 = ((i - 1 : Nat) : Int) by omega]
  exact at_ok (List.getElem?_eq_getElem h1)
theorem check_L1 (s : Series) (hs : s.Samples.length ≤ 9223372036854775807) (k : Unit → Option (Int × Int)) : F_series_check_L1 s k (s.Samples.length : Int) 0 = serF s.Samples (k ()) := by
  unfold F_series_check_L1 serF
  refine loopO_find s.Samples _ (k ()) hs ?_ ?_
  · intro kk i x hx hi
    simp only [letO_eq, swithin, bindO_s]
    rw [lt_true hi, iteB_tr, at_ok hx, bindO_s, wrap1 hi hs]
    unfold smpE
    cases decide (0 ≤ x.At) <;> cases decide (x.At ≤ 1099511627776) <;> simp only [Bool.and_true, Bool.and_false, Bool.true_and, Bool.false_and, Bool.not_true, Bool.not_false, Bool.true_or, Bool.false_or, iteB_tr, iteB_fa, bindO_s, if_true, Bool.false_eq_true, if_false] <;> try rfl
    cases decide (-1125899906842624 ≤ x.N) <;> cases decide (x.N ≤ 1125899906842624) <;> simp only [Bool.and_true, Bool.and_false, Bool.true_and, Bool.false_and, Bool.not_true, Bool.not_false, Bool.true_or, Bool.false_or, iteB_tr, iteB_fa, bindO_s, if_true, Bool.false_eq_true, if_false] <;> try rfl
    cases decide (0 ≤ x.Mark) <;> cases decide (x.Mark ≤ 4) <;> simp only [Bool.and_true, Bool.and_false, Bool.true_and, Bool.false_and, Bool.not_true, Bool.not_false, Bool.true_or, Bool.false_or, iteB_tr, iteB_fa, bindO_s, if_true, Bool.false_eq_true, if_false] <;> try rfl
    cases decide (x.N ≠ 0) <;> cases decide (x.Mark ≤ 1) <;> simp only [Bool.and_true, Bool.and_false, Bool.true_and, Bool.false_and, Bool.not_true, Bool.not_false, Bool.true_or, Bool.false_or, iteB_tr, iteB_fa, bindO_s, if_true, Bool.false_eq_true, if_false] <;> try rfl
    all_goals
      cases i with
      | zero => rfl
      | succ j =>
        obtain ⟨y, h1, h2⟩ := prev_get hi hs (by omega)
        have h3 : decide (0 < ((j + 1 : Nat) : Int)) = true := decide_eq_true (by omega)
        rw [h2, h3]
        simp only [Nat.add_sub_cancel] at h1
        simp only [iteB_tr, bindO_s, h1]
        cases decide (x.At ≤ y.At) <;> rfl
  · intro kk; simp only [letO_eq]; rw [lt_self]; rfl
theorem not_out (a b c : Int) : (decide (a < b) || decide (c < a)) = !(decide (b ≤ a) && decide (a ≤ c)) := by
  by_cases h1 : b ≤ a <;> by_cases h2 : a ≤ c <;> simp [h1, h2] <;> omega
theorem sampleFault_eq (x : Sample) : F_ref5_sampleFault x = some (if !(decide (0 ≤ x.At) && decide (x.At ≤ 1099511627776)) || !(decide (-1125899906842624 ≤ x.N) && decide (x.N ≤ 1125899906842624)) || !(decide (0 ≤ x.Mark) && decide (x.Mark ≤ 4)) then 9
    else if decide (x.N ≠ 0) && decide (x.Mark ≤ 1) then 2 else 0) := by
  unfold F_ref5_sampleFault F_ref5_numbered
  simp only [letO_eq, bindO_s, out5, not_out, iteB_or2, iteB_and]
  have h : (!decide (2 ≤ x.Mark)) = decide (x.Mark ≤ 1) := by rw [← decide_not]; exact decide_eq_decide.2 (by omega)
  rw [h]
  cases (!(decide (0 ≤ x.At) && decide (x.At ≤ 1099511627776))) <;> cases (!(decide (-1125899906842624 ≤ x.N) && decide (x.N ≤ 1125899906842624))) <;> cases (!(decide (0 ≤ x.Mark) && decide (x.Mark ≤ 4))) <;> cases decide (x.N ≠ 0) <;> cases decide (x.Mark ≤ 1) <;> rfl
theorem fault_L1 (s : Series) (hs : s.Samples.length ≤ 9223372036854775807) (k : Unit → Option (Int × Int)) : F_ref5_fault_L1 s k 0 = serF s.Samples (k ()) := by
  unfold F_ref5_fault_L1 serF
  refine loopO_find s.Samples _ (k ()) hs ?_ ?_
  · intro kk i x hx hi
    simp only [letO_eq, sampleFault_eq, bindO_s]
    rw [lt_true hi, iteB_tr, at_ok hx, bindO_s, wrap1 hi hs]
    unfold smpE
    cases (!(decide (0 ≤ x.At) && decide (x.At ≤ 1099511627776)) || !(decide (-1125899906842624 ≤ x.N) && decide (x.N ≤ 1125899906842624)) || !(decide (0 ≤ x.Mark) && decide (x.Mark ≤ 4)))
    · cases (decide (x.N ≠ 0) && decide (x.Mark ≤ 1))
      · cases i with
        | zero => rfl
        | succ j =>
          obtain ⟨y, h1, h2⟩ := prev_get hi hs (by omega)
          have h3 : decide (0 < ((j + 1 : Nat) : Int)) = true := decide_eq_true (by omega)
          rw [h2, h3]
          simp only [Nat.add_sub_cancel] at h1
          simp only [iteB_tr, bindO_s, h1, Bool.false_eq_true, if_false]
          cases decide (x.At ≤ y.At) <;> rfl
      · rfl
    · rfl
  · intro kk; simp only [letO_eq]; rw [lt_self]; rfl
/-- The error of a series. -/
def serE (s : Series) : Option (Int × Int) := if !(decide (1 ≤ s.Den) && decide (s.Den ≤ 1000000)) then some (-1, 9) else if decide (20000 < (s.Samples.length : Int)) then some (-1, 3) else serF s.Samples (some (-1, 0))
theorem check_eq (s : Series) (hs : s.Samples.length ≤ 9223372036854775807) : F_series_check s = serE s := by
  unfold F_series_check serE
  simp only [letO_eq, bindO_s, swithin, joinO_eq, check_L1 s hs, iteB_ite]
theorem fault_eq (s : Series) (hs : s.Samples.length ≤ 9223372036854775807) : F_ref5_fault s = serE s := by
  unfold F_ref5_fault serE
  simp only [letO_eq, bindO_s, out5, not_out, joinO_eq, fault_L1 s hs, iteB_ite]
theorem findO_some {α β : Type} {q : Nat → α → Option (Option β)} {fin : Option β} (hf : ∃ r, fin = some r) (hq : ∀ i x r, q i x = some r → ∃ y, r = some y) : ∀ (l : List α) (i : Nat), ∃ r, findO q fin l i = some r
  | [], i => hf
  | x :: l, i => by
    rw [findO]
    cases h : q i x with
    | none => exact findO_some hf hq l (i + 1)
    | some r => exact hq i x r h
theorem ite_some {β : Type} {p : Prop} [Decidable p] {y : β} {r : Option β} (h : (if p then none else some (some y)) = some r) : ∃ z, r = some z := by
  split at h
  · cases h
  · cases h; exact ⟨_, rfl⟩
theorem serE_some (s : Series) : ∃ r, serE s = some r := by
  unfold serE serF
  split
  · exact ⟨_, rfl⟩
  · split
    · exact ⟨_, rfl⟩
    · exact findO_some ⟨_, rfl⟩ (fun i x r h => ite_some h) _ _
def serC (s : Series) : Int := ((serE s).getD (0, 0)).2
theorem sCheck_eq (s : Series) (hs : s.Samples.length ≤ 9223372036854775807) : F_series_Check s = some (serC s) := by
  obtain ⟨r, hr⟩ := serE_some s
  unfold F_series_Check serC; rw [check_eq s hs, hr]; rfl
theorem rCheck_eq (s : Series) (hs : s.Samples.length ≤ 9223372036854775807) : F_ref5_Check s = some (serC s) := by
  obtain ⟨r, hr⟩ := serE_some s
  unfold F_ref5_Check serC; rw [fault_eq s hs, hr]; rfl
end Go.Lf
namespace Go.Lf
theorem idx_any {α : Type} (p : Nat → α → Bool) : ∀ (l : List α) (i : Nat), ∃ n, findO (fun i x => if p i x = true then some (some (i : Int)) else none) (some (-1)) l i = some n ∧ decide (0 ≤ n) = anyI p l i
  | [], i => ⟨-1, rfl, rfl⟩
  | x :: l, i => by
    rw [findO, anyI]
    cases h : p i x with
    | true => exact ⟨i, rfl, by simp⟩
    | false => simpa using idx_any p l (i + 1)
theorem contT_eq (l : List Track) (c : Track) (hl : l.length ≤ 9223372036854775807) : F_slices_ContainsFunc___api_Track_api_Track__event_CheckTracks_1 l c = some (anyI (fun _ y => decide (y.Name = c.Name)) l 0) := by
  obtain ⟨n, h1, h2⟩ := idx_any (fun (_ : Nat) (y : Track) => decide (y.Name = c.Name)) l 0
  have e : F_slices_IndexFunc___api_Track_api_Track__event_CheckTracks_1 l c = some n := by
    unfold F_slices_IndexFunc___api_Track_api_Track__event_CheckTracks_1
    simp only [letO_eq, joinO_eq]
    unfold F_slices_IndexFunc___api_Track_api_Track__event_CheckTracks_1_L1
    rw [← h1]
    refine loopO_find l _ _ hl ?_ ?_
    · intro kk i x hx hi
      unfold F_event_CheckTracks_1
      simp only [letO_eq, bindO_s]
      rw [lt_true hi, iteB_tr, at_ok hx, bindO_s, wrap1 hi hl]
      cases decide (x.Name = c.Name) <;> rfl
    · intro kk; simp only [letO_eq]; rw [lt_self]; rfl
  unfold F_slices_ContainsFunc___api_Track_api_Track__event_CheckTracks_1
  rw [e]
  simp only [letO_eq, bindO_s, h2]
/-- What is wrong with track i of a list. -/
def trkE (l : List Track) (i : Nat) (x : Track) : Int :=
  if !isNm x.Name then 8 else if anyI (fun _ y => decide (y.Name = x.Name)) (l.take i) 0 then 5
  else if serC x.Series ≠ 0 then serC x.Series else if !(decide (0 ≤ x.Long) && decide (x.Long ≤ 1099511627776)) then 9 else 0
def trkF (l : List Track) : Option Int := if decide (50 < (l.length : Int)) then some 3 else findO (fun i x => if trkE l i x = 0 then none else some (some (trkE l i x))) (some 0) l 0
theorem okTrack_of {l : List Track} (h : okL okTrack l) {i : Nat} {x : Track} (hx : l[i]? = some x) : okS x.Name ∧ x.Series.Samples.length ≤ 9223372036854775807 := by
  have := h.2 x (List.mem_of_getElem? hx)
  exact ⟨this.1, this.2.1.2.1⟩
theorem CheckTracks_eq (l : List Track) (h : okL okTrack l) : F_event_CheckTracks l = trkF l := by
  unfold F_event_CheckTracks trkF
  simp only [letO_eq, joinO_eq, iteB_ite]
  congr 1
  unfold F_event_CheckTracks_L1
  refine loopO_find l _ _ h.1 ?_ ?_
  · intro kk i x hx hi
    obtain ⟨o1, o2⟩ := okTrack_of h hx
    simp only [letO_eq]
    rw [lt_true hi, iteB_tr, at_ok hx, bindO_s, isName_eq _ o1, bindO_s, sub_nat l (by omega), wrap1 hi h.1]
    simp only [bindO_s, contT_eq (l.take i) x (by have := h.1; simp; omega), sCheck_eq _ o2, ewithin]
    unfold trkE
    cases isNm x.Name
    · rfl
    · cases anyI (fun _ y => decide (y.Name = x.Name)) (l.take i) 0
      · simp only [Bool.not_true, iteB_fa, Bool.false_eq_true, if_false, iteB_dec, iteB_ite]
        by_cases hz : serC x.Series = 0
        · cases (decide (0 ≤ x.Long) && decide (x.Long ≤ 1099511627776)) <;> simp [hz]
        · simp [hz]
      · rfl
  · intro kk; simp only [letO_eq]; rw [lt_self]; rfl
theorem rTracks_L2 (l : List Track) (hl : l.length ≤ 9223372036854775807) {i : Nat} {x : Track} (hx : l[i]? = some x) (k : Unit → Option Int) : F_ref6_CheckTracks_L2 l (i : Int) k 0 = if anyI (fun _ y => decide (y.Name = x.Name)) (l.take i) 0 = true then some 5 else k () := by
  have hi := (List.getElem?_eq_some_iff.1 hx).1
  have ht : (l.take i).length = i := by rw [List.length_take]; exact Nat.min_eq_left (Nat.le_of_lt hi)
  have hm : (l.take i).length ≤ 9223372036854775807 := by rw [ht]; exact Nat.le_trans (Nat.le_of_lt hi) hl
  have e := findO_any (fun _ y => decide (y.Name = x.Name)) (some 5) (k ()) (l.take i) 0
  rw [← e]
  unfold F_ref6_CheckTracks_L2
  refine loopO_find (l.take i) _ (k ()) hm ?_ ?_
  · intro kk j y hy hj
    rw [ht] at hj
    have hy' : l[j]? = some y := by rw [List.getElem?_take, if_pos hj] at hy; exact hy
    simp only [letO_eq]
    rw [lt_true hj, iteB_tr, at_ok hy', bindO_s, at_ok hx, bindO_s, wrap1 (n := l.length) (Nat.lt_trans hj hi) hl]
    cases decide (y.Name = x.Name)
    · rfl
    · rfl
  · intro kk
    rw [ht]
    simp only [letO_eq, lt_self, iteB_fa]
theorem rCheckTracks_eq (l : List Track) (h : okL okTrack l) : F_ref6_CheckTracks l = trkF l := by
  unfold F_ref6_CheckTracks trkF
  simp only [letO_eq, joinO_eq, iteB_ite]
  congr 1
  unfold F_ref6_CheckTracks_L1
  refine loopO_find l _ _ h.1 ?_ ?_
  · intro kk i x hx hi
    obtain ⟨o1, o2⟩ := okTrack_of h hx
    simp only [letO_eq, joinO_eq]
    rw [lt_true hi, iteB_tr, at_ok hx, bindO_s, rIsName_eq _ o1, bindO_s, rTracks_L2 l h.1 hx, wrap1 hi h.1]
    simp only [bindO_s, rCheck_eq _ o2, out6, not_out]
    unfold trkE
    cases isNm x.Name
    · rfl
    · cases anyI (fun _ y => decide (y.Name = x.Name)) (l.take i) 0
      · simp only [Bool.not_true, iteB_fa, Bool.false_eq_true, if_false, iteB_dec, iteB_ite]
        by_cases hz : serC x.Series = 0
        · cases (decide (0 ≤ x.Long) && decide (x.Long ≤ 1099511627776)) <;> simp [hz]
        · simp [hz]
      · rfl
  · intro kk; simp only [letO_eq]; rw [lt_self]; rfl
theorem trkF_some (l : List Track) : ∃ r, trkF l = some r := by
  unfold trkF
  split
  · exact ⟨_, rfl⟩
  · exact findO_some ⟨_, rfl⟩ (fun i x r h => ite_some h) _ _
end Go.Lf
namespace Go.Lf
def trkC (l : List Track) : Int := (trkF l).getD 0
theorem trkF_eq (l : List Track) : trkF l = some (trkC l) := by obtain ⟨r, h⟩ := trkF_some l; unfold trkC; rw [h]; rfl
/-- The error of a flight. -/
def fltC (f : Flight) : Int :=
  if (decide (f.Tail ≠ []) && !isNm f.Tail) || !isNm f.Route then 8
  else if !(decide (0 ≤ f.Day) && decide (f.Day ≤ 1000000)) || decide (f.From < 0) || decide (f.To < f.From) || decide (4194304 ≤ f.To) then 9
  else if decide (20000 < IntKind.i64.wrap (IntKind.i64.wrap (f.To - f.From) + 1)) || decide (30 < (f.Tracks.length : Int)) then 3
  else trkC f.Tracks
theorem CheckFlight_eq (f : Flight) (h : okFlight f) : F_fleet_CheckFlight f = some (fltC f) := by
  unfold F_fleet_CheckFlight fltC
  simp only [letO_eq, IsName_eq _ h.1, IsName_eq _ h.2.1, fwithin, CheckTracks_eq _ h.2.2.2.2.2, trkF_eq, bindO_s, iteB_or2]
  cases decide (f.Tail ≠ []) <;> cases isNm f.Tail <;> cases isNm f.Route <;> simp only [iteB_tr, iteB_fa, bindO_s, Bool.not_true, Bool.not_false, Bool.and_true, Bool.and_false, Bool.or_true, Bool.or_false, if_true, Bool.false_eq_true, if_false, iteB_ite, Bool.or_assoc] <;> (repeat' split) <;> rfl
theorem rCheckFlight_eq (f : Flight) (h : okFlight f) : F_ref9_CheckFlight f = some (fltC f) := by
  have e : decide (4194303 < f.To) = decide (4194304 ≤ f.To) := decide_eq_decide.2 (by omega)
  unfold F_ref9_CheckFlight fltC
  simp only [letO_eq, rIsName_eq _ h.1, rIsName_eq _ h.2.1, out9, not_out, rCheckTracks_eq _ h.2.2.2.2.2, trkF_eq, bindO_s, iteB_or2, e]
  cases decide (f.Tail ≠ []) <;> cases isNm f.Tail <;> cases isNm f.Route <;> simp only [iteB_tr, iteB_fa, bindO_s, Bool.not_true, Bool.not_false, Bool.and_true, Bool.and_false, Bool.or_true, Bool.or_false, if_true, Bool.false_eq_true, if_false, iteB_ite, Bool.or_assoc] <;> (repeat' split) <;> rfl
/-- What holds of a flight without fault. -/
structure Good (f : Flight) : Prop where
  tail : f.Tail = [] ∨ isNm f.Tail = true
  route : isNm f.Route = true
  day : 0 ≤ f.Day ∧ f.Day ≤ 1000000
  frm : 0 ≤ f.From ∧ f.From ≤ f.To ∧ f.To < 4194304
  span : f.To - f.From + 1 ≤ 20000
  many : f.Tracks.length ≤ 30
  trk : trkC f.Tracks = 0
theorem good_of {f : Flight} (h : fltC f = 0) : Good f := by
  unfold fltC at h
  split at h
  · cases h
  · split at h
    · cases h
    · split at h
      · cases h
      · rename_i h1 h2 h3
        simp only [Bool.or_eq_true, Bool.and_eq_true, Bool.not_eq_true', decide_eq_true_eq, not_or, not_and, Bool.not_eq_false, Bool.and_eq_false_iff, decide_eq_false_iff_not] at h1 h2 h3
        obtain ⟨⟨⟨h4, h5⟩, h6⟩, h7⟩ := h2
        have h5 : 0 ≤ f.From := by omega
        have w1 : IntKind.i64.wrap (f.To - f.From) = f.To - f.From := Go.OB.wrap_i64 (by omega) (by omega)
        rw [w1, Go.OB.wrap_i64 (by omega) (by omega)] at h3
        refine ⟨?_, h1.2, ⟨by omega, by omega⟩, ⟨by omega, by omega, by omega⟩, by omega, by omega, h⟩
        by_cases ht : f.Tail = []
        · exact .inl ht
        · exact .inr (h1.1 ht)
theorem good_iff {f : Flight} (g : Good f) : fltC f = 0 := by
  unfold fltC
  have w1 : IntKind.i64.wrap (f.To - f.From) = f.To - f.From := by have := g.frm; exact Go.OB.wrap_i64 (by omega) (by omega)
  have w2 : IntKind.i64.wrap (f.To - f.From + 1) = f.To - f.From + 1 := by have := g.frm; exact Go.OB.wrap_i64 (by omega) (by omega)
  have g1 := g.day; have g2 := g.frm; have g3 := g.span; have g4 := g.many
  rw [w1, w2]
  rw [if_neg, if_neg, if_neg]
  · exact g.trk
  · simp only [Bool.or_eq_true, decide_eq_true_eq, not_or]; omega
  · simp only [Bool.or_eq_true, Bool.not_eq_true', Bool.and_eq_false_iff, decide_eq_false_iff_not, decide_eq_true_eq, not_or]; omega
  · rcases g.tail with h | h
    · simp [h, g.route]
    · simp [h, g.route]
/-! ### Tracks of a flight -/
end Go.Lf
namespace Go.Lf
theorem findO_zero {α : Type} (e : Nat → α → Int) : ∀ (l : List α) (i : Nat), findO (fun i x => if e i x = 0 then none else some (some (e i x))) (some 0) l i = some 0 ↔ ∀ j x, l[j]? = some x → e (i + j) x = 0
  | [], i => by simp [findO]
  | x :: l, i => by
    rw [findO]
    by_cases h : e i x = 0
    · rw [if_pos h]
      refine (findO_zero e l (i + 1)).trans ?_
      constructor
      · intro q j y hy
        cases j with
        | zero => simp at hy; subst hy; simpa using h
        | succ j => have := q j y (by simpa using hy); rwa [show i + (j + 1) = i + 1 + j by omega]
      · intro q j y hy; have := q (j + 1) y (by simpa using hy); rwa [show i + (j + 1) = i + 1 + j by omega] at this
    · rw [if_neg h]
      constructor
      · intro q; exact absurd (Option.some.inj q) h
      · intro q; exact absurd (by simpa using q 0 x rfl) h
theorem trk_iff (l : List Track) : trkC l = 0 ↔ l.length ≤ 50 ∧ ∀ i x, l[i]? = some x → trkE l i x = 0 := by
  have e := trkF_eq l
  unfold trkF at e
  split at e
  · rename_i h
    simp only [decide_eq_true_eq] at h
    have := Option.some.inj e
    constructor
    · intro h0; omega
    · intro h0; omega
  · rename_i h
    simp only [decide_eq_true_eq] at h
    have f := findO_zero (trkE l) l 0
    simp only [Nat.zero_add] at f
    rw [e] at f
    constructor
    · intro h0; exact ⟨by omega, f.1 (by rw [h0])⟩
    · rintro ⟨_, h0⟩; exact Option.some.inj (f.2 h0)
theorem trkE_iff (l : List Track) (i : Nat) (x : Track) : trkE l i x = 0 ↔ isNm x.Name = true ∧ anyI (fun _ y => decide (y.Name = x.Name)) (l.take i) 0 = false ∧ serC x.Series = 0 ∧ 0 ≤ x.Long ∧ x.Long ≤ 1099511627776 := by
  unfold trkE
  cases isNm x.Name
  · simp
  · cases anyI (fun _ y => decide (y.Name = x.Name)) (l.take i) 0
    · by_cases hz : serC x.Series = 0
      · simp [hz]
      · simp [hz]
    · simp
theorem findO_one (e : Nat → Sample → Int) : ∀ (l : List Sample) (i : Nat) (r : Int × Int), findO (fun i x => if e i x = 0 then none else some (some ((i : Int), e i x))) (some (-1, 0)) l i = some r → (r.2 = 0 ↔ ∀ j x, l[j]? = some x → e (i + j) x = 0)
  | [], i, r, h => by cases h; simp
  | x :: l, i, r, h => by
    rw [findO] at h
    by_cases hz : e i x = 0
    · rw [if_pos hz] at h
      refine (findO_one e l (i + 1) r h).trans ?_
      constructor
      · intro q j y hy
        cases j with
        | zero => simp at hy; subst hy; simpa using hz
        | succ j => have := q j y (by simpa using hy); rwa [show i + (j + 1) = i + 1 + j by omega]
      · intro q j y hy; have := q (j + 1) y (by simpa using hy); rwa [show i + (j + 1) = i + 1 + j by omega] at this
    · rw [if_neg hz] at h
      have hr := Option.some.inj h
      subst hr
      constructor
      · intro q; exact absurd q hz
      · intro q; exact absurd (by simpa using q 0 x rfl) hz
theorem ser_iff (s : Series) : serC s = 0 ↔ (1 ≤ s.Den ∧ s.Den ≤ 1000000) ∧ s.Samples.length ≤ 20000 ∧ ∀ i x, s.Samples[i]? = some x → smpE s.Samples i x = 0 := by
  obtain ⟨r, hr⟩ := serE_some s
  have e : serC s = r.2 := by unfold serC; rw [hr]; rfl
  rw [e]
  unfold serE at hr
  split at hr
  · rename_i h
    cases hr
    simp only [Bool.not_eq_true', Bool.and_eq_false_iff, decide_eq_false_iff_not] at h
    constructor
    · intro h0; cases h0
    · rintro ⟨h1, _⟩; omega
  · rename_i h
    simp only [Bool.not_eq_true', Bool.and_eq_false_iff, decide_eq_false_iff_not] at h
    split at hr
    · rename_i h2
      simp only [decide_eq_true_eq] at h2
      cases hr
      constructor
      · intro h0; cases h0
      · rintro ⟨_, h1, _⟩; omega
    · rename_i h2
      simp only [decide_eq_true_eq] at h2
      have := findO_one (smpE s.Samples) s.Samples 0 r hr
      simp only [Nat.zero_add] at this
      rw [this]
      constructor
      · intro q; exact ⟨by omega, by omega, q⟩
      · intro q; exact q.2.2
/-- Names of a good list of tracks differ. -/
theorem names_ne {l : List Track} (h : trkC l = 0) {i j : Nat} {x y : Track} (hx : l[i]? = some x) (hy : l[j]? = some y) (hij : i < j) : x.Name ≠ y.Name := by
  have := ((trkE_iff l j y).1 (((trk_iff l).1 h).2 j y hy)).2.1
  intro e
  have t : anyI (fun _ z => decide (z.Name = y.Name)) (l.take j) 0 = true := (anyI_iff _ _ _).2 ⟨i, x, by rw [List.getElem?_take, if_pos hij]; exact hx, by simpa using e⟩
  rw [this] at t; cases t
theorem names_pw {l : List Track} (h : trkC l = 0) : l.Pairwise fun a b => a.Name ≠ b.Name := by
  rw [List.pairwise_iff_getElem]
  intro i j hi hj hij
  exact names_ne h (List.getElem?_eq_getElem hi) (List.getElem?_eq_getElem hj) hij
end Go.Lf
namespace Go.Lf
def okMask (x : Mask) : Prop := True ∧ i64 x.Days ∧ okL (fun x => okS x) x.Hide ∧ okL (fun x => okGrain x) x.Grains ∧ i64 x.Least
/-- What is wrong with name i of a list. -/
def namE (l : List Str) (i : Nat) (x : Str) : Int := if !isNm x then 8 else if anyI (fun _ y => decide (x = y)) (l.take i) 0 then 5 else 0
def namF (l : List Str) (fin : Option Int) : Option Int := findO (fun i x => if namE l i x = 0 then none else some (some (namE l i x))) fin l 0
theorem contS_eq (l : List Str) (c : Str) (hl : l.length ≤ 9223372036854775807) : F_slices_Contains___string_string_ l c = some (anyI (fun _ y => decide (c = y)) l 0) := by
  obtain ⟨n, h1, h2⟩ := idx_any (fun (_ : Nat) (y : Str) => decide (c = y)) l 0
  have e : F_slices_Index___string_string_ l c = some n := by
    unfold F_slices_Index___string_string_
    simp only [letO_eq, joinO_eq]
    unfold F_slices_Index___string_string__L1
    rw [← h1]
    refine loopO_find l _ _ hl ?_ ?_
    · intro kk i x hx hi
      simp only [letO_eq]
      rw [lt_true hi, iteB_tr, at_ok hx, bindO_s, wrap1 hi hl]
      cases decide (c = x) <;> rfl
    · intro kk; simp only [letO_eq]; rw [lt_self]; rfl
  unfold F_slices_Contains___string_string_
  rw [e]
  simp only [letO_eq, bindO_s, h2]
theorem checkNames_eq (l : List Str) (h : okL okS l) : F_fleet_checkNames l = if decide (30 < (l.length : Int)) = true then some 3 else namF l (some 0) := by
  unfold F_fleet_checkNames namF
  simp only [letO_eq, joinO_eq, iteB_ite]
  congr 1
  unfold F_fleet_checkNames_L1
  refine loopO_find l _ _ h.1 ?_ ?_
  · intro kk i x hx hi
    have o1 := h.2 x (List.mem_of_getElem? hx)
    simp only [letO_eq]
    rw [lt_true hi, iteB_tr, at_ok hx, bindO_s, IsName_eq _ o1, bindO_s, sub_nat l (by omega), wrap1 hi h.1]
    simp only [bindO_s, contS_eq (l.take i) x (by have := h.1; simp; omega)]
    unfold namE
    cases isNm x
    · rfl
    · cases anyI (fun _ y => decide (x = y)) (l.take i) 0 <;> rfl
  · intro kk; simp only [letO_eq]; rw [lt_self]; rfl
theorem contG_eq (l : List Grain) (c : Grain) (hl : l.length ≤ 9223372036854775807) : F_slices_ContainsFunc___api_Grain_api_Grain__fleet_CheckMask_1 l c = some (anyI (fun _ y => decide (y.Track = c.Track)) l 0) := by
  obtain ⟨n, h1, h2⟩ := idx_any (fun (_ : Nat) (y : Grain) => decide (y.Track = c.Track)) l 0
  have e : F_slices_IndexFunc___api_Grain_api_Grain__fleet_CheckMask_1 l c = some n := by
    unfold F_slices_IndexFunc___api_Grain_api_Grain__fleet_CheckMask_1
    simp only [letO_eq, joinO_eq]
    unfold F_slices_IndexFunc___api_Grain_api_Grain__fleet_CheckMask_1_L1
    rw [← h1]
    refine loopO_find l _ _ hl ?_ ?_
    · intro kk i x hx hi
      unfold F_fleet_CheckMask_1
      simp only [letO_eq, bindO_s]
      rw [lt_true hi, iteB_tr, at_ok hx, bindO_s, wrap1 hi hl]
      cases decide (x.Track = c.Track) <;> rfl
    · intro kk; simp only [letO_eq]; rw [lt_self]; rfl
  unfold F_slices_ContainsFunc___api_Grain_api_Grain__fleet_CheckMask_1
  rw [e]
  simp only [letO_eq, bindO_s, h2]
/-- What is wrong with grain i of a mask. -/
def graE (l : List Grain) (i : Nat) (x : Grain) : Int :=
  if !isNm x.Track then 8 else if anyI (fun _ y => decide (y.Track = x.Track)) (l.take i) 0 then 5 else if !(decide (1 ≤ x.N) && decide (x.N ≤ 1125899906842624)) then 9 else 0
def graF (l : List Grain) (fin : Option Int) : Option Int := findO (fun i x => if graE l i x = 0 then none else some (some (graE l i x))) fin l 0
def lstE (m : Mask) : Option Int := if !(decide (1 ≤ m.Least) && decide (m.Least ≤ 1000)) then some 9 else some 0
/-- The error of a mask, past its names. -/
def mskG (m : Mask) : Option Int := if decide (30 < (m.Grains.length : Int)) = true then some 3 else graF m.Grains (lstE m)
def mskE (m : Mask) : Option Int :=
  if !(decide (1 ≤ m.Days) && decide (m.Days ≤ 1000000)) then some 9 else if decide (30 < (m.Hide.length : Int)) = true then some 3 else namF m.Hide (mskG m)
theorem findO_fin (e : Nat → Str → Int) : ∀ (l : List Str) (i : Nat) (fin : Option Int), findO (fun i x => if e i x = 0 then none else some (some (e i x))) fin l i =
    bindO (findO (fun i x => if e i x = 0 then none else some (some (e i x))) (some 0) l i) fun r => if r = 0 then fin else some r
  | [], i, fin => by simp [findO, bindO_s]
  | x :: l, i, fin => by
    rw [findO, findO]
    by_cases h : e i x = 0
    · simp only [h, if_true]; exact findO_fin e l (i + 1) fin
    · simp only [h, if_false, bindO_s]
theorem CheckMask_eq (m : Mask) (h : okMask m) : F_fleet_CheckMask m = mskE m := by
  unfold F_fleet_CheckMask mskE
  simp only [letO_eq, joinO_eq, fwithin, bindO_s, checkNames_eq _ h.2.2.1]
  have g : F_fleet_CheckMask_L1 m (fun _ => iteB (!(decide (1 ≤ m.Least) && decide (m.Least ≤ 1000))) (some 9) (some 0)) (m.Grains.length : Int) 0 = graF m.Grains (lstE m) := by
    unfold F_fleet_CheckMask_L1 graF
    refine loopO_find m.Grains _ _ h.2.2.2.1.1 ?_ ?_
    · intro kk i x hx hi
      have o1 := (h.2.2.2.1.2 x (List.mem_of_getElem? hx)).1
      simp only [letO_eq]
      rw [lt_true hi, iteB_tr, at_ok hx, bindO_s, IsName_eq _ o1, bindO_s, sub_nat m.Grains (by omega), wrap1 hi h.2.2.2.1.1]
      simp only [bindO_s, contG_eq (m.Grains.take i) x (by have := h.2.2.2.1.1; simp; omega), fwithin]
      unfold graE
      cases isNm x.Track
      · rfl
      · cases anyI (fun _ y => decide (y.Track = x.Track)) (m.Grains.take i) 0
        · cases (decide (1 ≤ x.N) && decide (x.N ≤ 1125899906842624)) <;> rfl
        · rfl
    · intro kk; simp only [letO_eq]; rw [lt_self, iteB_fa]; unfold lstE; rw [iteB_ite]
  rw [g]
  simp only [iteB_ite]
  congr 1
  by_cases c : decide (30 < (m.Hide.length : Int)) = true
  · rw [if_pos c, if_pos c]; simp [bindO_s]
  · rw [if_neg c, if_neg c]
    unfold namF
    rw [findO_fin _ _ _ (mskG m)]
    congr 1
    funext r
    by_cases hr : r = 0
    · simp [hr, mskG]
    · simp [hr]
theorem twice_eq (l : List Str) (hl : l.length ≤ 9223372036854775807) {i : Nat} {x : Str} (hx : l[i]? = some x) : F_ref9_twice l (i : Int) = some (anyI (fun _ y => decide (x = y)) (l.take i) 0) := by
  have hi := (List.getElem?_eq_some_iff.1 hx).1
  have ht : (l.take i).length = i := by rw [List.length_take]; exact Nat.min_eq_left (Nat.le_of_lt hi)
  have hm : (l.take i).length ≤ 9223372036854775807 := by rw [ht]; exact Nat.le_trans (Nat.le_of_lt hi) hl
  have e := findO_any (fun _ y => decide (x = y)) (some true) (some false) (l.take i) 0
  unfold F_ref9_twice
  rw [joinO_eq]
  have q : F_ref9_twice_L1 l (i : Int) (fun _ => some false) 0 = findO (fun i y => if decide (x = y) = true then some (some true) else none) (some false) (l.take i) 0 := by
    unfold F_ref9_twice_L1
    refine loopO_find (l.take i) _ (some false) hm ?_ ?_
    · intro kk j y hy hj
      rw [ht] at hj
      have hy' : l[j]? = some y := by rw [List.getElem?_take, if_pos hj] at hy; exact hy
      simp only [letO_eq]
      rw [lt_true hj, iteB_tr, at_ok hy', bindO_s, at_ok hx, bindO_s, wrap1 (n := l.length) (Nat.lt_trans hj hi) hl, show decide (y = x) = decide (x = y) from decide_eq_decide.2 ⟨Eq.symm, Eq.symm⟩]
      cases decide (x = y)
      · rfl
      · rfl
    · intro kk
      rw [ht]
      simp only [letO_eq, lt_self, iteB_fa]
  rw [q, e]
  cases anyI (fun _ y => decide (x = y)) (l.take i) 0 <;> rfl
theorem anyI_map (x : Str) : ∀ (l : List Grain) (i : Nat), anyI (fun _ y => decide (x = y)) (l.map Grain.Track) i = anyI (fun _ y => decide (y.Track = x)) l i
  | [], _ => rfl
  | y :: l, i => by
    rw [List.map_cons, anyI, anyI, anyI_map x l (i + 1), show decide (x = y.Track) = decide (y.Track = x) from decide_eq_decide.2 ⟨Eq.symm, Eq.symm⟩]
theorem rCheckMask_eq (m : Mask) (h : okMask m) (hg : m.Grains.length ≤ 9223372036854775807) : F_ref9_CheckMask m = mskE m := by
  unfold F_ref9_CheckMask mskE
  simp only [letO_eq, joinO_eq, out9, not_out, bindO_s, iteB_ite]
  congr 1
  congr 1
  have g : ¬ decide (30 < (m.Grains.length : Int)) = true → F_ref9_CheckMask_L2 m (fun _ => if (!(decide (1 ≤ m.Least) && decide (m.Least ≤ 1000))) = true then some 9 else some 0) ([], 0) = graF m.Grains (lstE m) := by
    intro c30
    have c30 : m.Grains.length ≤ 30 := by simp at c30; omega
    unfold F_ref9_CheckMask_L2 graF
    rw [← runL_find (f := fun i x _ => match (if graE m.Grains i x = 0 then none else some (some (graE m.Grains i x)) : Option (Option Int)) with | some r => .inr r | none => .inl ()) (fin := fun _ => lstE m) _ (fun i x => by cases (if graE m.Grains i x = 0 then (none : Option (Option Int)) else some (some (graE m.Grains i x))) <;> rfl)]
    refine loopO_runL (fun (i : Nat) (_ : Unit) => ((m.Grains.take i).map Grain.Track, (i : Int))) m.Grains _ _ hg (fun kk i _ x hx => ?_) (fun kk _ => ?_) ()
    · have hi := (List.getElem?_eq_some_iff.1 hx).1
      have o1 := (h.2.2.2.1.2 x (List.mem_of_getElem? hx)).1
      have ht : m.Grains.take (i + 1) = m.Grains.take i ++ [x] := by rw [List.take_add_one, hx]; rfl
      have ha : app' 16 ((m.Grains.take i).map Grain.Track) [x.Track] = some ((m.Grains.take (i + 1)).map Grain.Track) := by
        unfold app'
        rw [if_pos, ht]
        · simp
        · simp [maxLen]; omega
      have hlen : ((m.Grains.take (i + 1)).map Grain.Track).length = i + 1 := by simp; omega
      have hget : ((m.Grains.take (i + 1)).map Grain.Track)[i]? = some x.Track := by
        rw [ht, List.map_append, List.getElem?_append_right (by simp; omega)]
        simp
        rw [show i - min i m.Grains.length = 0 by omega]; rfl
      have htk : ((m.Grains.take (i + 1)).map Grain.Track).take i = (m.Grains.take i).map Grain.Track := by
        rw [← List.map_take, List.take_take, Nat.min_eq_left (by omega)]
      simp only [letO_eq]
      rw [lt_true hi, iteB_tr, at_ok hx, bindO_s, ha, bindO_s, at_ok hget, bindO_s, rIsName_eq _ o1, bindO_s, twice_eq _ (by omega) hget, bindO_s, bindO_s, htk, anyI_map, wrap1 hi hg]
      simp only [out9, not_out, bindO_s]
      unfold graE
      cases isNm x.Track
      · rfl
      · cases anyI (fun _ y => decide (y.Track = x.Track)) (m.Grains.take i) 0
        · cases (decide (1 ≤ x.N) && decide (x.N ≤ 1125899906842624)) <;> rfl
        · rfl
    · simp only [letO_eq, List.take_length]; rw [lt_self, iteB_fa]; rfl
  have q : (if decide (30 < (m.Grains.length : Int)) = true then some 3 else F_ref9_CheckMask_L2 m (fun _ => if (!(decide (1 ≤ m.Least) && decide (m.Least ≤ 1000))) = true then some 9 else some 0) ([], 0)) = mskG m := by
    unfold mskG
    split
    · rfl
    · rename_i c; rw [g c]
  rw [q]
  unfold F_ref9_CheckMask_L1 namF
  refine loopO_find m.Hide _ _ h.2.2.1.1 ?_ ?_
  · intro kk i x hx hi
    have o1 := h.2.2.1.2 x (List.mem_of_getElem? hx)
    simp only [letO_eq]
    rw [lt_true hi, iteB_tr, at_ok hx, bindO_s, rIsName_eq _ o1, bindO_s, twice_eq _ h.2.2.1.1 hx, bindO_s, wrap1 hi h.2.2.1.1]
    unfold namE
    cases isNm x
    · rfl
    · cases anyI (fun _ y => decide (x = y)) (m.Hide.take i) 0 <;> rfl
  · intro kk; simp only [letO_eq]; rw [lt_self]; rfl
end Go.Lf
