/- Walks: what each function computes, for every argument; no condition but those that stand in the statements. -/
import Derived.Test.YtbjhondbheijiaaGreatDoorYOk
import Derived.Test.YtbjhondbheijiaaGreatDoorPl
namespace Go.Lf
def kws : List Str := [[112, 104, 97, 115, 101], [109, 111, 118, 101], [114, 117, 108, 101], [105, 102], [111, 114], [97, 110, 100], [116, 114, 117, 101], [102, 97, 108, 115, 101], [115, 116, 101, 97, 100, 121], [110, 111, 116], [102, 111, 114], [119, 105, 116, 104, 105, 110], [99, 111, 117, 110, 116], [111, 102], [114, 105, 115, 101, 115], [115, 105, 110, 99, 101]]
theorem ewithin (a b c : Int) : F_event_within a b c = some (decide (b ≤ a) && decide (a ≤ c)) := by
  unfold F_event_within; simp only [yE, iteB_and, zL]
theorem fwithin (a b c : Int) : F_fleet_within a b c = some (decide (b ≤ a) && decide (a ≤ c)) := by
  unfold F_fleet_within; simp only [yE, iteB_and, zL]
theorem swithin (a b c : Int) : F_series_within a b c = some (decide (b ≤ a) && decide (a ≤ c)) := by
  unfold F_series_within; simp only [yE, iteB_and, zL]
theorem out9 (a b c : Int) : F_ref9_outside a b c = some (decide (a < b) || decide (c < a)) := by
  unfold F_ref9_outside; simp only [yE, iteB_or2, zL]
theorem out5 (a b c : Int) : F_ref5_outside a b c = some (decide (a < b) || decide (c < a)) := by
  unfold F_ref5_outside; simp only [yE, iteB_or2, zL]
theorem out6 (a b c : Int) : F_ref6_outside a b c = some (decide (a < b) || decide (c < a)) := by
  unfold F_ref6_outside; simp only [yE, iteB_or2, zL]
def isW (s : Str) : Bool := decide (s ∈ kws)
theorem isWord_eq (s : Str) : F_event_isWord s = some (isW s) := by
  unfold F_event_isWord isW kws
  simp only [yE, iteB_or, zL, iteB_id, List.mem_cons, List.not_mem_nil, or_false, Bool.decide_or]
def nmB (c : Int) : Bool := (decide (97 ≤ c) && decide (c ≤ 122)) || (decide (48 ≤ c) && decide (c ≤ 57)) || decide (c = 45)
theorem nameByte_eq (c : Int) : F_event_nameByte c = some (nmB c) := by
  unfold F_event_nameByte nmB
  simp only [yE, zL]
  cases decide (97 ≤ c) <;> cases decide (c ≤ 122) <;> cases decide (48 ≤ c) <;> cases decide (c ≤ 57) <;> cases decide (c = 45) <;> rfl
def badB : Nat → UInt8 → Bool := fun _ c => !nmB (c.toNat : Int)
theorem isName_L1 (s : Str) (hs : okS s) (k : Unit → Option Bool) : F_event_isName_L1 s k (s.length : Int) 0 = if anyI badB s 0 = true then some false else k () := by
  unfold F_event_isName_L1
  rw [wE s (fun i c => if badB i c = true then some (some false) else none) (k ()) hs]
  · exact findO_any badB (some false) (k ()) s 0
  · intro kk i c hc hi
    unfold badB
    simp only [yE]
    rw [xP hi, yP, byte_nat hc, zL, nameByte_eq, zL]
    cases nmB (c.toNat : Int)
    · rfl
    · simp only [Bool.not_true, yS]; rw [wrap1 hi hs]; rfl
  · intro kk; simp only [yE]; rw [xQ]; rfl
def firstOk (s : Str) : Bool := match s with
  | [] => false
  | c :: _ => decide (97 ≤ (c.toNat : Int)) && decide ((c.toNat : Int) ≤ 122)
/-- A name. -/
def isNm (s : Str) : Bool := decide (s.length ≤ 30) && firstOk s && !isW s && !anyI badB s 0
theorem isName_eq (s : Str) (hs : okS s) : F_event_isName s = some (isNm s) := by
  unfold F_event_isName isNm
  simp only [yE, zL, ewithin, joinO_eq, isName_L1 s hs, isWord_eq]
  cases s with
  | nil => rfl
  | cons c l =>
    have h0 : byte' (c :: l) 0 = some (c.toNat : Int) := byte_nat (i := 0) rfl
    have h1 : decide ((1 : Int) ≤ ((c :: l).length : Int)) = true := decide_eq_true (by simp; omega)
    have h2 : decide (((c :: l).length : Int) ≤ 30) = decide ((c :: l).length ≤ 30) := decide_eq_decide.2 (by omega)
    have h3 : decide ((c.toNat : Int) < 97) = !decide (97 ≤ (c.toNat : Int)) := by rw [← decide_not]; exact decide_eq_decide.2 (by omega)
    have h4 : decide (122 < (c.toNat : Int)) = !decide ((c.toNat : Int) ≤ 122) := by rw [← decide_not]; exact decide_eq_decide.2 (by omega)
    rw [h0, h1, h2]
    simp only [zL, Bool.true_and, h3, h4, firstOk]
    cases decide ((c :: l).length ≤ 30) <;> cases decide (97 ≤ (c.toNat : Int)) <;> cases decide ((c.toNat : Int) ≤ 122) <;> cases isW (c :: l) <;> cases anyI badB (c :: l) 0 <;> rfl
theorem IsName_eq (s : Str) (hs : okS s) : F_event_IsName s = some (isNm s) := by
  unfold F_event_IsName; rw [isName_eq s hs]; rfl
end Go.Lf
namespace Go.Lf
theorem reserved_eq (s : Str) : F_ref6_Reserved s = some (isW s) := by
  unfold F_ref6_Reserved F_ref6_words
  simp only [yE, zL, joinO_eq]
  change F_ref6_Reserved_L1 s kws (fun _ => some false) 0 = _
  unfold F_ref6_Reserved_L1
  rw [wE kws (fun _ x => if decide (x = s) = true then some (some true) else none) (some false) (by decide)]
  · rw [findO_any (fun _ x => decide (x = s))]
    have e : anyI (fun _ x => decide (x = s)) kws 0 = isW s := by
      rw [Bool.eq_iff_iff, anyI_iff]
      unfold isW
      simp only [decide_eq_true_eq]
      constructor
      · rintro ⟨j, x, h, rfl⟩; exact List.mem_of_getElem? h
      · intro h; obtain ⟨j, hj⟩ := List.getElem?_of_mem h; exact ⟨j, s, hj, rfl⟩
    rw [e]; cases isW s <;> rfl
  · intro kk i c hc hi
    simp only [yE]
    rw [xP hi, yP, wC hc, zL]
    cases decide (c = s)
    · simp only [yS]; rw [wrap1 hi (by decide)]; rfl
    · rfl
  · intro kk; simp only [yE]; rw [xQ]; rfl
def badR : Nat → UInt8 → Bool := fun i c => !((decide (97 ≤ (c.toNat : Int)) && decide ((c.toNat : Int) ≤ 122)) || (decide (0 < (i : Int)) && ((decide (48 ≤ (c.toNat : Int)) && decide ((c.toNat : Int) ≤ 57)) || decide ((c.toNat : Int) = 45))))
theorem rIsName_L1 (s : Str) (hs : okS s) (k : Unit → Option Bool) : F_ref6_IsName_L1 s k 0 = if anyI badR s 0 = true then some false else k () := by
  unfold F_ref6_IsName_L1
  rw [wE s (fun i c => if badR i c = true then some (some false) else none) (k ()) hs]
  · exact findO_any badR (some false) (k ()) s 0
  · intro kk i c hc hi
    unfold badR
    simp only [yE]
    rw [xP hi, yP, byte_nat hc, zL]
    rw [wrap1 hi hs]
    cases decide (97 ≤ (c.toNat : Int)) <;> cases decide ((c.toNat : Int) ≤ 122) <;> cases decide (0 < (i : Int)) <;> cases decide (48 ≤ (c.toNat : Int)) <;> cases decide ((c.toNat : Int) ≤ 57) <;> cases decide ((c.toNat : Int) = 45) <;> rfl
  · intro kk; simp only [yE]; rw [xQ]; rfl
theorem rIsName_eq (s : Str) (hs : okS s) : F_ref6_IsName s = some (isNm s) := by
  unfold F_ref6_IsName isNm
  simp only [yE, zL, joinO_eq, rIsName_L1 s hs, reserved_eq]
  cases s with
  | nil => rfl
  | cons c l =>
    have h2 : decide (((c :: l).length : Int) ≤ 30) = decide ((c :: l).length ≤ 30) := decide_eq_decide.2 (by omega)
    have h5 : decide ((c :: l) ≠ []) = true := by simp
    have e : anyI badR l (0 + 1) = anyI badB l (0 + 1) := anyI_congr l (0 + 1) fun j x _ => by
      have : decide (0 < ((0 + 1 + j : Nat) : Int)) = true := decide_eq_true (by omega)
      unfold badR badB nmB
      rw [this]
      simp only [Bool.true_and, Bool.or_assoc]
    rw [anyI, anyI, e, h2, h5]
    have e2 : badR 0 c = !(decide (97 ≤ (c.toNat : Int)) && decide ((c.toNat : Int) ≤ 122)) := by unfold badR; simp
    have e3 : badB 0 c = !(firstOk (c :: l) || (decide (48 ≤ (c.toNat : Int)) && decide ((c.toNat : Int) ≤ 57)) || decide ((c.toNat : Int) = 45)) := rfl
    have e4 : badR 0 c = !firstOk (c :: l) := e2
    rw [e3, e4]
    cases firstOk (c :: l) <;> cases anyI badB l (0 + 1) <;> cases decide ((c :: l).length ≤ 30) <;> cases isW (c :: l) <;> simp [iteB, bindO]
/-! ### Series -/
/-- What is wrong with sample i of a list. -/
def smpE (l : List Sample) (i : Nat) (x : Sample) : Int :=
  if !(decide (0 ≤ x.At) && decide (x.At ≤ 1099511627776)) || !(decide (-1125899906842624 ≤ x.N) && decide (x.N ≤ 1125899906842624)) || !(decide (0 ≤ x.Mark) && decide (x.Mark ≤ 4)) then 9
  else if decide (x.N ≠ 0) && decide (x.Mark ≤ 1) then 2
  else match i with
    | 0 => 0
    | j + 1 => match l[j]? with
      | some y => if decide (x.At ≤ y.At) then 10 else 0
      | none => 0
def serF (l : List Sample) (fin : Option (Int × Int)) : Option (Int × Int) := findO (fun i x => if smpE l i x = 0 then none else some (some ((i : Int), smpE l i x))) fin l 0
theorem prev_get {l : List Sample} {i : Nat} (hi : i < l.length) (hl : l.length ≤ 9223372036854775807) (h0 : 0 < i) : ∃ y, l[i - 1]? = some y ∧ at' l (IntKind.i64.wrap ((i : Int) - 1)) = some y := by
  have h1 : i - 1 < l.length := by omega
  refine ⟨l[i - 1], List.getElem?_eq_getElem h1, ?_⟩
  rw [Go.OB.wrap_i64 (by omega) (by omega), show (i : Int) - 1 = ((i - 1 : Nat) : Int) by omega]
  exact wC (List.getElem?_eq_getElem h1)
theorem check_L1 (s : Series) (hs : s.Samples.length ≤ 9223372036854775807) (k : Unit → Option (Int × Int)) : F_series_check_L1 s k (s.Samples.length : Int) 0 = serF s.Samples (k ()) := by
  unfold F_series_check_L1 serF
  refine wE s.Samples _ (k ()) hs ?_ ?_
  · intro kk i x hx hi
    simp only [yE, swithin, zL]
    rw [xP hi, yP, wC hx, zL, wrap1 hi hs]
    unfold smpE
    cases decide (0 ≤ x.At) <;> cases decide (x.At ≤ 1099511627776) <;> simp only [Bool.and_true, Bool.and_false, Bool.true_and, Bool.false_and, Bool.not_true, Bool.not_false, Bool.true_or, Bool.false_or, yP, yS, zL, if_true, Bool.false_eq_true, if_false] <;> try rfl
    cases decide (-1125899906842624 ≤ x.N) <;> cases decide (x.N ≤ 1125899906842624) <;> simp only [Bool.and_true, Bool.and_false, Bool.true_and, Bool.false_and, Bool.not_true, Bool.not_false, Bool.true_or, Bool.false_or, yP, yS, zL, if_true, Bool.false_eq_true, if_false] <;> try rfl
    cases decide (0 ≤ x.Mark) <;> cases decide (x.Mark ≤ 4) <;> simp only [Bool.and_true, Bool.and_false, Bool.true_and, Bool.false_and, Bool.not_true, Bool.not_false, Bool.true_or, Bool.false_or, yP, yS, zL, if_true, Bool.false_eq_true, if_false] <;> try rfl
    cases decide (x.N ≠ 0) <;> cases decide (x.Mark ≤ 1) <;> simp only [Bool.and_true, Bool.and_false, Bool.true_and, Bool.false_and, Bool.not_true, Bool.not_false, Bool.true_or, Bool.false_or, yP, yS, zL, if_true, Bool.false_eq_true, if_false] <;> try rfl
    all_goals
      cases i with
      | zero => rfl
      | succ j =>
        obtain ⟨y, h1, h2⟩ := prev_get hi hs (by omega)
        have h3 : decide (0 < ((j + 1 : Nat) : Int)) = true := decide_eq_true (by omega)
        rw [h2, h3]
        simp only [Nat.add_sub_cancel] at h1
        simp only [yP, zL, h1]
        cases decide (x.At ≤ y.At) <;> rfl
  · intro kk; simp only [yE]; rw [xQ]; rfl
theorem not_out (a b c : Int) : (decide (a < b) || decide (c < a)) = !(decide (b ≤ a) && decide (a ≤ c)) := by
  by_cases h1 : b ≤ a <;> by_cases h2 : a ≤ c <;> simp [h1, h2] <;> omega
theorem sampleFault_eq (x : Sample) : F_ref5_sampleFault x = some (if !(decide (0 ≤ x.At) && decide (x.At ≤ 1099511627776)) || !(decide (-1125899906842624 ≤ x.N) && decide (x.N ≤ 1125899906842624)) || !(decide (0 ≤ x.Mark) && decide (x.Mark ≤ 4)) then 9
    else if decide (x.N ≠ 0) && decide (x.Mark ≤ 1) then 2 else 0) := by
  unfold F_ref5_sampleFault F_ref5_numbered
  simp only [yE, zL, out5, not_out, iteB_or2, iteB_and]
  have h : (!decide (2 ≤ x.Mark)) = decide (x.Mark ≤ 1) := by rw [← decide_not]; exact decide_eq_decide.2 (by omega)
  rw [h]
  cases (!(decide (0 ≤ x.At) && decide (x.At ≤ 1099511627776))) <;> cases (!(decide (-1125899906842624 ≤ x.N) && decide (x.N ≤ 1125899906842624))) <;> cases (!(decide (0 ≤ x.Mark) && decide (x.Mark ≤ 4))) <;> cases decide (x.N ≠ 0) <;> cases decide (x.Mark ≤ 1) <;> rfl
theorem fault_L1 (s : Series) (hs : s.Samples.length ≤ 9223372036854775807) (k : Unit → Option (Int × Int)) : F_ref5_fault_L1 s k 0 = serF s.Samples (k ()) := by
  unfold F_ref5_fault_L1 serF
  refine wE s.Samples _ (k ()) hs ?_ ?_
  · intro kk i x hx hi
    simp only [yE, sampleFault_eq, zL]
    rw [xP hi, yP, wC hx, zL, wrap1 hi hs]
    unfold smpE
    cases (!(decide (0 ≤ x.At) && decide (x.At ≤ 1099511627776)) || !(decide (-1125899906842624 ≤ x.N) && decide (x.N ≤ 1125899906842624)) || !(decide (0 ≤ x.Mark) && decide (x.Mark ≤ 4)))
    · cases (decide (x.N ≠ 0) && decide (x.Mark ≤ 1))
      · cases i with
        | zero => rfl
        | succ j =>
          obtain ⟨y, h1, h2⟩ := prev_get hi hs (by omega)
          have h3 : decide (0 < ((j + 1 : Nat) : Int)) = true := decide_eq_true (by omega)
          rw [h2, h3]
          simp only [Nat.add_sub_cancel] at h1
          simp only [yP, zL, h1, Bool.false_eq_true, if_false]
          cases decide (x.At ≤ y.At) <;> rfl
      · rfl
    · rfl
  · intro kk; simp only [yE]; rw [xQ]; rfl
/-- The error of a series. -/
def serE (s : Series) : Option (Int × Int) := if !(decide (1 ≤ s.Den) && decide (s.Den ≤ 1000000)) then some (-1, 9) else if decide (20000 < (s.Samples.length : Int)) then some (-1, 3) else serF s.Samples (some (-1, 0))
theorem check_eq (s : Series) (hs : s.Samples.length ≤ 9223372036854775807) : F_series_check s = serE s := by
  unfold F_series_check serE
  simp only [yE, zL, swithin, joinO_eq, check_L1 s hs, iteB_ite]
theorem fault_eq (s : Series) (hs : s.Samples.length ≤ 9223372036854775807) : F_ref5_fault s = serE s := by
  unfold F_ref5_fault serE
  simp only [yE, zL, out5, not_out, joinO_eq, fault_L1 s hs, iteB_ite]
theorem findO_some {α β : Type} {q : Nat → α → Option (Option β)} {fin : Option β} (hf : ∃ r, fin = some r) (hq : ∀ i x r, q i x = some r → ∃ y, r = some y) : ∀ (l : List α) (i : Nat), ∃ r, findO q fin l i = some r
  | [], i => hf
  | x :: l, i => by
    rw [findO]
    cases h : q i x with
    | none => exact findO_some hf hq l (i + 1)
    | some r => exact hq i x r h
theorem ite_some {β : Type} {p : Prop} [Decidable p] {y : β} {r : Option β} (h : (if p then none else some (some y)) = some r) : ∃ z, r = some z := by
  split at h
  · cases h
  · cases h; exact ⟨_, rfl⟩
theorem serE_some (s : Series) : ∃ r, serE s = some r := by
  unfold serE serF
  split
  · exact ⟨_, rfl⟩
  · split
    · exact ⟨_, rfl⟩
    · exact findO_some ⟨_, rfl⟩ (fun i x r h => ite_some h) _ _
def serC (s : Series) : Int := ((serE s).getD (0, 0)).2
theorem sCheck_eq (s : Series) (hs : s.Samples.length ≤ 9223372036854775807) : F_series_Check s = some (serC s) := by
  obtain ⟨r, hr⟩ := serE_some s
  unfold F_series_Check serC; rw [check_eq s hs, hr]; rfl
theorem rCheck_eq (s : Series) (hs : s.Samples.length ≤ 9223372036854775807) : F_ref5_Check s = some (serC s) := by
  obtain ⟨r, hr⟩ := serE_some s
  unfold F_ref5_Check serC; rw [fault_eq s hs, hr]; rfl
end Go.Lf
namespace Go.Lf
theorem idx_any {α : Type} (p : Nat → α → Bool) : ∀ (l : List α) (i : Nat), ∃ n, findO (fun i x => if p i x = true then some (some (i : Int)) else none) (some (-1)) l i = some n ∧ decide (0 ≤ n) = anyI p l i
  | [], i => ⟨-1, rfl, rfl⟩
  | x :: l, i => by
    rw [findO, anyI]
    cases h : p i x with
    | true => exact ⟨i, rfl, by simp⟩
    | false => simpa using idx_any p l (i + 1)
theorem contT_eq (l : List Track) (c : Track) (hl : l.length ≤ 9223372036854775807) : F_slices_ContainsFunc___api_Track_api_Track__event_CheckTracks_1 l c = some (anyI (fun _ y => decide (y.Name = c.Name)) l 0) := by
  obtain ⟨n, h1, h2⟩ := idx_any (fun (_ : Nat) (y : Track) => decide (y.Name = c.Name)) l 0
  have e : F_slices_IndexFunc___api_Track_api_Track__event_CheckTracks_1 l c = some n := by
    unfold F_slices_IndexFunc___api_Track_api_Track__event_CheckTracks_1
    simp only [yE, joinO_eq]
    unfold F_slices_IndexFunc___api_Track_api_Track__event_CheckTracks_1_L1
    rw [← h1]
    refine wE l _ _ hl ?_ ?_
    · intro kk i x hx hi
      unfold F_event_CheckTracks_1
      simp only [yE, zL]
      rw [xP hi, yP, wC hx, zL, wrap1 hi hl]
      cases decide (x.Name = c.Name) <;> rfl
    · intro kk; simp only [yE]; rw [xQ]; rfl
  unfold F_slices_ContainsFunc___api_Track_api_Track__event_CheckTracks_1
  rw [e]
  simp only [yE, zL, h2]
/-- What is wrong with track i of a list. -/
def trkE (l : List Track) (i : Nat) (x : Track) : Int :=
  if !isNm x.Name then 8 else if anyI (fun _ y => decide (y.Name = x.Name)) (l.take i) 0 then 5
  else if serC x.Series ≠ 0 then serC x.Series else if !(decide (0 ≤ x.Long) && decide (x.Long ≤ 1099511627776)) then 9 else 0
def trkF (l : List Track) : Option Int := if decide (50 < (l.length : Int)) then some 3 else findO (fun i x => if trkE l i x = 0 then none else some (some (trkE l i x))) (some 0) l 0
theorem okTrack_of {l : List Track} (h : okL okTrack l) {i : Nat} {x : Track} (hx : l[i]? = some x) : okS x.Name ∧ x.Series.Samples.length ≤ 9223372036854775807 := by
  have := h.2 x (List.mem_of_getElem? hx)
  exact ⟨this.1, this.2.1.2.1⟩
theorem CheckTracks_eq (l : List Track) (h : okL okTrack l) : F_event_CheckTracks l = trkF l := by
  unfold F_event_CheckTracks trkF
  simp only [yE, joinO_eq, iteB_ite]
  congr 1
  unfold F_event_CheckTracks_L1
  refine wE l _ _ h.1 ?_ ?_
  · intro kk i x hx hi
    obtain ⟨o1, o2⟩ := okTrack_of h hx
    simp only [yE]
    rw [xP hi, yP, wC hx, zL, isName_eq _ o1, zL, sub_nat l (by omega), wrap1 hi h.1]
    simp only [zL, contT_eq (l.take i) x (by have := h.1; simp; omega), sCheck_eq _ o2, ewithin]
    unfold trkE
    cases isNm x.Name
    · rfl
    · cases anyI (fun _ y => decide (y.Name = x.Name)) (l.take i) 0
      · simp only [Bool.not_true, yS, Bool.false_eq_true, if_false, iteB_dec, iteB_ite]
        by_cases hz : serC x.Series = 0
        · cases (decide (0 ≤ x.Long) && decide (x.Long ≤ 1099511627776)) <;> simp [hz]
        · simp [hz]
      · rfl
  · intro kk; simp only [yE]; rw [xQ]; rfl
theorem rTracks_L2 (l : List Track) (hl : l.length ≤ 9223372036854775807) {i : Nat} {x : Track} (hx : l[i]? = some x) (k : Unit → Option Int) : F_ref6_CheckTracks_L2 l (i : Int) k 0 = if anyI (fun _ y => decide (y.Name = x.Name)) (l.take i) 0 = true then some 5 else k () := by
  have hi := (List.getElem?_eq_some_iff.1 hx).1
  have ht : (l.take i).length = i := by rw [List.length_take]; exact Nat.min_eq_left (Nat.le_of_lt hi)
  have hm : (l.take i).length ≤ 9223372036854775807 := by rw [ht]; exact Nat.le_trans (Nat.le_of_lt hi) hl
  have e := findO_any (fun _ y => decide (y.Name = x.Name)) (some 5) (k ()) (l.take i) 0
  rw [← e]
  unfold F_ref6_CheckTracks_L2
  refine wE (l.take i) _ (k ()) hm ?_ ?_
  · intro kk j y hy hj
    rw [ht] at hj
    have hy' : l[j]? = some y := by rw [List.getElem?_take, if_pos hj] at hy; exact hy
    simp only [yE]
    rw [xP hj, yP, wC hy', zL, wC hx, zL, wrap1 (n := l.length) (Nat.lt_trans hj hi) hl]
    cases decide (y.Name = x.Name)
    · rfl
    · rfl
  · intro kk
    rw [ht]
    simp only [yE, xQ, yS]
theorem rCheckTracks_eq (l : List Track) (h : okL okTrack l) : F_ref6_CheckTracks l = trkF l := by
  unfold F_ref6_CheckTracks trkF
  simp only [yE, joinO_eq, iteB_ite]
  congr 1
  unfold F_ref6_CheckTracks_L1
  refine wE l _ _ h.1 ?_ ?_
  · intro kk i x hx hi
    obtain ⟨o1, o2⟩ := okTrack_of h hx
    simp only [yE, joinO_eq]
    rw [xP hi, yP, wC hx, zL, rIsName_eq _ o1, zL, rTracks_L2 l h.1 hx, wrap1 hi h.1]
    simp only [zL, rCheck_eq _ o2, out6, not_out]
    unfold trkE
    cases isNm x.Name
    · rfl
    · cases anyI (fun _ y => decide (y.Name = x.Name)) (l.take i) 0
      · simp only [Bool.not_true, yS, Bool.false_eq_true, if_false, iteB_dec, iteB_ite]
        by_cases hz : serC x.Series = 0
        · cases (decide (0 ≤ x.Long) && decide (x.Long ≤ 1099511627776)) <;> simp [hz]
        · simp [hz]
      · rfl
  · intro kk; simp only [yE]; rw [xQ]; rfl
theorem trkF_some (l : List Track) : ∃ r, trkF l = some r := by
  unfold trkF
  split
  · exact ⟨_, rfl⟩
  · exact findO_some ⟨_, rfl⟩ (fun i x r h => ite_some h) _ _
end Go.Lf
namespace Go.Lf
def trkC (l : List Track) : Int := (trkF l).getD 0
theorem trkF_eq (l : List Track) : trkF l = some (trkC l) := by obtain ⟨r, h⟩ := trkF_some l; unfold trkC; rw [h]; rfl
/-- The error of a flight. -/
def fltC (f : Flight) : Int :=
  if (decide (f.Tail ≠ []) && !isNm f.Tail) || !isNm f.Route then 8
  else if !(decide (0 ≤ f.Day) && decide (f.Day ≤ 1000000)) || decide (f.From < 0) || decide (f.To < f.From) || decide (4194304 ≤ f.To) then 9
  else if decide (20000 < IntKind.i64.wrap (IntKind.i64.wrap (f.To - f.From) + 1)) || decide (30 < (f.Tracks.length : Int)) then 3
  else trkC f.Tracks
theorem CheckFlight_eq (f : Flight) (h : okFlight f) : F_fleet_CheckFlight f = some (fltC f) := by
  unfold F_fleet_CheckFlight fltC
  simp only [yE, IsName_eq _ h.1, IsName_eq _ h.2.1, fwithin, CheckTracks_eq _ h.2.2.2.2.2, trkF_eq, zL, iteB_or2]
  cases decide (f.Tail ≠ []) <;> cases isNm f.Tail <;> cases isNm f.Route <;> simp only [yP, yS, zL, Bool.not_true, Bool.not_false, Bool.and_true, Bool.and_false, Bool.or_true, Bool.or_false, if_true, Bool.false_eq_true, if_false, iteB_ite, Bool.or_assoc] <;> (repeat' split) <;> rfl
theorem rCheckFlight_eq (f : Flight) (h : okFlight f) : F_ref9_CheckFlight f = some (fltC f) := by
  have e : decide (4194303 < f.To) = decide (4194304 ≤ f.To) := decide_eq_decide.2 (by omega)
  unfold F_ref9_CheckFlight fltC
  simp only [yE, rIsName_eq _ h.1, rIsName_eq _ h.2.1, out9, not_out, rCheckTracks_eq _ h.2.2.2.2.2, trkF_eq, zL, iteB_or2, e]
  cases decide (f.Tail ≠ []) <;> cases isNm f.Tail <;> cases isNm f.Route <;> simp only [yP, yS, zL, Bool.not_true, Bool.not_false, Bool.and_true, Bool.and_false, Bool.or_true, Bool.or_false, if_true, Bool.false_eq_true, if_false, iteB_ite, Bool.or_assoc] <;> (repeat' split) <;> rfl
/-- What holds of a flight without fault. -/
structure Good (f : Flight) : Prop where
  tail : f.Tail = [] ∨ isNm f.Tail = true
  route : isNm f.Route = true
  day : 0 ≤ f.Day ∧ f.Day ≤ 1000000
  frm : 0 ≤ f.From ∧ f.From ≤ f.To ∧ f.To < 4194304
  span : f.To - f.From + 1 ≤ 20000
  many : f.Tracks.length ≤ 30
  trk : trkC f.Tracks = 0
theorem good_of {f : Flight} (h : fltC f = 0) : Good f := by
  unfold fltC at h
  split at h
  · cases h
  · split at h
    · cases h
    · split at h
      · cases h
      · rename_i h1 h2 h3
        simp only [Bool.or_eq_true, Bool.and_eq_true, Bool.not_eq_true', decide_eq_true_eq, not_or, not_and, Bool.not_eq_false, Bool.and_eq_false_iff, decide_eq_false_iff_not] at h1 h2 h3
        obtain ⟨⟨⟨h4, h5⟩, h6⟩, h7⟩ := h2
        have h5 : 0 ≤ f.From := by omega
        have w1 : IntKind.i64.wrap (f.To - f.From) = f.To - f.From := Go.OB.wrap_i64 (by omega) (by omega)
        rw [w1, Go.OB.wrap_i64 (by omega) (by omega)] at h3
        refine ⟨?_, h1.2, ⟨by omega, by omega⟩, ⟨by omega, by omega, by omega⟩, by omega, by omega, h⟩
        by_cases ht : f.Tail = []
        · exact .inl ht
        · exact .inr (h1.1 ht)
/-! ### Tracks of a flight -/
end Go.Lf
namespace Go.Lf
theorem findO_zero {α : Type} (e : Nat → α → Int) : ∀ (l : List α) (i : Nat), findO (fun i x => if e i x = 0 then none else some (some (e i x))) (some 0) l i = some 0 ↔ ∀ j x, l[j]? = some x → e (i + j) x = 0
  | [], i => by simp [findO]
  | x :: l, i => by
    rw [findO]
    by_cases h : e i x = 0
    · rw [if_pos h]
      refine (findO_zero e l (i + 1)).trans ?_
      constructor
      · intro q j y hy
        cases j with
        | zero => simp at hy; subst hy; simpa using h
        | succ j => have := q j y (by simpa using hy); rwa [show i + (j + 1) = i + 1 + j by omega]
      · intro q j y hy; have := q (j + 1) y (by simpa using hy); rwa [show i + (j + 1) = i + 1 + j by omega] at this
    · rw [if_neg h]
      constructor
      · intro q; exact absurd (Option.some.inj q) h
      · intro q; exact absurd (by simpa using q 0 x rfl) h
theorem trk_iff (l : List Track) : trkC l = 0 ↔ l.length ≤ 50 ∧ ∀ i x, l[i]? = some x → trkE l i x = 0 := by
  have e := trkF_eq l
  unfold trkF at e
  split at e
  · rename_i h
    simp only [decide_eq_true_eq] at h
    have := Option.some.inj e
    constructor
    · intro h0; omega
    · intro h0; omega
  · rename_i h
    simp only [decide_eq_true_eq] at h
    have f := findO_zero (trkE l) l 0
    simp only [Nat.zero_add] at f
    rw [e] at f
    constructor
    · intro h0; exact ⟨by omega, f.1 (by rw [h0])⟩
    · rintro ⟨_, h0⟩; exact Option.some.inj (f.2 h0)
theorem trkE_iff (l : List Track) (i : Nat) (x : Track) : trkE l i x = 0 ↔ isNm x.Name = true ∧ anyI (fun _ y => decide (y.Name = x.Name)) (l.take i) 0 = false ∧ serC x.Series = 0 ∧ 0 ≤ x.Long ∧ x.Long ≤ 1099511627776 := by
  unfold trkE
  cases isNm x.Name
  · simp
  · cases anyI (fun _ y => decide (y.Name = x.Name)) (l.take i) 0
    · by_cases hz : serC x.Series = 0
      · simp [hz]
      · simp [hz]
    · simp
theorem findO_one (e : Nat → Sample → Int) : ∀ (l : List Sample) (i : Nat) (r : Int × Int), findO (fun i x => if e i x = 0 then none else some (some ((i : Int), e i x))) (some (-1, 0)) l i = some r → (r.2 = 0 ↔ ∀ j x, l[j]? = some x → e (i + j) x = 0)
  | [], i, r, h => by cases h; simp
  | x :: l, i, r, h => by
    rw [findO] at h
    by_cases hz : e i x = 0
    · rw [if_pos hz] at h
      refine (findO_one e l (i + 1) r h).trans ?_
      constructor
      · intro q j y hy
        cases j with
        | zero => simp at hy; subst hy; simpa using hz
        | succ j => have := q j y (by simpa using hy); rwa [show i + (j + 1) = i + 1 + j by omega]
      · intro q j y hy; have := q (j + 1) y (by simpa using hy); rwa [show i + (j + 1) = i + 1 + j by omega] at this
    · rw [if_neg hz] at h
      have hr := Option.some.inj h
      subst hr
      constructor
      · intro q; exact absurd q hz
      · intro q; exact absurd (by simpa using q 0 x rfl) hz
theorem ser_iff (s : Series) : serC s = 0 ↔ (1 ≤ s.Den ∧ s.Den ≤ 1000000) ∧ s.Samples.length ≤ 20000 ∧ ∀ i x, s.Samples[i]? = some x → smpE s.Samples i x = 0 := by
  obtain ⟨r, hr⟩ := serE_some s
  have e : serC s = r.2 := by unfold serC; rw [hr]; rfl
  rw [e]
  unfold serE at hr
  split at hr
  · rename_i h
    cases hr
    simp only [Bool.not_eq_true', Bool.and_eq_false_iff, decide_eq_false_iff_not] at h
    constructor
    · intro h0; cases h0
    · rintro ⟨h1, _⟩; omega
  · rename_i h
    simp only [Bool.not_eq_true', Bool.and_eq_false_iff, decide_eq_false_iff_not] at h
    split at hr
    · rename_i h2
      simp only [decide_eq_true_eq] at h2
      cases hr
      constructor
      · intro h0; cases h0
      · rintro ⟨_, h1, _⟩; omega
    · rename_i h2
      simp only [decide_eq_true_eq] at h2
      have := findO_one (smpE s.Samples) s.Samples 0 r hr
      simp only [Nat.zero_add] at this
      rw [this]
      constructor
      · intro q; exact ⟨by omega, by omega, q⟩
      · intro q; exact q.2.2
/-- Names of a good list of tracks differ. -/
theorem names_ne {l : List Track} (h : trkC l = 0) {i j : Nat} {x y : Track} (hx : l[i]? = some x) (hy : l[j]? = some y) (hij : i < j) : x.Name ≠ y.Name := by
  have := ((trkE_iff l j y).1 (((trk_iff l).1 h).2 j y hy)).2.1
  intro e
  have t : anyI (fun _ z => decide (z.Name = y.Name)) (l.take j) 0 = true := (anyI_iff _ _ _).2 ⟨i, x, by rw [List.getElem?_take, if_pos hij]; exact hx, by simpa using e⟩
  rw [this] at t; cases t
theorem names_pw {l : List Track} (h : trkC l = 0) : l.Pairwise fun a b => a.Name ≠ b.Name := by
  rw [List.pairwise_iff_getElem]
  intro i j hi hj hij
  exact names_ne h (List.getElem?_eq_getElem hi) (List.getElem?_eq_getElem hj) hij
end Go.Lf
namespace Go.Lf
def okMask (x : Mask) : Prop := True ∧ i64 x.Days ∧ okL (fun x => okS x) x.Hide ∧ okL (fun x => okGrain x) x.Grains ∧ i64 x.Least
/-- What is wrong with name i of a list. -/
def namE (l : List Str) (i : Nat) (x : Str) : Int := if !isNm x then 8 else if anyI (fun _ y => decide (x = y)) (l.take i) 0 then 5 else 0
def namF (l : List Str) (fin : Option Int) : Option Int := findO (fun i x => if namE l i x = 0 then none else some (some (namE l i x))) fin l 0
theorem contS_eq (l : List Str) (c : Str) (hl : l.length ≤ 9223372036854775807) : F_slices_Contains___string_string_ l c = some (anyI (fun _ y => decide (c = y)) l 0) := by
  obtain ⟨n, h1, h2⟩ := idx_any (fun (_ : Nat) (y : Str) => decide (c = y)) l 0
  have e : F_slices_Index___string_string_ l c = some n := by
    unfold F_slices_Index___string_string_
    simp only [yE, joinO_eq]
    unfold F_slices_Index___string_string__L1
    rw [← h1]
    refine wE l _ _ hl ?_ ?_
    · intro kk i x hx hi
      simp only [yE]
      rw [xP hi, yP, wC hx, zL, wrap1 hi hl]
      cases decide (c = x) <;> rfl
    · intro kk; simp only [yE]; rw [xQ]; rfl
  unfold F_slices_Contains___string_string_
  rw [e]
  simp only [yE, zL, h2]
theorem checkNames_eq (l : List Str) (h : okL okS l) : F_fleet_checkNames l = if decide (30 < (l.length : Int)) = true then some 3 else namF l (some 0) := by
  unfold F_fleet_checkNames namF
  simp only [yE, joinO_eq, iteB_ite]
  congr 1
  unfold F_fleet_checkNames_L1
  refine wE l _ _ h.1 ?_ ?_
  · intro kk i x hx hi
    have o1 := h.2 x (List.mem_of_getElem? hx)
    simp only [yE]
    rw [xP hi, yP, wC hx, zL, IsName_eq _ o1, zL, sub_nat l (by omega), wrap1 hi h.1]
    simp only [zL, contS_eq (l.take i) x (by have := h.1; simp; omega)]
    unfold namE
    cases isNm x
    · rfl
    · cases anyI (fun _ y => decide (x = y)) (l.take i) 0 <;> rfl
  · intro kk; simp only [yE]; rw [xQ]; rfl
theorem contG_eq (l : List Grain) (c : Grain) (hl : l.length ≤ 9223372036854775807) : F_slices_ContainsFunc___api_Grain_api_Grain__fleet_CheckMask_1 l c = some (anyI (fun _ y => decide (y.Track = c.Track)) l 0) := by
  obtain ⟨n, h1, h2⟩ := idx_any (fun (_ : Nat) (y : Grain) => decide (y.Track = c.Track)) l 0
  have e : F_slices_IndexFunc___api_Grain_api_Grain__fleet_CheckMask_1 l c = some n := by
    unfold F_slices_IndexFunc___api_Grain_api_Grain__fleet_CheckMask_1
    simp only [yE, joinO_eq]
    unfold F_slices_IndexFunc___api_Grain_api_Grain__fleet_CheckMask_1_L1
    rw [← h1]
    refine wE l _ _ hl ?_ ?_
    · intro kk i x hx hi
      unfold F_fleet_CheckMask_1
      simp only [yE, zL]
      rw [xP hi, yP, wC hx, zL, wrap1 hi hl]
      cases decide (x.Track = c.Track) <;> rfl
    · intro kk; simp only [yE]; rw [xQ]; rfl
  unfold F_slices_ContainsFunc___api_Grain_api_Grain__fleet_CheckMask_1
  rw [e]
  simp only [yE, zL, h2]
/-- What is wrong with grain i of a mask. -/
def graE (l : List Grain) (i : Nat) (x : Grain) : Int :=
  if !isNm x.Track then 8 else if anyI (fun _ y => decide (y.Track = x.Track)) (l.take i) 0 then 5 else if !(decide (1 ≤ x.N) && decide (x.N ≤ 1125899906842624)) then 9 else 0
def graF (l : List Grain) (fin : Option Int) : Option Int := findO (fun i x => if graE l i x = 0 then none else some (some (graE l i x))) fin l 0
def lstE (m : Mask) : Option Int := if !(decide (1 ≤ m.Least) && decide (m.Least ≤ 1000)) then some 9 else some 0
/-- The error of a mask, past its names. -/
def mskG (m : Mask) : Option Int := if decide (30 < (m.Grains.length : Int)) = true then some 3 else graF m.Grains (lstE m)
def mskE (m : Mask) : Option Int :=
  if !(decide (1 ≤ m.Days) && decide (m.Days ≤ 1000000)) then some 9 else if decide (30 < (m.Hide.length : Int)) = true then some 3 else namF m.Hide (mskG m)
theorem findO_fin (e : Nat → Str → Int) : ∀ (l : List Str) (i : Nat) (fin : Option Int), findO (fun i x => if e i x = 0 then none else some (some (e i x))) fin l i =
    bindO (findO (fun i x => if e i x = 0 then none else some (some (e i x))) (some 0) l i) fun r => if r = 0 then fin else some r
  | [], i, fin => by simp [findO, zL]
  | x :: l, i, fin => by
    rw [findO, findO]
    by_cases h : e i x = 0
    · simp only [h, if_true]; exact findO_fin e l (i + 1) fin
    · simp only [h, if_false, zL]
theorem CheckMask_eq (m : Mask) (h : okMask m) : F_fleet_CheckMask m = mskE m := by
  unfold F_fleet_CheckMask mskE
  simp only [yE, joinO_eq, fwithin, zL, checkNames_eq _ h.2.2.1]
  have g : F_fleet_CheckMask_L1 m (fun _ => iteB (!(decide (1 ≤ m.Least) && decide (m.Least ≤ 1000))) (some 9) (some 0)) (m.Grains.length : Int) 0 = graF m.Grains (lstE m) := by
    unfold F_fleet_CheckMask_L1 graF
    refine wE m.Grains _ _ h.2.2.2.1.1 ?_ ?_
    · intro kk i x hx hi
      have o1 := (h.2.2.2.1.2 x (List.mem_of_getElem? hx)).1
      simp only [yE]
      rw [xP hi, yP, wC hx, zL, IsName_eq _ o1, zL, sub_nat m.Grains (by omega), wrap1 hi h.2.2.2.1.1]
      simp only [zL, contG_eq (m.Grains.take i) x (by have := h.2.2.2.1.1; simp; omega), fwithin]
      unfold graE
      cases isNm x.Track
      · rfl
      · cases anyI (fun _ y => decide (y.Track = x.Track)) (m.Grains.take i) 0
        · cases (decide (1 ≤ x.N) && decide (x.N ≤ 1125899906842624)) <;> rfl
        · rfl
    · intro kk; simp only [yE]; rw [xQ, yS]; unfold lstE; rw [iteB_ite]
  rw [g]
  simp only [iteB_ite]
  congr 1
  by_cases c : decide (30 < (m.Hide.length : Int)) = true
  · rw [if_pos c, if_pos c]; simp [zL]
  · rw [if_neg c, if_neg c]
    unfold namF
    rw [findO_fin _ _ _ (mskG m)]
    congr 1
    funext r
    by_cases hr : r = 0
    · simp [hr, mskG]
    · simp [hr]
theorem twice_eq (l : List Str) (hl : l.length ≤ 9223372036854775807) {i : Nat} {x : Str} (hx : l[i]? = some x) : F_ref9_twice l (i : Int) = some (anyI (fun _ y => decide (x = y)) (l.take i) 0) := by
  have hi := (List.getElem?_eq_some_iff.1 hx).1
  have ht : (l.take i).length = i := by rw [List.length_take]; exact Nat.min_eq_left (Nat.le_of_lt hi)
  have hm : (l.take i).length ≤ 9223372036854775807 := by rw [ht]; exact Nat.le_trans (Nat.le_of_lt hi) hl
  have e := findO_any (fun _ y => decide (x = y)) (some true) (some false) (l.take i) 0
  unfold F_ref9_twice
  rw [joinO_eq]
  have q : F_ref9_twice_L1 l (i : Int) (fun _ => some false) 0 = findO (fun i y => if decide (x = y) = true then some (some true) else none) (some false) (l.take i) 0 := by
    unfold F_ref9_twice_L1
    refine wE (l.take i) _ (some false) hm ?_ ?_
    · intro kk j y hy hj
      rw [ht] at hj
      have hy' : l[j]? = some y := by rw [List.getElem?_take, if_pos hj] at hy; exact hy
      simp only [yE]
      rw [xP hj, yP, wC hy', zL, wC hx, zL, wrap1 (n := l.length) (Nat.lt_trans hj hi) hl, show decide (y = x) = decide (x = y) from decide_eq_decide.2 ⟨Eq.symm, Eq.symm⟩]
      cases decide (x = y)
      · rfl
      · rfl
    · intro kk
      rw [ht]
      simp only [yE, xQ, yS]
  rw [q, e]
  cases anyI (fun _ y => decide (x = y)) (l.take i) 0 <;> rfl
theorem anyI_map (x : Str) : ∀ (l : List Grain) (i : Nat), anyI (fun _ y => decide (x = y)) (l.map Grain.Track) i = anyI (fun _ y => decide (y.Track = x)) l i
  | [], _ => rfl
  | y :: l, i => by
    rw [List.map_cons, anyI, anyI, anyI_map x l (i + 1), show decide (x = y.Track) = decide (y.Track = x) from decide_eq_decide.2 ⟨Eq.symm, Eq.symm⟩]
theorem rCheckMask_eq (m : Mask) (h : okMask m) (hg : m.Grains.length ≤ 9223372036854775807) : F_ref9_CheckMask m = mskE m := by
  unfold F_ref9_CheckMask mskE
  simp only [yE, joinO_eq, out9, not_out, zL, iteB_ite]
  congr 1
  congr 1
  have g : ¬ decide (30 < (m.Grains.length : Int)) = true → F_ref9_CheckMask_L2 m (fun _ => if (!(decide (1 ≤ m.Least) && decide (m.Least ≤ 1000))) = true then some 9 else some 0) ([], 0) = graF m.Grains (lstE m) := by
    intro c30
    have c30 : m.Grains.length ≤ 30 := by simp at c30; omega
    unfold F_ref9_CheckMask_L2 graF
    rw [← runL_find (f := fun i x _ => match (if graE m.Grains i x = 0 then none else some (some (graE m.Grains i x)) : Option (Option Int)) with | some r => .inr r | none => .inl ()) (fin := fun _ => lstE m) _ (fun i x => by cases (if graE m.Grains i x = 0 then (none : Option (Option Int)) else some (some (graE m.Grains i x))) <;> rfl)]
    refine loopO_runL (fun (i : Nat) (_ : Unit) => ((m.Grains.take i).map Grain.Track, (i : Int))) m.Grains _ _ hg (fun kk i _ x hx => ?_) (fun kk _ => ?_) ()
    · have hi := (List.getElem?_eq_some_iff.1 hx).1
      have o1 := (h.2.2.2.1.2 x (List.mem_of_getElem? hx)).1
      have ht : m.Grains.take (i + 1) = m.Grains.take i ++ [x] := by rw [List.take_add_one, hx]; rfl
      have ha : app' 16 ((m.Grains.take i).map Grain.Track) [x.Track] = some ((m.Grains.take (i + 1)).map Grain.Track) := by
        unfold app'
        rw [if_pos, ht]
        · simp
        · simp [maxLen]; omega
      have hlen : ((m.Grains.take (i + 1)).map Grain.Track).length = i + 1 := by simp; omega
      have hget : ((m.Grains.take (i + 1)).map Grain.Track)[i]? = some x.Track := by
        rw [ht, List.map_append, List.getElem?_append_right (by simp; omega)]
        simp
        rw [show i - min i m.Grains.length = 0 by omega]; rfl
      have htk : ((m.Grains.take (i + 1)).map Grain.Track).take i = (m.Grains.take i).map Grain.Track := by
        rw [← List.map_take, List.take_take, Nat.min_eq_left (by omega)]
      simp only [yE]
      rw [xP hi, yP, wC hx, zL, ha, zL, wC hget, zL, rIsName_eq _ o1, zL, twice_eq _ (by omega) hget, zL, zL, htk, anyI_map, wrap1 hi hg]
      simp only [out9, not_out, zL]
      unfold graE
      cases isNm x.Track
      · rfl
      · cases anyI (fun _ y => decide (y.Track = x.Track)) (m.Grains.take i) 0
        · cases (decide (1 ≤ x.N) && decide (x.N ≤ 1125899906842624)) <;> rfl
        · rfl
    · simp only [yE, List.take_length]; rw [xQ, yS]; rfl
  have q : (if decide (30 < (m.Grains.length : Int)) = true then some 3 else F_ref9_CheckMask_L2 m (fun _ => if (!(decide (1 ≤ m.Least) && decide (m.Least ≤ 1000))) = true then some 9 else some 0) ([], 0)) = mskG m := by
    unfold mskG
    split
    · rfl
    · rename_i c; rw [g c]
  rw [q]
  unfold F_ref9_CheckMask_L1 namF
  refine wE m.Hide _ _ h.2.2.1.1 ?_ ?_
  · intro kk i x hx hi
    have o1 := h.2.2.1.2 x (List.mem_of_getElem? hx)
    simp only [yE]
    rw [xP hi, yP, wC hx, zL, rIsName_eq _ o1, zL, twice_eq _ h.2.2.1.1 hx, zL, wrap1 hi h.2.2.1.1]
    unfold namE
    cases isNm x
    · rfl
    · cases anyI (fun _ y => decide (x = y)) (m.Hide.take i) 0 <;> rfl
  · intro kk; simp only [yE]; rw [xQ]; rfl
end Go.Lf
namespace Go.Lf
/-- A number's grain. -/
def co (n N : Int) : Int := max (N - N % n) (-1125899906842624)
theorem tm_neg (N n : Int) (hn : 1 ≤ n) : (if N.tmod n < 0 then N.tmod n + n else N.tmod n) = N % n := by
  have h1 := Int.emod_nonneg N (b := n) (by omega)
  have h2 := Int.emod_lt_of_pos N (b := n) (by omega)
  rw [Int.tmod_eq_emod]
  have e : (n.natAbs : Int) = n := Int.natAbs_of_nonneg (by omega)
  by_cases h : 0 ≤ N ∨ n ∣ N
  · rw [if_pos h]; split <;> omega
  · rw [if_neg h]
    have : N % n ≠ 0 := by
      intro q; exact h (.inr (Int.dvd_of_emod_eq_zero q))
    split <;> omega
theorem coarse_eq (N n : Int) (hN : -1125899906842624 ≤ N ∧ N ≤ 1125899906842624) (hn : 1 ≤ n ∧ n ≤ 1125899906842624) : F_fleet_coarse N n = some (co n N) := by
  have h1 := Int.emod_nonneg N (b := n) (by omega)
  have h2 := Int.emod_lt_of_pos N (b := n) (by omega)
  have t := tm_neg N n hn.1
  unfold F_fleet_coarse rem' co
  rw [if_neg (by omega), zL]
  simp only [yE, iteB_dec]
  have hr : (if N.tmod n < 0 then some (IntKind.i64.wrap (N.tmod n + n)) else some (N.tmod n)) = some (N % n) := by
    by_cases c : N.tmod n < 0
    · rw [if_pos c] at t ⊢
      rw [Go.OB.wrap_i64 (by omega) (by omega), t]
    · rw [if_neg c] at t ⊢
      rw [t]
  rw [hr, zL, Go.OB.wrap_i64 (by omega) (by omega)]
theorem co_rng {n N : Int} (hN : -1125899906842624 ≤ N ∧ N ≤ 1125899906842624) (hn : 1 ≤ n) : -1125899906842624 ≤ co n N ∧ co n N ≤ 1125899906842624 := by
  have h1 := Int.emod_nonneg N (b := n) (by omega)
  unfold co; omega
/-- A sample under a grain. -/
def cs (n : Int) (x : Sample) : Sample := if decide (2 ≤ x.Mark) then ⟨x.At, co n x.N, x.Mark⟩ else x
theorem clone_eq (l : List Sample) (h : l.length ≤ 20000) : F_slices_Clone___api_Sample_api_Sample_ l = some l := by
  have e : app' 24 ([] : List Sample) l = some l := by
    unfold app'
    rw [if_pos]
    · rfl
    · constructor
      · simp [maxLen]; omega
      · simp; omega
  unfold F_slices_Clone___api_Sample_api_Sample_ nilO
  rw [e]
  simp only [zL, yP, yS]
  cases l <;> simp

theorem masked_L3 (g : Grain) (hn : 1 ≤ g.N ∧ g.N ≤ 1125899906842624) (l : List Sample) (hl : l.length ≤ 20000) (hN : ∀ x ∈ l, -1125899906842624 ≤ x.N ∧ x.N ≤ 1125899906842624) :
    F_fleet_masked_L3 g (l.length : Int) (0, l) = some (l.map (cs g.N)) := by
  unfold F_fleet_masked_L3
  refine loopO_at (fun i => ((i : Int), (l.take i).map (cs g.N) ++ l.drop i)) l (some (l.map (cs g.N))) (by omega) ?_ ?_
  · intro kk i x hx hi
    have hlen : ((l.take i).map (cs g.N)).length = i := by simp; omega
    have hat : at' ((l.take i).map (cs g.N) ++ l.drop i) (i : Int) = some x := by
      rw [at_nat, List.getElem?_append_right (by omega), hlen, Nat.sub_self, List.getElem?_drop, Nat.add_zero, hx]
    have hd : l.drop i = x :: l.drop (i + 1) := by rw [List.drop_eq_getElem_cons hi]; congr 1; rw [List.getElem?_eq_getElem hi] at hx; exact Option.some.inj hx
    have ht : l.take (i + 1) = l.take i ++ [x] := by rw [List.take_add_one, hx]; rfl
    simp only [yE]
    rw [xP hi, yP, hat]
    simp only [zL]
    rw [wrap1 hi (by omega), ht, List.map_append, List.append_assoc]
    have hc : cs g.N x = if decide (2 ≤ x.Mark) then ⟨x.At, co g.N x.N, x.Mark⟩ else x := rfl
    have hset : set' ((l.take i).map (cs g.N) ++ l.drop i) (i : Int) (Sample.mk x.At (co g.N x.N) x.Mark) = some ((l.take i).map (cs g.N) ++ Sample.mk x.At (co g.N x.N) x.Mark :: l.drop (i + 1)) := by
      unfold set'
      rw [if_pos (by simp; omega), Int.toNat_natCast, hd, List.set_append_right _ _ (by omega), hlen, Nat.sub_self]; rfl
    rw [coarse_eq x.N g.N (hN x (List.mem_of_getElem? hx)) hn]
    simp only [zL]
    rw [hset]
    cases hq : decide (2 ≤ x.Mark)
    · rw [yS, zL, hd]
      have : cs g.N x = x := by rw [hc, hq]; rfl
      simp [this]
    · rw [yP, zL, zL]
      have : cs g.N x = ⟨x.At, co g.N x.N, x.Mark⟩ := by rw [hc, hq]; rfl
      simp [this]
  · intro kk; simp only [yE]; rw [xQ]; simp [iteB]

theorem cs_rng {n : Int} {l : List Sample} (hn : 1 ≤ n) (hN : ∀ x ∈ l, -1125899906842624 ≤ x.N ∧ x.N ≤ 1125899906842624) : ∀ x ∈ l.map (cs n), -1125899906842624 ≤ x.N ∧ x.N ≤ 1125899906842624 := by
  intro x hx
  obtain ⟨y, hy, rfl⟩ := List.mem_map.1 hx
  unfold cs
  split
  · exact co_rng (hN y hy) hn
  · exact hN y hy
/-- Some grains on a track's samples. -/
def grs (s : Str) (gs : List Grain) (l : List Sample) : List Sample := gs.foldl (fun l g => if g.Track = s then l.map (cs g.N) else l) l
theorem grs_rng {s : Str} : ∀ {gs : List Grain} {l : List Sample}, (∀ g ∈ gs, 1 ≤ g.N) → (∀ x ∈ l, -1125899906842624 ≤ x.N ∧ x.N ≤ 1125899906842624) → (grs s gs l).length = l.length ∧ ∀ x ∈ grs s gs l, -1125899906842624 ≤ x.N ∧ x.N ≤ 1125899906842624
  | [], l, _, h => ⟨rfl, h⟩
  | g :: gs, l, hg, h => by
    have hr : ∀ g ∈ gs, 1 ≤ g.N := fun x hx => hg x (List.mem_cons_of_mem _ hx)
    show (grs s gs (if g.Track = s then l.map (cs g.N) else l)).length = _ ∧ _
    by_cases c : g.Track = s
    · have q := grs_rng (s := s) hr (cs_rng (hg g List.mem_cons_self) h)
      rw [List.length_map] at q
      unfold grs
      simp only [List.foldl_cons, if_pos c]
      exact q
    · have q := grs_rng (s := s) hr h
      unfold grs
      simp only [List.foldl_cons, if_neg c]
      exact q
theorem grs_snoc (s : Str) (gs : List Grain) (g : Grain) (l : List Sample) : grs s (gs ++ [g]) l = if g.Track = s then (grs s gs l).map (cs g.N) else grs s gs l := by
  unfold grs; rw [List.foldl_append]; rfl
structure Gm (m : Mask) : Prop where
  days : 1 ≤ m.Days ∧ m.Days ≤ 1000000
  many : m.Grains.length ≤ 30
  gr : ∀ g ∈ m.Grains, 1 ≤ g.N ∧ g.N ≤ 1125899906842624
theorem masked_L2 (m : Mask) (gm : Gm m) (t : Track) (hl : t.Series.Samples.length ≤ 20000) (hN : ∀ x ∈ t.Series.Samples, -1125899906842624 ≤ x.N ∧ x.N ≤ 1125899906842624) :
    F_fleet_masked_L2 m t (m.Grains.length : Int) (0, t.Series.Samples) = some (grs t.Name m.Grains t.Series.Samples) := by
  unfold F_fleet_masked_L2
  have hm := gm.many
  refine loopO_at (fun (i : Nat) => ((i : Int), grs t.Name (m.Grains.take i) t.Series.Samples)) m.Grains (some (grs t.Name m.Grains t.Series.Samples)) (by omega) ?_ ?_
  · intro kk i x hx hi
    have ht : m.Grains.take (i + 1) = m.Grains.take i ++ [x] := by rw [List.take_add_one, hx]; rfl
    have hg := gm.gr x (List.mem_of_getElem? hx)
    obtain ⟨r1, r2⟩ := grs_rng (s := t.Name) (gs := m.Grains.take i) (fun g hg => (gm.gr g (List.mem_of_mem_take hg)).1) hN
    simp only [yE]
    rw [xP hi, yP, wC hx, zL, wrap1 hi (by omega), ht, grs_snoc]
    by_cases c : x.Track = t.Name
    · rw [decide_eq_false (fun h => h c), yS, masked_L3 x hg _ (by omega) r2, zL, if_pos c]
    · rw [decide_eq_true c, yP, zL, if_neg c]
  · intro kk; simp only [yE, List.take_length]; rw [xQ, yS]
def hid (m : Mask) (s : Str) : Bool := m.Hide.any fun y => decide (s = y)
theorem anyI_any (s : Str) : ∀ (l : List Str) (i : Nat), anyI (fun _ y => decide (s = y)) l i = l.any fun y => decide (s = y)
  | [], _ => rfl
  | x :: l, i => by rw [anyI, List.any_cons, anyI_any s l (i + 1)]
def mtk (m : Mask) (t : Track) : Track := ⟨t.Name, ⟨t.Series.Den, grs t.Name m.Grains t.Series.Samples⟩, t.Long⟩
def mts (m : Mask) (l : List Track) : List Track := (l.filter fun t => !hid m t.Name).map (mtk m)
theorem mts_snoc (m : Mask) (l : List Track) (x : Track) : mts m (l ++ [x]) = if hid m x.Name = true then mts m l else mts m l ++ [mtk m x] := by
  unfold mts
  rw [List.filter_append, List.map_append]
  cases h : hid m x.Name <;> simp [h]
theorem mts_len (m : Mask) (l : List Track) : (mts m l).length ≤ l.length := by unfold mts; rw [List.length_map]; exact List.length_filter_le _ _
def mfl (m : Mask) (f : Flight) : Flight := ⟨if m.Tails = true then [] else f.Tail, f.Route, f.Day - f.Day.tmod m.Days, f.From, f.To, mts m f.Tracks⟩
structure Okt (f : Flight) : Prop where
  day : 0 ≤ f.Day ∧ f.Day ≤ 1000000
  many : f.Tracks.length ≤ 30
  trk : ∀ t ∈ f.Tracks, t.Series.Samples.length ≤ 20000 ∧ ∀ x ∈ t.Series.Samples, -1125899906842624 ≤ x.N ∧ x.N ≤ 1125899906842624
theorem masked_eq (f : Flight) (m : Mask) (gm : Gm m) (o : Okt f) (hh : m.Hide.length ≤ 9223372036854775807) : F_fleet_masked f m = some (mfl m f) := by
  have hl := o.many
  have e : F_fleet_masked_L1 f m (f.Tracks.length : Int) ([], 0) = some (mts m f.Tracks) := by
    unfold F_fleet_masked_L1
    refine loopO_at (fun (i : Nat) => (mts m (f.Tracks.take i), (i : Int))) f.Tracks (some (mts m f.Tracks)) (by omega) ?_ ?_
    · intro kk i x hx hi
      obtain ⟨h1, h2⟩ := o.trk x (List.mem_of_getElem? hx)
      have ht : f.Tracks.take (i + 1) = f.Tracks.take i ++ [x] := by rw [List.take_add_one, hx]; rfl
      have hl2 := mts_len m (f.Tracks.take i)
      rw [List.length_take] at hl2
      have ha : app' 56 (mts m (f.Tracks.take i)) [Track.mk x.Name (Series.mk x.Series.Den (grs x.Name m.Grains x.Series.Samples)) x.Long] = some (mts m (f.Tracks.take i) ++ [mtk m x]) := by
        unfold app'
        rw [if_pos]
        · rfl
        · simp [maxLen]; omega
      simp only [yE]
      rw [xP hi, yP, wC hx, zL, contS_eq _ _ hh, zL, anyI_any, ht, mts_snoc, wrap1 hi (by omega)]
      show bindO (iteB (hid m x.Name) _ _) _ = _
      cases hid m x.Name
      · rw [yS, clone_eq _ h1, zL, masked_L2 m gm x h1 h2, zL, ha, zL, zL]; rfl
      · rw [yP, zL]; rfl
    · intro kk; simp only [yE, List.take_length]; rw [xQ, yS]
  have d := gm.days
  have dd := o.day
  have t1 := Int.tmod_nonneg m.Days dd.1
  have t2 := Int.tmod_lt_of_pos f.Day (show 0 < m.Days by omega)
  unfold F_fleet_masked
  simp only [yE, zL]
  unfold rem'
  rw [e, if_neg (by omega)]
  simp only [zL]
  rw [Go.OB.wrap_i64 (by omega) (by omega)]
  unfold mfl
  cases m.Tails <;> rfl
end Go.Lf
namespace Go.Lf
theorem floor_eq (N n : Int) (hN : -1125899906842624 ≤ N ∧ N ≤ 1125899906842624) (hn : 1 ≤ n ∧ n ≤ 1125899906842624) : F_ref9_floor N n = some (co n N) := by
  have h1 := Int.emod_nonneg N (b := n) (by omega)
  have h2 := Int.emod_lt_of_pos N (b := n) (by omega)
  have t := tm_neg N n hn.1
  have e := Int.tdiv_mul_add_tmod N n
  have b1 : -1125899906842624 ≤ N.tdiv n ∧ N.tdiv n ≤ 1125899906842624 := by
    have q1 := Int.natAbs_tdiv_le_natAbs N n
    have q2 : (N.tdiv n).natAbs ≤ N.natAbs := q1
    omega
  unfold F_ref9_floor rem' quo' co
  rw [if_neg (by omega), zL, if_neg (by omega), zL, Go.OB.wrap_i64 (n := N.tdiv n) (by omega) (by omega)]
  simp only [yE, iteB_dec]
  by_cases c : N.tmod n < 0
  · rw [if_pos c] at t ⊢
    rw [zL, Go.OB.wrap_i64 (n := N.tdiv n - 1) (by omega) (by omega)]
    have e2 : (N.tdiv n - 1) * n = N - N % n := by rw [Int.sub_mul, Int.one_mul]; omega
    rw [e2, Go.OB.wrap_i64 (by omega) (by omega)]
  · rw [if_neg c] at t ⊢
    rw [zL]
    have e2 : N.tdiv n * n = N - N % n := by omega
    rw [e2, Go.OB.wrap_i64 (by omega) (by omega)]
theorem rmasked_L2 (m : Mask) (t : Track) (hh : m.Hide.length ≤ 9223372036854775807) : F_ref9_masked_L2 m t (false, 0) = some (hid m t.Name) := by
  unfold F_ref9_masked_L2
  refine loopO_at (fun (i : Nat) => ((m.Hide.take i).any fun y => decide (t.Name = y), (i : Int))) m.Hide (some (hid m t.Name)) hh ?_ ?_
  · intro kk i x hx hi
    have ht : m.Hide.take (i + 1) = m.Hide.take i ++ [x] := by rw [List.take_add_one, hx]; rfl
    simp only [yE]
    rw [xP hi, yP, wC hx, zL, wrap1 hi hh, ht, List.any_append, show decide (x = t.Name) = decide (t.Name = x) from decide_eq_decide.2 ⟨Eq.symm, Eq.symm⟩, iteB_or2, zL]
    simp
  · intro kk; simp only [yE, List.take_length]; rw [xQ, yS]; rfl
theorem rmasked_L4 (m : Mask) (g : Grain) (j : Int) (hj : at' m.Grains j = some g) (hn : 1 ≤ g.N ∧ g.N ≤ 1125899906842624) (l : List Sample) (hl : l.length ≤ 20000) (hN : ∀ x ∈ l, -1125899906842624 ≤ x.N ∧ x.N ≤ 1125899906842624) :
    F_ref9_masked_L4 m j l (0, []) = some (l.map (cs g.N)) := by
  unfold F_ref9_masked_L4
  refine loopO_at (fun (i : Nat) => ((i : Int), (l.take i).map (cs g.N))) l (some (l.map (cs g.N))) (by omega) ?_ ?_
  · intro kk i x hx hi
    have ht : l.take (i + 1) = l.take i ++ [x] := by rw [List.take_add_one, hx]; rfl
    have hlen : ((l.take i).map (cs g.N)).length = i := by simp; omega
    have ha : ∀ y : Sample, app' 24 ((l.take i).map (cs g.N)) [y] = some ((l.take i).map (cs g.N) ++ [y]) := by
      intro y
      unfold app'
      rw [if_pos]
      simp [maxLen]; omega
    simp only [yE]
    rw [xP hi, yP, wC hx, zL, wrap1 hi (by omega), ht, List.map_append]
    simp only [hj, zL, floor_eq x.N g.N (hN x (List.mem_of_getElem? hx)) hn, ha]
    have hc : cs g.N x = if decide (2 ≤ x.Mark) then ⟨x.At, co g.N x.N, x.Mark⟩ else x := rfl
    cases hq : decide (2 ≤ x.Mark)
    · rw [yS, zL]
      have : cs g.N x = x := by rw [hc, hq]; rfl
      simp [this]
    · rw [yP, zL]
      have : cs g.N x = ⟨x.At, co g.N x.N, x.Mark⟩ := by rw [hc, hq]; rfl
      simp [this]
  · intro kk; simp only [yE, List.take_length]; rw [xQ, yS]
theorem rmasked_L3 (m : Mask) (gm : Gm m) (t : Track) (hl : t.Series.Samples.length ≤ 20000) (hN : ∀ x ∈ t.Series.Samples, -1125899906842624 ≤ x.N ∧ x.N ≤ 1125899906842624) :
    F_ref9_masked_L3 m t (0, t.Series.Samples) = some (grs t.Name m.Grains t.Series.Samples) := by
  unfold F_ref9_masked_L3
  have hm := gm.many
  refine loopO_at (fun (i : Nat) => ((i : Int), grs t.Name (m.Grains.take i) t.Series.Samples)) m.Grains (some (grs t.Name m.Grains t.Series.Samples)) (by omega) ?_ ?_
  · intro kk i x hx hi
    have ht : m.Grains.take (i + 1) = m.Grains.take i ++ [x] := by rw [List.take_add_one, hx]; rfl
    have hg := gm.gr x (List.mem_of_getElem? hx)
    obtain ⟨r1, r2⟩ := grs_rng (s := t.Name) (gs := m.Grains.take i) (fun g hg => (gm.gr g (List.mem_of_mem_take hg)).1) hN
    simp only [yE]
    rw [xP hi, yP, wC hx, zL, wrap1 hi (by omega), ht, grs_snoc]
    by_cases c : x.Track = t.Name
    · rw [decide_eq_false (fun h => h c), yS, rmasked_L4 m x (i : Int) (wC hx) hg _ (by omega) r2, zL, zL, if_pos c]
    · rw [decide_eq_true c, yP, zL, if_neg c]
  · intro kk; simp only [yE, List.take_length]; rw [xQ, yS]
theorem rmasked_eq (f : Flight) (m : Mask) (gm : Gm m) (o : Okt f) (hh : m.Hide.length ≤ 9223372036854775807) : F_ref9_masked f m = some (mfl m f) := by
  have hl := o.many
  have e : F_ref9_masked_L1 f m (0, []) = some (mts m f.Tracks) := by
    unfold F_ref9_masked_L1
    refine loopO_at (fun (i : Nat) => ((i : Int), mts m (f.Tracks.take i))) f.Tracks (some (mts m f.Tracks)) (by omega) ?_ ?_
    · intro kk i x hx hi
      obtain ⟨h1, h2⟩ := o.trk x (List.mem_of_getElem? hx)
      have ht : f.Tracks.take (i + 1) = f.Tracks.take i ++ [x] := by rw [List.take_add_one, hx]; rfl
      have hl2 := mts_len m (f.Tracks.take i)
      rw [List.length_take] at hl2
      have ha : app' 56 (mts m (f.Tracks.take i)) [Track.mk x.Name (Series.mk x.Series.Den (grs x.Name m.Grains x.Series.Samples)) x.Long] = some (mts m (f.Tracks.take i) ++ [mtk m x]) := by
        unfold app'
        rw [if_pos]
        · rfl
        · simp [maxLen]; omega
      simp only [yE]
      rw [xP hi, yP, wC hx, zL, rmasked_L2 m x hh, zL, ht, mts_snoc, wrap1 hi (by omega)]
      cases hid m x.Name
      · rw [yS, rmasked_L3 m gm x h1 h2, zL, ha, zL, zL]; rfl
      · rw [yP, zL]; rfl
    · intro kk; simp only [yE, List.take_length]; rw [xQ, yS]
  have d := gm.days
  have dd := o.day
  have t1 := Int.tmod_nonneg m.Days dd.1
  have t2 := Int.tmod_lt_of_pos f.Day (show 0 < m.Days by omega)
  have e1 := Int.tdiv_mul_add_tmod f.Day m.Days
  have q1 : (f.Day.tdiv m.Days).natAbs ≤ f.Day.natAbs := Int.natAbs_tdiv_le_natAbs f.Day m.Days
  unfold F_ref9_masked
  simp only [yE, zL]
  unfold quo'
  rw [e, if_neg (by omega)]
  simp only [zL]
  rw [Go.OB.wrap_i64 (n := f.Day.tdiv m.Days) (by omega) (by omega), show f.Day.tdiv m.Days * m.Days = f.Day - f.Day.tmod m.Days by omega, Go.OB.wrap_i64 (by omega) (by omega)]
  unfold mfl
  cases m.Tails <;> rfl
end Go.Lf
namespace Go.Lf
theorem cs_at (n : Int) (x : Sample) : (cs n x).At = x.At ∧ (cs n x).Mark = x.Mark := by unfold cs; split <;> exact ⟨rfl, rfl⟩
theorem cs_n (n : Int) (x : Sample) : (cs n x).N = if 2 ≤ x.Mark then co n x.N else x.N := by unfold cs; by_cases h : 2 ≤ x.Mark <;> simp [h]
theorem smpE_iff (l : List Sample) (i : Nat) (x : Sample) : smpE l i x = 0 ↔ (0 ≤ x.At ∧ x.At ≤ 1099511627776) ∧ (-1125899906842624 ≤ x.N ∧ x.N ≤ 1125899906842624) ∧ (0 ≤ x.Mark ∧ x.Mark ≤ 4) ∧ (x.N = 0 ∨ 2 ≤ x.Mark) ∧ (∀ j y, i = j + 1 → l[j]? = some y → y.At < x.At) := by
  unfold smpE
  split
  · rename_i h
    simp only [Bool.or_eq_true, Bool.not_eq_true', Bool.and_eq_false_iff, decide_eq_false_iff_not] at h
    constructor
    · intro q; cases q
    · intro q; omega
  · rename_i h
    simp only [Bool.or_eq_true, Bool.not_eq_true', Bool.and_eq_false_iff, decide_eq_false_iff_not] at h
    split
    · rename_i h2
      simp only [Bool.and_eq_true, decide_eq_true_eq] at h2
      constructor
      · intro q; cases q
      · intro q; omega
    · rename_i h2
      simp only [Bool.and_eq_true, decide_eq_true_eq] at h2
      cases i with
      | zero =>
        simp only [true_iff]
        exact ⟨by omega, by omega, by omega, by omega, fun j y hj => by omega⟩
      | succ j =>
        cases e : l[j]? with
        | none =>
          simp only [e, true_iff]
          refine ⟨by omega, by omega, by omega, by omega, ?_⟩
          intro j' y hj hy
          obtain rfl : j' = j := by omega
          rw [e] at hy; cases hy
        | some y =>
          simp only [e, decide_eq_true_eq]
          constructor
          · intro q
            by_cases c : x.At ≤ y.At
            · rw [if_pos c] at q; cases q
            · refine ⟨by omega, by omega, by omega, by omega, ?_⟩
              intro j' z hj hz
              obtain rfl : j' = j := by omega
              rw [e] at hz; cases hz; omega
          · rintro ⟨_, _, _, _, q⟩
            have := q j y rfl e
            rw [if_neg (by omega)]
theorem ser_mask {d : Int} {l : List Sample} {n : Int} (hn : 1 ≤ n) (h : serC ⟨d, l⟩ = 0) : serC ⟨d, l.map (cs n)⟩ = 0 := by
  rw [ser_iff] at h ⊢
  obtain ⟨h1, h2, h3⟩ := h
  refine ⟨h1, by simpa using h2, ?_⟩
  intro i x hx
  simp only [List.getElem?_map, Option.map_eq_some_iff] at hx
  obtain ⟨y, hy, rfl⟩ := hx
  have := (smpE_iff _ _ _).1 (h3 i y hy)
  obtain ⟨q1, q2, q3, q4, q5⟩ := this
  obtain ⟨c1, c2⟩ := cs_at n y
  rw [smpE_iff, c1, c2, cs_n]
  have r := co_rng q2 hn
  refine ⟨q1, ?_, q3, ?_, ?_⟩
  · split <;> omega
  · by_cases c : 2 ≤ y.Mark
    · exact .inr c
    · rw [if_neg c]; omega
  · intro j z hj hz
    simp only [List.getElem?_map, Option.map_eq_some_iff] at hz
    obtain ⟨z', hz', rfl⟩ := hz
    rw [(cs_at n z').1]
    exact q5 j z' hj hz'
theorem cs_i64 {n : Int} {x : Sample} (hn : 1 ≤ n) (hN : -1125899906842624 ≤ x.N ∧ x.N ≤ 1125899906842624) (h : okSample x) : okSample (cs n x) := by
  obtain ⟨c1, c2⟩ := cs_at n x
  have r := co_rng hN hn
  refine ⟨by rw [c1]; exact h.1, ?_, by rw [c2]; exact h.2.2⟩
  rw [cs_n]; unfold i64; split <;> omega
/-- What a track without fault holds. -/
theorem trk_facts {l : List Track} (h : trkC l = 0) {t : Track} (ht : t ∈ l) : t.Series.Samples.length ≤ 20000 ∧ ∀ x ∈ t.Series.Samples, -1125899906842624 ≤ x.N ∧ x.N ≤ 1125899906842624 := by
  obtain ⟨i, hi⟩ := List.getElem?_of_mem ht
  have q := ((trkE_iff l i t).1 (((trk_iff l).1 h).2 i t hi)).2.2.1
  rw [ser_iff] at q
  refine ⟨q.2.1, fun x hx => ?_⟩
  obtain ⟨j, hj⟩ := List.getElem?_of_mem hx
  exact ((smpE_iff _ _ _).1 (q.2.2 j x hj)).2.1

/-- What holds of a mask without fault. -/
structure Good2 (m : Mask) : Prop extends Gm m where
  pw : m.Grains.Pairwise fun a b => a.Track ≠ b.Track
theorem mts_mem {m : Mask} {l : List Track} {t : Track} (h : t ∈ mts m l) : ∃ u ∈ l, t = mtk m u := by
  unfold mts at h
  obtain ⟨u, hu, rfl⟩ := List.mem_map.1 h
  exact ⟨u, (List.mem_filter.1 hu).1, rfl⟩
theorem ser_grs {d : Int} {s : Str} : ∀ (gs : List Grain) (l : List Sample), (∀ g ∈ gs, 1 ≤ g.N) → serC ⟨d, l⟩ = 0 → serC ⟨d, grs s gs l⟩ = 0
  | [], _, _, h => h
  | g :: gs, l, hg, h => by
    show serC ⟨d, grs s gs (if g.Track = s then l.map (cs g.N) else l)⟩ = 0
    refine ser_grs gs _ (fun x hx => hg x (List.mem_cons_of_mem _ hx)) ?_
    split
    · exact ser_mask (hg g List.mem_cons_self) h
    · exact h
theorem mts_pw {m : Mask} {l : List Track} (h : l.Pairwise fun a b => a.Name ≠ b.Name) : (mts m l).Pairwise fun a b => a.Name ≠ b.Name := by
  unfold mts
  rw [List.pairwise_map]
  exact (List.Pairwise.filter _ h).imp fun h => h
theorem trk_mts {m : Mask} (g : Gm m) {l : List Track} (h : trkC l = 0) : trkC (mts m l) = 0 := by
  have hp := mts_pw (m := m) (names_pw h)
  rw [trk_iff] at h ⊢
  refine ⟨Nat.le_trans (mts_len m l) h.1, ?_⟩
  intro i x hx
  obtain ⟨u, hu, rfl⟩ := mts_mem (List.mem_of_getElem? hx)
  obtain ⟨j, hj⟩ := List.getElem?_of_mem hu
  obtain ⟨q1, _, q3, q4⟩ := (trkE_iff l j u).1 (h.2 j u hj)
  rw [trkE_iff]
  refine ⟨q1, ?_, ser_grs _ _ (fun x hx => (g.gr x hx).1) q3, q4⟩
  rw [Bool.eq_false_iff]
  intro ht
  obtain ⟨k, z, h1, h2⟩ := (anyI_iff _ _ _).1 ht
  rw [List.getElem?_take] at h1
  split at h1
  · rename_i hk
    rw [List.pairwise_iff_getElem] at hp
    have e1 := List.getElem?_eq_some_iff.1 h1
    have e2 := List.getElem?_eq_some_iff.1 hx
    have := hp k i e1.1 e2.1 hk
    rw [e1.2, e2.2] at this
    exact this (by simpa using h2)
  · cases h1
theorem good_mfl {m : Mask} (gm : Gm m) {f : Flight} (g : Good f) : Good (mfl m f) := by
  have d := gm.days
  have dd := g.day
  have t1 := Int.tmod_nonneg m.Days dd.1
  have t2 : f.Day.tmod m.Days ≤ f.Day := by
    have e := Int.mul_tdiv_add_tmod f.Day m.Days
    have := Int.mul_nonneg (show 0 ≤ m.Days by omega) (Int.tdiv_nonneg dd.1 (show 0 ≤ m.Days by omega))
    omega
  refine ⟨?_, g.route, ⟨by show 0 ≤ f.Day - _; omega, by show f.Day - _ ≤ _; omega⟩, g.frm, g.span, Nat.le_trans (mts_len m f.Tracks) g.many, trk_mts gm g.trk⟩
  show (if m.Tails = true then [] else f.Tail) = [] ∨ isNm (if m.Tails = true then [] else f.Tail) = true
  split
  · exact .inl rfl
  · exact g.tail
theorem ok_grs {s : Str} : ∀ (gs : List Grain) (l : List Sample), (∀ g ∈ gs, 1 ≤ g.N) → (∀ x ∈ l, -1125899906842624 ≤ x.N ∧ x.N ≤ 1125899906842624) → (∀ x ∈ l, okSample x) → ∀ x ∈ grs s gs l, okSample x
  | [], _, _, _, h => h
  | g :: gs, l, hg, hN, h => by
    show ∀ x ∈ grs s gs (if g.Track = s then l.map (cs g.N) else l), okSample x
    have hr : ∀ g ∈ gs, 1 ≤ g.N := fun x hx => hg x (List.mem_cons_of_mem _ hx)
    split
    · refine ok_grs gs _ hr (cs_rng (hg g List.mem_cons_self) hN) ?_
      intro x hx
      obtain ⟨y, hy, rfl⟩ := List.mem_map.1 hx
      exact cs_i64 (hg g List.mem_cons_self) (hN y hy) (h y hy)
    · exact ok_grs gs l hr hN h
theorem ok_mfl {m : Mask} (gm : Gm m) {f : Flight} (g : Good f) (h : okFlight f) : okFlight (mfl m f) := by
  have g2 := (good_mfl gm g).day
  obtain ⟨h1, h2, h3, h4, h5, h6, h7⟩ := h
  refine ⟨?_, h2, ?_, h4, h5, Nat.le_trans (mts_len m f.Tracks) h6, ?_⟩
  · show okS (if m.Tails = true then [] else f.Tail)
    split
    · exact Nat.zero_le _
    · exact h1
  · unfold i64; omega
  · intro t ht
    obtain ⟨u, hu, rfl⟩ := mts_mem (l := f.Tracks) ht
    obtain ⟨q1, ⟨q2, q3, q4⟩, q5⟩ := h7 u hu
    obtain ⟨r1, r2⟩ := trk_facts g.trk hu
    have hr : ∀ g ∈ m.Grains, 1 ≤ g.N := fun x hx => (gm.gr x hx).1
    refine ⟨q1, ⟨q2, ?_, ok_grs _ _ hr r2 q4⟩, q5⟩
    show (grs _ _ _).length ≤ _
    rw [(grs_rng hr r2).1]; exact q3
theorem okt_of {f : Flight} (g : Good f) : Okt f := ⟨g.day, g.many, fun _ ht => trk_facts g.trk ht⟩
/-! ### Masks -/
theorem findO_all {α : Type} (e : Nat → α → Int) : ∀ (l : List α) (i : Nat) (fin : Option Int), findO (fun i x => if e i x = 0 then none else some (some (e i x))) fin l i = some 0 → (∀ j x, l[j]? = some x → e (i + j) x = 0) ∧ fin = some 0
  | [], i, fin, h => ⟨fun j x hx => by simp at hx, h⟩
  | x :: l, i, fin, h => by
    rw [findO] at h
    by_cases c : e i x = 0
    · simp only [c, if_true] at h
      obtain ⟨h1, h2⟩ := findO_all e l (i + 1) fin h
      refine ⟨fun j y hy => ?_, h2⟩
      cases j with
      | zero => simp at hy; subst hy; simpa using c
      | succ j => have := h1 j y (by simpa using hy); rwa [show i + (j + 1) = i + 1 + j by omega]
    · simp only [c, if_false] at h
      exact absurd (Option.some.inj h) c
theorem mskE_some (m : Mask) : ∃ c, mskE m = some c := by
  have h1 : ∃ r, lstE m = some r := by unfold lstE; split <;> exact ⟨_, rfl⟩
  have h2 : ∃ r, mskG m = some r := by
    unfold mskG
    split
    · exact ⟨_, rfl⟩
    · exact findO_some h1 (fun i x r h => ite_some h) _ _
  unfold mskE
  split
  · exact ⟨_, rfl⟩
  · split
    · exact ⟨_, rfl⟩
    · exact findO_some h2 (fun i x r h => ite_some h) _ _
theorem graE_iff {l : List Grain} {i : Nat} {x : Grain} (h : graE l i x = 0) : anyI (fun _ y => decide (y.Track = x.Track)) (l.take i) 0 = false ∧ 1 ≤ x.N ∧ x.N ≤ 1125899906842624 := by
  unfold graE at h
  split at h
  · cases h
  · split at h
    · cases h
    · split at h
      · cases h
      · rename_i h1 h2 h3
        simp only [Bool.not_eq_true', Bool.and_eq_false_iff, decide_eq_false_iff_not] at h3
        exact ⟨by simpa using h2, by omega, by omega⟩
theorem good2_of {m : Mask} (h : mskE m = some 0) : Good2 m := by
  unfold mskE at h
  split at h
  · cases h
  · rename_i h1
    split at h
    · cases h
    · have h2 := (findO_all _ _ _ _ h).2
      unfold mskG at h2
      split at h2
      · cases h2
      · rename_i h3
        have h4 := (findO_all _ _ _ _ h2).1
        simp only [Bool.not_eq_true', Bool.and_eq_false_iff, decide_eq_false_iff_not] at h1
        have h3 : m.Grains.length ≤ 30 := by simp at h3; omega
        refine ⟨⟨by omega, h3, fun g hg => ?_⟩, ?_⟩
        · obtain ⟨j, hj⟩ := List.getElem?_of_mem hg
          have := h4 j g hj
          rw [Nat.zero_add] at this
          exact (graE_iff this).2
        · rw [List.pairwise_iff_getElem]
          intro i j hi hj hij e
          have q := h4 j _ (List.getElem?_eq_getElem hj)
          rw [Nat.zero_add] at q
          have t : anyI (fun _ z => decide (z.Track = m.Grains[j].Track)) (m.Grains.take j) 0 = true := (anyI_iff _ _ _).2 ⟨i, m.Grains[i], by rw [List.getElem?_take, if_pos hij]; exact List.getElem?_eq_getElem hi, by simpa using e⟩
          rw [(graE_iff q).1] at t; cases t
end Go.Lf
namespace Go.Lf
/-! ### Tracks of a flight -/
theorem trackOf_eq (f : Flight) (s : Str) (hl : f.Tracks.length ≤ 9223372036854775807) : F_fleet_trackOf f s = some (f.Tracks.find? fun t => decide (t.Name = s)) := by
  unfold F_fleet_trackOf
  simp only [yE, joinO_eq]
  unfold F_fleet_trackOf_L1
  have key : ∀ (l : List Track) (i : Nat), findO (fun _ t => if decide (t.Name = s) = true then some (some (some t)) else none) (some none) l i = some (l.find? fun t => decide (t.Name = s)) := by
    intro l
    induction l with
    | nil => intro i; rfl
    | cons t l ih =>
      intro i
      rw [findO, List.find?_cons]
      cases h : decide (t.Name = s)
      · simpa using ih (i + 1)
      · simp
  rw [← key f.Tracks 0]
  refine wE f.Tracks _ _ hl ?_ ?_
  · intro kk i x hx hi
    simp only [yE]
    rw [xP hi, yP, wC hx, zL, wrap1 hi hl]
    cases decide (x.Name = s)
    · rfl
    · simp only [yP, wC hx, zL, if_true]
  · intro kk; simp only [yE]; rw [xQ]; rfl
/-- One sample of a peak. -/
def pk (f : Flight) (b : Int × Bool) (x : Sample) : Int × Bool :=
  if decide (x.Mark < 3) || !(decide (64 * f.From ≤ x.At) && decide (x.At ≤ 64 * f.To + 63)) then b else if !b.2 || decide (b.1 < x.N) then (x.N, true) else b
theorem wr64 {f : Flight} (g : Good f) : IntKind.i64.wrap (64 * f.From) = 64 * f.From ∧ IntKind.i64.wrap (64 * f.To) = 64 * f.To ∧ IntKind.i64.wrap (64 * f.To + 64) = 64 * f.To + 64 ∧ IntKind.i64.wrap (64 * f.To + 64 - 1) = 64 * f.To + 63 := by
  have := g.frm
  refine ⟨Go.OB.wrap_i64 (by omega) (by omega), Go.OB.wrap_i64 (by omega) (by omega), Go.OB.wrap_i64 (by omega) (by omega), ?_⟩
  rw [Go.OB.wrap_i64 (by omega) (by omega)]; omega
theorem peak_L1 (f : Flight) (g : Good f) (t : Track) (hl : t.Series.Samples.length ≤ 9223372036854775807) : F_fleet_peak_L1 f t (t.Series.Samples.length : Int) (0, false, 0) = some (t.Series.Samples.foldl (pk f) (0, false)) := by
  obtain ⟨w1, w2, w3, w4⟩ := wr64 g
  unfold F_fleet_peak_L1
  refine loopO_fold (σ := Int × Bool) (fun (i : Nat) b => (b.1, b.2, (i : Int))) t.Series.Samples (pk f) (fun b => some b) hl ?_ ?_ (0, false)
  · intro kk i b x hx hi
    simp only [yE]
    rw [xP hi, yP, wC hx, zL, w1, w2, w3, w4, wrap1 hi hl]
    simp only [fwithin, zL, iteB_or2]
    unfold pk
    cases (decide (x.Mark < 3) || !(decide (64 * f.From ≤ x.At) && decide (x.At ≤ 64 * f.To + 63)))
    · cases (!b.2 || decide (b.1 < x.N)) <;> rfl
    · rfl
  · intro kk b; simp only [yE]; rw [xQ]; rfl
theorem rpeak_L2 (f : Flight) (g : Good f) (t : Track) (hl : t.Series.Samples.length ≤ 9223372036854775807) (b0 : Int × Bool) : F_ref9_peak_L2 f t (b0.1, b0.2, 0) = some ((t.Series.Samples.foldl (pk f) b0).1, t.Series.Den, (t.Series.Samples.foldl (pk f) b0).2) := by
  obtain ⟨w1, w2, w3, w4⟩ := wr64 g
  unfold F_ref9_peak_L2
  refine loopO_fold (σ := Int × Bool) (fun (i : Nat) b => (b.1, b.2, (i : Int))) t.Series.Samples (pk f) (fun b => some (b.1, t.Series.Den, b.2)) hl ?_ ?_ b0
  · intro kk i b x hx hi
    simp only [yE]
    rw [xP hi, yP, wC hx, zL, w1, w2, w3, w4, wrap1 hi hl]
    simp only [zL, iteB_or2]
    unfold pk
    rw [← not_out]
    cases (decide (x.Mark < 3) || (decide (x.At < 64 * f.From) || decide (64 * f.To + 63 < x.At)))
    · cases (!b.2 || decide (b.1 < x.N)) <;> rfl
    · rfl
  · intro kk b; simp only [yE]; rw [xQ]; rfl
/-- The peak of a flight without fault. -/
def pkOf (f : Flight) (s : Str) : Int × Bool :=
  match f.Tracks.find? fun t => decide (t.Name = s) with
  | some t => t.Series.Samples.foldl (pk f) (0, false)
  | none => (0, false)
theorem peak_eq (f : Flight) (g : Good f) (h : okFlight f) (s : Str) : F_fleet_peak f s = some (pkOf f s) := by
  unfold F_fleet_peak pkOf
  rw [trackOf_eq f s h.2.2.2.2.2.1, zL, yE]
  cases e : f.Tracks.find? fun t => decide (t.Name = s) with
  | none => rfl
  | some t =>
    have hm := List.mem_of_find?_eq_some e
    have := (h.2.2.2.2.2.2 t hm).2.1.2.1
    simp only [Option.isNone_some, yS, zL, yE, peak_L1 f g t this]
def rst (f : Flight) (s : Str) (b : Int × Int × Bool) (t : Track) : Int × Int × Bool :=
  if decide (t.Name ≠ s) then b else ((t.Series.Samples.foldl (pk f) (b.1, b.2.2)).1, t.Series.Den, (t.Series.Samples.foldl (pk f) (b.1, b.2.2)).2)
theorem rst_none (f : Flight) (s : Str) : ∀ (l : List Track) (b : Int × Int × Bool), (∀ t ∈ l, t.Name ≠ s) → l.foldl (rst f s) b = b
  | [], b, _ => rfl
  | t :: l, b, h => by
    have := h t (by simp)
    rw [List.foldl_cons]
    have e : rst f s b t = b := by unfold rst; simp [this]
    rw [e]; exact rst_none f s l b fun u hu => h u (by simp [hu])
theorem rst_pk (f : Flight) (s : Str) : ∀ (l : List Track), l.Pairwise (fun a b => a.Name ≠ b.Name) → 
    ((l.foldl (rst f s) (0, 1, false)).1, (l.foldl (rst f s) (0, 1, false)).2.2) = match l.find? fun t => decide (t.Name = s) with
      | some t => t.Series.Samples.foldl (pk f) (0, false)
      | none => (0, false)
  | [], _ => rfl
  | t :: l, h => by
    rw [List.pairwise_cons] at h
    rw [List.foldl_cons, List.find?_cons]
    by_cases e : t.Name = s
    · rw [rst_none f s l _ (fun u hu q => h.1 u hu (by rw [e, q]))]
      simp [rst, e]
    · have e2 : rst f s (0, 1, false) t = (0, 1, false) := by unfold rst; simp [e]
      rw [e2, decide_eq_false e]
      exact rst_pk f s l h.2
/-- The Den of the track of that name. -/
def dnOf (f : Flight) (s : Str) : Int :=
  match f.Tracks.find? fun t => decide (t.Name = s) with
  | some t => t.Series.Den
  | none => 1
theorem rst_dn (f : Flight) (s : Str) : ∀ (l : List Track), l.Pairwise (fun a b => a.Name ≠ b.Name) → (l.foldl (rst f s) (0, 1, false)).2.1 = match l.find? fun t => decide (t.Name = s) with
      | some t => t.Series.Den
      | none => 1
  | [], _ => rfl
  | t :: l, h => by
    rw [List.pairwise_cons] at h
    rw [List.foldl_cons, List.find?_cons]
    by_cases e : t.Name = s
    · rw [rst_none f s l _ (fun u hu q => h.1 u hu (by rw [e, q]))]
      simp [rst, e]
    · have e2 : rst f s (0, 1, false) t = (0, 1, false) := by unfold rst; simp [e]
      rw [e2, decide_eq_false e]
      exact rst_dn f s l h.2
theorem rpeak_eq (f : Flight) (g : Good f) (h : okFlight f) (s : Str) : F_ref9_peak f s = some ((pkOf f s).1, dnOf f s, (pkOf f s).2) := by
  have hl := h.2.2.2.2.2.1
  have e : F_ref9_peak_L1 f s (0, 1, false, 0) = some (f.Tracks.foldl (rst f s) (0, 1, false)) := by
    unfold F_ref9_peak_L1
    refine loopO_fold (σ := Int × Int × Bool) (fun (i : Nat) b => (b.1, b.2.1, b.2.2, (i : Int))) f.Tracks (rst f s) (fun b => some b) hl ?_ ?_ (0, 1, false)
    · intro kk i b x hx hi
      have hs := (h.2.2.2.2.2.2 x (List.mem_of_getElem? hx)).2.1.2.1
      simp only [yE]
      rw [xP hi, yP, wC hx, zL, wrap1 hi hl]
      have := rpeak_L2 f g x hs (b.1, b.2.2)
      simp only at this
      rw [zL, this]
      unfold rst
      cases decide (x.Name ≠ s) <;> rfl
    · intro kk b; simp only [yE]; rw [xQ]; rfl
  unfold F_ref9_peak
  rw [e, zL]
  have := rst_pk f s f.Tracks (names_pw g.trk)
  have q : pkOf f s = ((f.Tracks.foldl (rst f s) (0, 1, false)).1, (f.Tracks.foldl (rst f s) (0, 1, false)).2.2) := this.symm
  have q2 : dnOf f s = (f.Tracks.foldl (rst f s) (0, 1, false)).2.1 := (rst_dn f s f.Tracks (names_pw g.trk)).symm
  rw [q, q2]
theorem fold_rng (f : Flight) : ∀ (l : List Sample) (b : Int × Bool), (-1125899906842624 ≤ b.1 ∧ b.1 ≤ 1125899906842624) → (∀ x ∈ l, -1125899906842624 ≤ x.N ∧ x.N ≤ 1125899906842624) → -1125899906842624 ≤ (l.foldl (pk f) b).1 ∧ (l.foldl (pk f) b).1 ≤ 1125899906842624
  | [], b, hb, _ => hb
  | x :: l, b, hb, h => by
    rw [List.foldl_cons]
    refine fold_rng f l _ ?_ fun y hy => h y (by simp [hy])
    unfold pk
    have := h x (by simp)
    split
    · exact hb
    · split
      · exact this
      · exact hb
theorem pkOf_rng {f : Flight} (g : Good f) (s : Str) : -1125899906842624 ≤ (pkOf f s).1 ∧ (pkOf f s).1 ≤ 1125899906842624 := by
  unfold pkOf
  split
  · rename_i t ht
    exact fold_rng f _ _ (by decide) (trk_facts g.trk (List.mem_of_find?_eq_some ht)).2
  · decide
end Go.Lf
