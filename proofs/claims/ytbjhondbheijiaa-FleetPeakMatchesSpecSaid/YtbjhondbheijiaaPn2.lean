/- Names of the reference; series and tracks: both programs tell them alike. -/
import Derived.Test.YtbjhondbheijiaaPn1
namespace Go.Lf
theorem reserved_eq (s : Str) : F_ref6_Reserved s = some (isW s) := by
  unfold F_ref6_Reserved F_ref6_words
  simp only [letO_eq, bindO_s, joinO_eq]
  change F_ref6_Reserved_L1 s kws (fun _ => some false) 0 = _
  unfold F_ref6_Reserved_L1
  rw [loopO_find kws (fun _ x => if decide (x = s) = true then some (some true) else none) (some false) (by decide)]
  · rw [findO_any (fun _ x => decide (x = s))]
    have e : anyI (fun _ x => decide (x = s)) kws 0 = isW s := by
      rw [Bool.eq_iff_iff, anyI_iff]
      unfold isW
      simp only [decide_eq_true_eq]
      constructor
      · rintro ⟨j, x, h, rfl⟩; exact List.mem_of_getElem? h
      · intro h; obtain ⟨j, hj⟩ := List.getElem?_of_mem h; exact ⟨j, s, hj, rfl⟩
    rw [e]; cases isW s <;> rfl
  · intro kk i c hc hi
    simp only [letO_eq]
    rw [lt_true hi, iteB_tr, at_ok hc, bindO_s]
    cases decide (c = s)
    · simp only [iteB_fa]; rw [wrap1 hi (by decide)]; rfl
    · rfl
  · intro kk; simp only [letO_eq]; rw [lt_self]; rfl
def badR : Nat → UInt8 → Bool := fun i c => !((decide (97 ≤ (c.toNat : Int)) && decide ((c.toNat : Int) ≤ 122)) || (decide (0 < (i : Int)) && ((decide (48 ≤ (c.toNat : Int)) && decide ((c.toNat : Int) ≤ 57)) || decide ((c.toNat : Int) = 45))))
theorem rIsName_L1 (s : Str) (hs : okS s) (k : Unit → Option Bool) : F_ref6_IsName_L1 s k 0 = if anyI badR s 0 = true then some false else k () := by
  unfold F_ref6_IsName_L1
  rw [loopO_find s (fun i c => if badR i c = true then some (some false) else none) (k ()) hs]
  · exact findO_any badR (some false) (k ()) s 0
  · intro kk i c hc hi
    unfold badR
    simp only [letO_eq]
    rw [lt_true hi, iteB_tr, byte_nat hc, bindO_s]
    rw [wrap1 hi hs]
    cases decide (97 ≤ (c.toNat : Int)) <;> cases decide ((c.toNat : Int) ≤ 122) <;> cases decide (0 < (i : Int)) <;> cases decide (48 ≤ (c.toNat : Int)) <;> cases decide ((c.toNat : Int) ≤ 57) <;> cases decide ((c.toNat : Int) = 45) <;> rfl
  · intro kk; simp only [letO_eq]; rw [lt_self]; rfl
theorem rIsName_eq (s : Str) (hs : okS s) : F_ref6_IsName s = some (isNm s) := by
  unfold F_ref6_IsName isNm
  simp only [letO_eq, bindO_s, joinO_eq, rIsName_L1 s hs, reserved_eq]
  cases s with
  | nil => rfl
  | cons c l =>
    have h2 : decide (((c :: l).length : Int) ≤ 30) = decide ((c :: l).length ≤ 30) := decide_eq_decide.2 (by omega)
    have h5 : decide ((c :: l) ≠ []) = true := by simp
    have e : anyI badR l (0 + 1) = anyI badB l (0 + 1) := anyI_congr l (0 + 1) fun j x _ => by
      have : decide (0 < ((0 + 1 + j : Nat) : Int)) = true := decide_eq_true (by omega)
      unfold badR badB nmB
      rw [this]
      simp only [Bool.true_and, Bool.or_assoc]
    rw [anyI, anyI, e, h2, h5]
    have e2 : badR 0 c = !(decide (97 ≤ (c.toNat : Int)) && decide ((c.toNat : Int) ≤ 122)) := by unfold badR; simp
    have e3 : badB 0 c = !(firstOk (c :: l) || (decide (48 ≤ (c.toNat : Int)) && decide ((c.toNat : Int) ≤ 57)) || decide ((c.toNat : Int) = 45)) := rfl
    have e4 : badR 0 c = !firstOk (c :: l) := e2
    rw [e3, e4]
    cases firstOk (c :: l) <;> cases anyI badB l (0 + 1) <;> cases decide ((c :: l).length ≤ 30) <;> cases isW (c :: l) <;> simp [iteB, bindO]
/-! ### Series -/
/-- What is wrong with sample i of a list. -/
def smpE (l : List Sample) (i : Nat) (x : Sample) : Int :=
  if !(decide (0 ≤ x.At) && decide (x.At ≤ 1099511627776)) || !(decide (-1125899906842624 ≤ x.N) && decide (x.N ≤ 1125899906842624)) || !(decide (0 ≤ x.Mark) && decide (x.Mark ≤ 4)) then 9
  else if decide (x.N ≠ 0) && decide (x.Mark ≤ 1) then 2
  else match i with
    | 0 => 0
    | j + 1 => match l[j]? with
      | some y => if decide (x.At ≤ y.At) then 10 else 0
      | none => 0
def serF (l : List Sample) (fin : Option (Int × Int)) : Option (Int × Int) := findO (fun i x => if smpE l i x = 0 then none else some (some ((i : Int), smpE l i x))) fin l 0
theorem prev_get {l : List Sample} {i : Nat} (hi : i < l.length) (hl : l.length ≤ 9223372036854775807) (h0 : 0 < i) : ∃ y, l[i - 1]? = some y ∧ at' l (IntKind.i64.wrap ((i : Int) - 1)) = some y := by
  have h1 : i - 1 < l.length := by omega
  refine ⟨l[i - 1], List.getElem?_eq_getElem h1, ?_⟩
  rw [Go.OB.wrap_i64 (by omega) (by omega), show (i : Int) - 1 = ((i - 1 : Nat) : Int) by omega]
  exact at_ok (List.getElem?_eq_getElem h1)
theorem check_L1 (s : Series) (hs : s.Samples.length ≤ 9223372036854775807) (k : Unit → Option (Int × Int)) : F_series_check_L1 s k (s.Samples.length : Int) 0 = serF s.Samples (k ()) := by
  unfold F_series_check_L1 serF
  refine loopO_find s.Samples _ (k ()) hs ?_ ?_
  · intro kk i x hx hi
    simp only [letO_eq, swithin, bindO_s]
    rw [lt_true hi, iteB_tr, at_ok hx, bindO_s, wrap1 hi hs]
    unfold smpE
    cases decide (0 ≤ x.At) <;> cases decide (x.At ≤ 1099511627776) <;> simp only [Bool.and_true, Bool.and_false, Bool.true_and, Bool.false_and, Bool.not_true, Bool.not_false, Bool.true_or, Bool.false_or, iteB_tr, iteB_fa, bindO_s, if_true, Bool.false_eq_true, if_false] <;> try rfl
    cases decide (-1125899906842624 ≤ x.N) <;> cases decide (x.N ≤ 1125899906842624) <;> simp only [Bool.and_true, Bool.and_false, Bool.true_and, Bool.false_and, Bool.not_true, Bool.not_false, Bool.true_or, Bool.false_or, iteB_tr, iteB_fa, bindO_s, if_true, Bool.false_eq_true, if_false] <;> try rfl
    cases decide (0 ≤ x.Mark) <;> cases decide (x.Mark ≤ 4) <;> simp only [Bool.and_true, Bool.and_false, Bool.true_and, Bool.false_and, Bool.not_true, Bool.not_false, Bool.true_or, Bool.false_or, iteB_tr, iteB_fa, bindO_s, if_true, Bool.false_eq_true, if_false] <;> try rfl
    cases decide (x.N ≠ 0) <;> cases decide (x.Mark ≤ 1) <;> simp only [Bool.and_true, Bool.and_false, Bool.true_and, Bool.false_and, Bool.not_true, Bool.not_false, Bool.true_or, Bool.false_or, iteB_tr, iteB_fa, bindO_s, if_true, Bool.false_eq_true, if_false] <;> try rfl
    all_goals
      cases i with
      | zero => rfl
      | succ j =>
        obtain ⟨y, h1, h2⟩ := prev_get hi hs (by omega)
        have h3 : decide (0 < ((j + 1 : Nat) : Int)) = true := decide_eq_true (by omega)
        rw [h2, h3]
        simp only [Nat.add_sub_cancel] at h1
        simp only [iteB_tr, bindO_s, h1]
        cases decide (x.At ≤ y.At) <;> rfl
  · intro kk; simp only [letO_eq]; rw [lt_self]; rfl
theorem not_out (a b c : Int) : (decide (a < b) || decide (c < a)) = !(decide (b ≤ a) && decide (a ≤ c)) := by
  by_cases h1 : b ≤ a <;> by_cases h2 : a ≤ c <;> simp [h1, h2] <;> omega
theorem sampleFault_eq (x : Sample) : F_ref5_sampleFault x = some (if !(decide (0 ≤ x.At) && decide (x.At ≤ 1099511627776)) || !(decide (-1125899906842624 ≤ x.N) && decide (x.N ≤ 1125899906842624)) || !(decide (0 ≤ x.Mark) && decide (x.Mark ≤ 4)) then 9
    else if decide (x.N ≠ 0) && decide (x.Mark ≤ 1) then 2 else 0) := by
  unfold F_ref5_sampleFault F_ref5_numbered
  simp only [letO_eq, bindO_s, out5, not_out, iteB_or2, iteB_and]
  have h : (!decide (2 ≤ x.Mark)) = decide (x.Mark ≤ 1) := by rw [← decide_not]; exact decide_eq_decide.2 (by omega)
  rw [h]
  cases (!(decide (0 ≤ x.At) && decide (x.At ≤ 1099511627776))) <;> cases (!(decide (-1125899906842624 ≤ x.N) && decide (x.N ≤ 1125899906842624))) <;> cases (!(decide (0 ≤ x.Mark) && decide (x.Mark ≤ 4))) <;> cases decide (x.N ≠ 0) <;> cases decide (x.Mark ≤ 1) <;> rfl
theorem fault_L1 (s : Series) (hs : s.Samples.length ≤ 9223372036854775807) (k : Unit → Option (Int × Int)) : F_ref5_fault_L1 s k 0 = serF s.Samples (k ()) := by
  unfold F_ref5_fault_L1 serF
  refine loopO_find s.Samples _ (k ()) hs ?_ ?_
  · intro kk i x hx hi
    simp only [letO_eq, sampleFault_eq, bindO_s]
    rw [lt_true hi, iteB_tr, at_ok hx, bindO_s, wrap1 hi hs]
    unfold smpE
    cases (!(decide (0 ≤ x.At) && decide (x.At ≤ 1099511627776)) || !(decide (-1125899906842624 ≤ x.N) && decide (x.N ≤ 1125899906842624)) || !(decide (0 ≤ x.Mark) && decide (x.Mark ≤ 4)))
    · cases (decide (x.N ≠ 0) && decide (x.Mark ≤ 1))
      · cases i with
        | zero => rfl
        | succ j =>
          obtain ⟨y, h1, h2⟩ := prev_get hi hs (by omega)
          have h3 : decide (0 < ((j + 1 : Nat) : Int)) = true := decide_eq_true (by omega)
          rw [h2, h3]
          simp only [Nat.add_sub_cancel] at h1
          simp only [iteB_tr, bindO_s, h1, Bool.false_eq_true, if_false]
          cases decide (x.At ≤ y.At) <;> rfl
      · rfl
    · rfl
  · intro kk; simp only [letO_eq]; rw [lt_self]; rfl
/-- The error of a series. -/
def serE (s : Series) : Option (Int × Int) := if !(decide (1 ≤ s.Den) && decide (s.Den ≤ 1000000)) then some (-1, 9) else if decide (20000 < (s.Samples.length : Int)) then some (-1, 3) else serF s.Samples (some (-1, 0))
theorem check_eq (s : Series) (hs : s.Samples.length ≤ 9223372036854775807) : F_series_check s = serE s := by
  unfold F_series_check serE
  simp only [letO_eq, bindO_s, swithin, joinO_eq, check_L1 s hs, iteB_ite]
theorem fault_eq (s : Series) (hs : s.Samples.length ≤ 9223372036854775807) : F_ref5_fault s = serE s := by
  unfold F_ref5_fault serE
  simp only [letO_eq, bindO_s, out5, not_out, joinO_eq, fault_L1 s hs, iteB_ite]
theorem findO_some {α β : Type} {q : Nat → α → Option (Option β)} {fin : Option β} (hf : ∃ r, fin = some r) (hq : ∀ i x r, q i x = some r → ∃ y, r = some y) : ∀ (l : List α) (i : Nat), ∃ r, findO q fin l i = some r
  | [], i => hf
  | x :: l, i => by
    rw [findO]
    cases h : q i x with
    | none => exact findO_some hf hq l (i + 1)
    | some r => exact hq i x r h
theorem ite_some {β : Type} {p : Prop} [Decidable p] {y : β} {r : Option β} (h : (if p then none else some (some y)) = some r) : ∃ z, r = some z := by
  split at h
  · cases h
  · cases h; exact ⟨_, rfl⟩
theorem serE_some (s : Series) : ∃ r, serE s = some r := by
  unfold serE serF
  split
  · exact ⟨_, rfl⟩
  · split
    · exact ⟨_, rfl⟩
    · exact findO_some ⟨_, rfl⟩ (fun i x r h => ite_some h) _ _
def serC (s : Series) : Int := ((serE s).getD (0, 0)).2
theorem sCheck_eq (s : Series) (hs : s.Samples.length ≤ 9223372036854775807) : F_series_Check s = some (serC s) := by
  obtain ⟨r, hr⟩ := serE_some s
  unfold F_series_Check serC; rw [check_eq s hs, hr]; rfl
theorem rCheck_eq (s : Series) (hs : s.Samples.length ≤ 9223372036854775807) : F_ref5_Check s = some (serC s) := by
  obtain ⟨r, hr⟩ := serE_some s
  unfold F_ref5_Check serC; rw [fault_eq s hs, hr]; rfl
end Go.Lf
