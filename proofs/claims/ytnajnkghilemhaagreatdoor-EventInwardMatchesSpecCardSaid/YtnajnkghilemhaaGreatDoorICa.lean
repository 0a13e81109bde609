/- Walks: what each function computes, for every argument; no condition but those that stand in the statements. -/
import Derived.Test.YtnajnkghilemhaaGreatDoorIOk
import Derived.Test.YtnajnkghilemhaaGreatDoorPl
namespace Go.Lf
def kws : List Str := [[112, 104, 97, 115, 101], [109, 111, 118, 101], [114, 117, 108, 101], [105, 102], [111, 114], [97, 110, 100], [116, 114, 117, 101], [102, 97, 108, 115, 101], [115, 116, 101, 97, 100, 121], [110, 111, 116], [102, 111, 114], [119, 105, 116, 104, 105, 110], [99, 111, 117, 110, 116], [111, 102], [114, 105, 115, 101, 115], [115, 105, 110, 99, 101]]
theorem ewithin (a b c : Int) : F_event_within a b c = some (decide (b ≤ a) && decide (a ≤ c)) := by
  unfold F_event_within; simp only [yV, iteB_and, yO]
theorem out6 (a b c : Int) : F_ref6_outside a b c = some (decide (a < b) || decide (c < a)) := by
  unfold F_ref6_outside; simp only [yV, iteB_or2, yO]
def isW (s : Str) : Bool := decide (s ∈ kws)
theorem isWord_eq (s : Str) : F_event_isWord s = some (isW s) := by
  unfold F_event_isWord isW kws
  simp only [yV, iteB_or, yO, iteB_id, List.mem_cons, List.not_mem_nil, or_false, Bool.decide_or]
def nmB (c : Int) : Bool := (decide (97 ≤ c) && decide (c ≤ 122)) || (decide (48 ≤ c) && decide (c ≤ 57)) || decide (c = 45)
theorem nameByte_eq (c : Int) : F_event_nameByte c = some (nmB c) := by
  unfold F_event_nameByte nmB
  simp only [yV, yO]
  cases decide (97 ≤ c) <;> cases decide (c ≤ 122) <;> cases decide (48 ≤ c) <;> cases decide (c ≤ 57) <;> cases decide (c = 45) <;> rfl
def badB : Nat → UInt8 → Bool := fun _ c => !nmB (c.toNat : Int)
theorem isName_L1 (s : Str) (hs : okS s) (k : Unit → Option Bool) : F_event_isName_L1 s k (s.length : Int) 0 = if anyI badB s 0 = true then some false else k () := by
  unfold F_event_isName_L1
  rw [loopO_find s (fun i c => if badB i c = true then some (some false) else none) (k ()) hs]
  · exact findO_any badB (some false) (k ()) s 0
  · intro kk i c hc hi
    unfold badB
    simp only [yV]
    rw [lt_true hi, xQ, byte_nat hc, yO, nameByte_eq, yO]
    cases nmB (c.toNat : Int)
    · rfl
    · simp only [Bool.not_true, xP]; rw [wrap1 hi hs]; rfl
  · intro kk; simp only [yV]; rw [lt_self]; rfl
def firstOk (s : Str) : Bool := match s with
  | [] => false
  | c :: _ => decide (97 ≤ (c.toNat : Int)) && decide ((c.toNat : Int) ≤ 122)
def isNm (s : Str) : Bool := decide (s.length ≤ 30) && firstOk s && !isW s && !anyI badB s 0
theorem isName_eq (s : Str) (hs : okS s) : F_event_isName s = some (isNm s) := by
  unfold F_event_isName isNm
  simp only [yV, yO, ewithin, joinO_eq, isName_L1 s hs, isWord_eq]
  cases s with
  | nil => rfl
  | cons c l =>
    have h0 : byte' (c :: l) 0 = some (c.toNat : Int) := byte_nat (i := 0) rfl
    have h1 : decide ((1 : Int) ≤ ((c :: l).length : Int)) = true := decide_eq_true (by simp; omega)
    have h2 : decide (((c :: l).length : Int) ≤ 30) = decide ((c :: l).length ≤ 30) := decide_eq_decide.2 (by omega)
    have h3 : decide ((c.toNat : Int) < 97) = !decide (97 ≤ (c.toNat : Int)) := by rw [← decide_not]; exact decide_eq_decide.2 (by omega)
    have h4 : decide (122 < (c.toNat : Int)) = !decide ((c.toNat : Int) ≤ 122) := by rw [← decide_not]; exact decide_eq_decide.2 (by omega)
    rw [h0, h1, h2]
    simp only [yO, Bool.true_and, h3, h4, firstOk]
    cases decide ((c :: l).length ≤ 30) <;> cases decide (97 ≤ (c.toNat : Int)) <;> cases decide ((c.toNat : Int) ≤ 122) <;> cases isW (c :: l) <;> cases anyI badB (c :: l) 0 <;> rfl
end Go.Lf
namespace Go.Lf
theorem reserved_eq (s : Str) : F_ref6_Reserved s = some (isW s) := by
  unfold F_ref6_Reserved F_ref6_words
  simp only [yV, yO, joinO_eq]
  change F_ref6_Reserved_L1 s kws (fun _ => some false) 0 = _
  unfold F_ref6_Reserved_L1
  rw [loopO_find kws (fun _ x => if decide (x = s) = true then some (some true) else none) (some false) (by decide)]
  · rw [findO_any (fun _ x => decide (x = s))]
    have e : anyI (fun _ x => decide (x = s)) kws 0 = isW s := by
      rw [Bool.eq_iff_iff, anyI_iff]
      unfold isW
      simp only [decide_eq_true_eq]
      constructor
      · rintro ⟨j, x, h, rfl⟩; exact List.mem_of_getElem? h
      · intro h; obtain ⟨j, hj⟩ := List.getElem?_of_mem h; exact ⟨j, s, hj, rfl⟩
    rw [e]; cases isW s <;> rfl
  · intro kk i c hc hi
    simp only [yV]
    rw [lt_true hi, xQ, at_ok hc, yO]
    cases decide (c = s)
    · simp only [xP]; rw [wrap1 hi (by decide)]; rfl
    · rfl
  · intro kk; simp only [yV]; rw [lt_self]; rfl
def badR : Nat → UInt8 → Bool := fun i c => !((decide (97 ≤ (c.toNat : Int)) && decide ((c.toNat : Int) ≤ 122)) || (decide (0 < (i : Int)) && ((decide (48 ≤ (c.toNat : Int)) && decide ((c.toNat : Int) ≤ 57)) || decide ((c.toNat : Int) = 45))))
theorem rIsName_L1 (s : Str) (hs : okS s) (k : Unit → Option Bool) : F_ref6_IsName_L1 s k 0 = if anyI badR s 0 = true then some false else k () := by
  unfold F_ref6_IsName_L1
  rw [loopO_find s (fun i c => if badR i c = true then some (some false) else none) (k ()) hs]
  · exact findO_any badR (some false) (k ()) s 0
  · intro kk i c hc hi
    unfold badR
    simp only [yV]
    rw [lt_true hi, xQ, byte_nat hc, yO]
    rw [wrap1 hi hs]
    cases decide (97 ≤ (c.toNat : Int)) <;> cases decide ((c.toNat : Int) ≤ 122) <;> cases decide (0 < (i : Int)) <;> cases decide (48 ≤ (c.toNat : Int)) <;> cases decide ((c.toNat : Int) ≤ 57) <;> cases decide ((c.toNat : Int) = 45) <;> rfl
  · intro kk; simp only [yV]; rw [lt_self]; rfl
theorem rIsName_eq (s : Str) (hs : okS s) : F_ref6_IsName s = some (isNm s) := by
  unfold F_ref6_IsName isNm
  simp only [yV, yO, joinO_eq, rIsName_L1 s hs, reserved_eq]
  cases s with
  | nil => rfl
  | cons c l =>
    have h2 : decide (((c :: l).length : Int) ≤ 30) = decide ((c :: l).length ≤ 30) := decide_eq_decide.2 (by omega)
    have h5 : decide ((c :: l) ≠ []) = true := by simp
    have e : anyI badR l (0 + 1) = anyI badB l (0 + 1) := anyI_congr l (0 + 1) fun j x _ => by
      have : decide (0 < ((0 + 1 + j : Nat) : Int)) = true := decide_eq_true (by omega)
      unfold badR badB nmB
      rw [this]
      simp only [Bool.true_and, Bool.or_assoc]
    rw [anyI, anyI, e, h2, h5]
    have e2 : badR 0 c = !(decide (97 ≤ (c.toNat : Int)) && decide ((c.toNat : Int) ≤ 122)) := by unfold badR; simp
    have e3 : badB 0 c = !(firstOk (c :: l) || (decide (48 ≤ (c.toNat : Int)) && decide ((c.toNat : Int) ≤ 57)) || decide ((c.toNat : Int) = 45)) := rfl
    have e4 : badR 0 c = !firstOk (c :: l) := e2
    rw [e3, e4]
    cases firstOk (c :: l) <;> cases anyI badB l (0 + 1) <;> cases decide ((c :: l).length ≤ 30) <;> cases isW (c :: l) <;> simp [iteB, bindO]
/-! ### Series -/
theorem not_out (a b c : Int) : (decide (a < b) || decide (c < a)) = !(decide (b ≤ a) && decide (a ≤ c)) := by
  by_cases h1 : b ≤ a <;> by_cases h2 : a ≤ c <;> simp [h1, h2] <;> omega
end Go.Lf
namespace Go.Lf
open Go.OB
def okN (c : Cond) : Prop := okS c.Name ∧ okS c.Other
theorem len_k (n : Nat) (k : Int) : (!(decide (k ≤ (n : Int)) && decide ((n : Int) ≤ k))) = decide ((n : Int) ≠ k) := by
  by_cases h : (n : Int) = k
  · simp [h]
  · by_cases h1 : k ≤ (n : Int)
    · by_cases h2 : (n : Int) ≤ k
      · omega
      · simp [h, h1, h2]
    · simp [h, h1]
theorem len_2 {n : Nat} (hn : n ≤ 200) : (!(decide (2 ≤ (n : Int)) && decide ((n : Int) ≤ 200))) = decide ((n : Int) < 2) := by
  rw [Bool.eq_iff_iff]
  simp only [Bool.not_eq_true', Bool.and_eq_false_iff, decide_eq_false_iff_not, decide_eq_true_eq]
  omega
section
variable (nm ot : Str) (op n fr : Int) (ks : List Cond)
theorem fo1 : F_event_fieldsOf 1 = some (⟨false, false, false, false, false, 0, 0⟩, true) := rfl
theorem rf1 : F_ref6_fields 1 = some (false, false, false, false, false, 0) := rfl
theorem fo2 : F_event_fieldsOf 2 = some (⟨false, false, false, false, false, 0, 0⟩, true) := rfl
theorem rf2 : F_ref6_fields 2 = some (false, false, false, false, false, 0) := rfl
theorem fo3 : F_event_fieldsOf 3 = some (⟨true, false, true, true, false, 0, 0⟩, true) := rfl
theorem rf3 : F_ref6_fields 3 = some (true, false, true, true, false, 0) := rfl
theorem fo4 : F_event_fieldsOf 4 = some (⟨true, true, true, false, false, 0, 0⟩, true) := rfl
theorem rf4 : F_ref6_fields 4 = some (true, true, true, false, false, 0) := rfl
theorem fo5 : F_event_fieldsOf 5 = some (⟨true, false, false, true, true, 0, 0⟩, true) := rfl
theorem rf5 : F_ref6_fields 5 = some (true, false, false, true, true, 0) := rfl
theorem fo6 : F_event_fieldsOf 6 = some (⟨true, false, false, false, false, 0, 0⟩, true) := rfl
theorem rf6 : F_ref6_fields 6 = some (true, false, false, false, false, 0) := rfl
theorem fo7 : F_event_fieldsOf 7 = some (⟨true, false, false, false, false, 0, 0⟩, true) := rfl
theorem rf7 : F_ref6_fields 7 = some (true, false, false, false, false, 0) := rfl
theorem fo8 : F_event_fieldsOf 8 = some (⟨false, false, false, false, false, 1, 1⟩, true) := rfl
theorem rf8 : F_ref6_fields 8 = some (false, false, false, false, false, 1) := rfl
theorem fo9 : F_event_fieldsOf 9 = some (⟨false, false, false, false, false, 2, 200⟩, true) := rfl
theorem rf9 : F_ref6_fields 9 = some (false, false, false, false, false, (-1)) := rfl
theorem fo10 : F_event_fieldsOf 10 = some (⟨false, false, false, false, false, 2, 200⟩, true) := rfl
theorem rf10 : F_ref6_fields 10 = some (false, false, false, false, false, (-1)) := rfl
theorem fo11 : F_event_fieldsOf 11 = some (⟨false, false, false, false, true, 1, 1⟩, true) := rfl
theorem rf11 : F_ref6_fields 11 = some (false, false, false, false, true, 1) := rfl
theorem fo12 : F_event_fieldsOf 12 = some (⟨false, false, false, false, true, 1, 1⟩, true) := rfl
theorem rf12 : F_ref6_fields 12 = some (false, false, false, false, true, 1) := rfl
theorem fo13 : F_event_fieldsOf 13 = some (⟨false, false, false, true, true, 1, 1⟩, true) := rfl
theorem rf13 : F_ref6_fields 13 = some (false, false, false, true, true, 1) := rfl
theorem fo14 : F_event_fieldsOf 14 = some (⟨false, false, false, false, false, 2, 2⟩, true) := rfl
theorem rf14 : F_ref6_fields 14 = some (false, false, false, false, false, 2) := rfl
theorem fo15 : F_event_fieldsOf 15 = some (⟨false, false, false, false, false, 1, 1⟩, true) := rfl
theorem rf15 : F_ref6_fields 15 = some (false, false, false, false, false, 1) := rfl
set_option maxHeartbeats 20000000 in
theorem chk_in (k : Int) (hk2 : k = 1 ∨ k = 2 ∨ k = 3 ∨ k = 4 ∨ k = 5 ∨ k = 6 ∨ k = 7 ∨ k = 8 ∨ k = 9 ∨ k = 10 ∨ k = 11 ∨ k = 12 ∨ k = 13 ∨ k = 14 ∨ k = 15) (h1 : okS nm) (h2 : okS ot) (hk : ks.length ≤ 200) : F_event_checkOne ⟨k, nm, ot, op, n, fr, ks⟩ = F_ref6_nodeFault ⟨k, nm, ot, op, n, fr, ks⟩ ∧ ∃ r, F_ref6_nodeFault ⟨k, nm, ot, op, n, fr, ks⟩ = some r := by
  have hb : (decide (1 ≤ fr) && decide (fr ≤ 4096)) = true → (decide (1 ≤ n) && decide (n ≤ fr)) = true → (decide (-1125899906842624 ≤ n) && decide (n ≤ 1125899906842624)) = true := by
    simp only [Bool.and_eq_true, decide_eq_true_eq]; omega
  rcases hk2 with rfl | rfl | rfl | rfl | rfl | rfl | rfl | rfl | rfl | rfl | rfl | rfl | rfl | rfl | rfl <;>
    (unfold F_event_checkOne F_ref6_nodeFault
     simp only [fo1, fo2, fo3, fo4, fo5, fo6, fo7, fo8, fo9, fo10, fo11, fo12, fo13, fo14, fo15, rf1, rf2, rf3, rf4, rf5, rf6, rf7, rf8, rf9, rf10, rf11, rf12, rf13, rf14, rf15, yO, yV, Bool.not_true, Bool.not_false, xQ, xP, joinO_eq, out6, ewithin, isName_eq _ h1, rIsName_eq _ h1, isName_eq _ h2, rIsName_eq _ h2, Int.reduceEq, Int.reduceLT, Int.reduceLE, decide_true, decide_false, Bool.or_self, iteB_or, iteB_or2, iteB_and]
     simp only [not_out, len_k, len_2 hk]
     generalize (decide (1 ≤ op) && decide (op ≤ 6)) = b1
     generalize (decide (1 ≤ fr) && decide (fr ≤ 4096)) = b2 at hb ⊢
     generalize (decide (1 ≤ n) && decide (n ≤ fr)) = b3 at hb ⊢
     generalize (decide (-1125899906842624 ≤ n) && decide (n ≤ 1125899906842624)) = b4 at hb ⊢
     simp only [iteB_ite]
     grind)
end
theorem chk_no (c : Cond) (h : ¬ (1 ≤ c.Kind ∧ c.Kind ≤ 15)) : F_event_checkOne c = some 7 ∧ F_ref6_nodeFault c = some 7 := by
  have e : ∀ k : Int, 1 ≤ k → k ≤ 15 → decide (c.Kind = k) = false := fun k h1 h2 => decide_eq_false (by omega)
  constructor
  · unfold F_event_checkOne F_event_fieldsOf
    simp only [yV, e 1 (by decide) (by decide), e 2 (by decide) (by decide), e 3 (by decide) (by decide), e 4 (by decide) (by decide), e 5 (by decide) (by decide), e 6 (by decide) (by decide), e 7 (by decide) (by decide), e 8 (by decide) (by decide), e 9 (by decide) (by decide), e 10 (by decide) (by decide), e 11 (by decide) (by decide), e 12 (by decide) (by decide), e 13 (by decide) (by decide), e 14 (by decide) (by decide), e 15 (by decide) (by decide), xP, yO, Bool.not_false, xQ]
  · unfold F_ref6_nodeFault
    rw [out6, yO, not_out]
    have q : (decide (1 ≤ c.Kind) && decide (c.Kind ≤ 15)) = false := by
      rw [Bool.and_eq_false_iff, decide_eq_false_iff_not, decide_eq_false_iff_not]; omega
    rw [q]; rfl
def ck1 (c : Cond) : Int := (F_ref6_nodeFault c).getD 0
theorem ck_both (c : Cond) (h : okN c) (hk : c.Kids.length ≤ 200) : F_event_checkOne c = some (ck1 c) ∧ F_ref6_nodeFault c = some (ck1 c) := by
  have key : F_event_checkOne c = F_ref6_nodeFault c ∧ ∃ r, F_ref6_nodeFault c = some r := by
    by_cases hb : 1 ≤ c.Kind ∧ c.Kind ≤ 15
    · obtain ⟨k, nm, ot, op, n, fr, ks⟩ := c
      have hk2 : k = 1 ∨ k = 2 ∨ k = 3 ∨ k = 4 ∨ k = 5 ∨ k = 6 ∨ k = 7 ∨ k = 8 ∨ k = 9 ∨ k = 10 ∨ k = 11 ∨ k = 12 ∨ k = 13 ∨ k = 14 ∨ k = 15 := by have := hb.1; have := hb.2; simp only at *; omega
      exact chk_in nm ot op n fr ks k hk2 h.1 h.2 hk
    · obtain ⟨h1, h2⟩ := chk_no c hb
      exact ⟨h1.trans h2.symm, _, h2⟩
  obtain ⟨h1, r, h2⟩ := key
  have e : ck1 c = r := by unfold ck1; rw [h2]; rfl
  rw [e, h1]
  exact ⟨h2, h2⟩
end Go.Lf
namespace Go.Lf
open Go.OB
mutual
def cN : Cond → Nat
  | ⟨_, _, _, _, _, _, ks⟩ => 1 + cNs ks
def cNs : List Cond → Nat
  | [] => 0
  | c :: l => cN c + cNs l
end
mutual
def dN : Cond → Nat
  | ⟨_, _, _, _, _, _, ks⟩ => 1 + dNs ks
def dNs : List Cond → Nat
  | [] => 0
  | c :: l => max (dN c) (dNs l)
end
mutual
def okC : Cond → Prop
  | ⟨k, nm, ot, op, n, fr, ks⟩ => (i64 k ∧ okS nm ∧ okS ot ∧ i64 op ∧ i64 n ∧ i64 fr) ∧ ks.length ≤ 9223372036854775807 ∧ okCs ks
def okCs : List Cond → Prop
  | [] => True
  | c :: l => okC c ∧ okCs l
end
mutual
def fE (f : Cond → Int) : Cond → Int
  | ⟨k, nm, ot, op, n, fr, ks⟩ => if f ⟨k, nm, ot, op, n, fr, ks⟩ = 0 then fEs f ks else f ⟨k, nm, ot, op, n, fr, ks⟩
def fEs (f : Cond → Int) : List Cond → Int
  | [] => 0
  | c :: l => if fE f c = 0 then fEs f l else fE f c
end
theorem cN_eq (c : Cond) : cN c = 1 + cNs c.Kids := by cases c; rfl
theorem dN_eq (c : Cond) : dN c = 1 + dNs c.Kids := by cases c; rfl
theorem fE_eq (f : Cond → Int) (c : Cond) : fE f c = if f c = 0 then fEs f c.Kids else f c := by cases c; rfl
theorem okC_eq (c : Cond) : okC c ↔ (i64 c.Kind ∧ okS c.Name ∧ okS c.Other ∧ i64 c.Op ∧ i64 c.N ∧ i64 c.Frames) ∧ c.Kids.length ≤ 9223372036854775807 ∧ okCs c.Kids := by cases c; rfl
theorem okCs_iff : ∀ (l : List Cond), okCs l ↔ ∀ c ∈ l, okC c
  | [] => by simp [okCs]
  | c :: l => by rw [okCs, okCs_iff l]; simp
theorem cN_pos (c : Cond) : 1 ≤ cN c := by rw [cN_eq]; omega
theorem dN_pos (c : Cond) : 1 ≤ dN c := by rw [dN_eq]; omega
theorem len_cNs : ∀ l : List Cond, l.length ≤ cNs l
  | [] => Nat.le_refl _
  | c :: l => by have := len_cNs l; have := cN_pos c; rw [cNs, List.length_cons]; omega
theorem mem_cNs {c : Cond} : ∀ {l : List Cond}, c ∈ l → cN c ≤ cNs l
  | a :: l, h => by
    rw [cNs]
    rcases List.mem_cons.1 h with rfl | h
    · omega
    · have := mem_cNs h; omega
theorem mem_dNs {c : Cond} : ∀ {l : List Cond}, c ∈ l → dN c ≤ dNs l
  | a :: l, h => by
    rw [dNs]
    rcases List.mem_cons.1 h with rfl | h
    · omega
    · have := mem_dNs h; omega
theorem dNs_mem {n : Nat} : ∀ {l : List Cond}, n < dNs l → ∃ x, x ∈ l ∧ n < dN x
  | [], h => by simp [dNs] at h
  | a :: l, h => by
    rw [dNs] at h
    by_cases q : n < dN a
    · exact ⟨a, List.mem_cons_self, q⟩
    · obtain ⟨x, h1, h2⟩ := dNs_mem (l := l) (n := n) (by omega)
      exact ⟨x, List.mem_cons_of_mem _ h1, h2⟩
/-! ### small -/
def stS (rf : Cond → Int → Int → Option (Bool × Int)) (l : Int) : Nat → Cond → Int → Int ⊕ Option (Bool × Int) := fun _ x s => match rf x l s with
  | none => .inr none
  | some (true, s') => .inl s'
  | some (false, s') => .inr (some (false, s'))
theorem small_list (rf : Cond → Int → Int → Option (Bool × Int)) (l : Nat) :
    ∀ (ks : List Cond) (_ : ∀ c ∈ ks, ∀ k : Nat, k ≤ 200 → ∃ k' : Nat, rf c (l : Int) (k : Int) = some (decide (dN c ≤ l ∧ k + cN c ≤ 200), (k' : Int)) ∧ (dN c ≤ l ∧ k + cN c ≤ 200 → k' = k + cN c)) (i k : Nat), k ≤ 200 → ∃ k' : Nat, runL (stS rf l) (fun s => some (true, s)) ks i (k : Int) = some (decide (dNs ks ≤ l ∧ k + cNs ks ≤ 200), (k' : Int)) ∧ (dNs ks ≤ l ∧ k + cNs ks ≤ 200 → k' = k + cNs ks)
  | [], _, i, k, hk => ⟨k, by simp [runL, dNs, cNs, hk], fun _ => by simp [cNs]⟩
  | c :: ks, hr, i, k, hk => by
    obtain ⟨k1, h1, h2⟩ := hr c List.mem_cons_self k hk
    rw [runL]
    simp only [stS, h1]
    by_cases hc : dN c ≤ l ∧ k + cN c ≤ 200
    · obtain rfl := h2 hc
      obtain ⟨k2, h3, h4⟩ := small_list rf l ks (fun c hc => hr c (List.mem_cons_of_mem _ hc)) (i + 1) (k + cN c) hc.2
      rw [decide_eq_true hc]
      refine ⟨k2, ?_, ?_⟩
      · simp only []
        rw [h3]
        congr 2
        rw [decide_eq_decide, dNs, cNs]
        have := hc.1
        omega
      · rw [dNs, cNs]; intro h; rw [h4 (by omega)]; omega
    · rw [decide_eq_false hc]
      refine ⟨k1, ?_, ?_⟩
      · simp only []
        congr 2
        refine (decide_eq_false ?_).symm
        rw [dNs, cNs]; omega
      · rw [dNs, cNs]; intro h; exfalso; omega
theorem small_R : ∀ (n : Nat) (c : Cond) (l k : Nat), l < n → k ≤ 200 → l ≤ 1000 → okC c → ∃ k' : Nat, F_event_small_R n c (l : Int) (k : Int) = some (decide (dN c ≤ l ∧ k + cN c ≤ 200), (k' : Int)) ∧ (dN c ≤ l ∧ k + cN c ≤ 200 → k' = k + cN c)
  | 0, _, _, _, h, _, _, _ => by omega
  | n + 1, c, l, k, h, hk, hl, ok => by
    have hlen := ((okC_eq c).1 ok).2.1
    have oks := (okCs_iff _).1 ((okC_eq c).1 ok).2.2
    have ew : IntKind.i64.wrap ((k : Int) + 1) = ((k + 1 : Nat) : Int) := wrap1 (n := 1000) (by omega) (by omega)
    show ∃ k' : Nat, F_event_small_B (F_event_small_R n) c (l : Int) (k : Int) = _ ∧ _
    unfold F_event_small_B
    simp only [yV, joinO_eq, iteB_or2, yO, ew]
    have hd := dN_eq c
    have hc := cN_eq c
    by_cases h0 : l = 0
    · subst h0
      refine ⟨k + 1, ?_, fun q => by exfalso; omega⟩
      rw [decide_eq_true (show ((0 : Nat) : Int) = 0 from rfl), Bool.true_or, xQ, decide_eq_false (by omega)]
    · by_cases h2 : 200 < k + 1
      · refine ⟨k + 1, ?_, fun q => by exfalso; omega⟩
        rw [decide_eq_true (show (200 : Int) < ((k + 1 : Nat) : Int) by omega), Bool.or_true, xQ, decide_eq_false (by omega)]
      · rw [decide_eq_false (show ¬ (l : Int) = 0 by omega), decide_eq_false (show ¬ (200 : Int) < ((k + 1 : Nat) : Int) by omega), Bool.or_self, xP]
        obtain ⟨m, rfl⟩ : ∃ m, l = m + 1 := ⟨l - 1, by omega⟩
        have el : IntKind.i64.wrap (((m + 1 : Nat) : Int) - 1) = (m : Int) := by rw [wrap_i64 (by omega) (by omega)]; omega
        obtain ⟨k', h3, h4⟩ := small_list (F_event_small_R n) m c.Kids (fun x hx k hk => small_R n x m k (by omega) hk (by omega) (oks x hx)) 0 (k + 1) (by omega)
        refine ⟨k', ?_, ?_⟩
        · unfold F_event_small_B_L1
          simp only [yV, el]
          refine (loopO_runL (fun (i : Nat) (s : Int) => ((i : Int), s)) c.Kids (stS (F_event_small_R n) m) (fun s => some (true, s)) hlen ?_ ?_ ((k + 1 : Nat) : Int)).trans (h3.trans ?_)
          rotate_left 2
          · congr 2
            rw [decide_eq_decide]; omega
          · intro kk i s x hx
            have hi := (List.getElem?_eq_some_iff.1 hx).1
            simp only [stS]
            rw [lt_true hi, xQ, at_ok hx, yO, wrap1 hi hlen]
            cases F_event_small_R n x m s with
            | none => rfl
            | some r => obtain ⟨b, s'⟩ := r; cases b <;> rfl
          · intro kk s
            simp only []
            rw [lt_self, xP]
        · intro q; rw [h4 (by omega)]; omega
theorem FU_gt {n : Nat} (h : n ≤ 1000000) : n < FU := FU_big (by omega)
theorem small_eq (c : Cond) (ok : okC c) : ∃ k' : Int, F_event_small c 20 0 = some (decide (dN c ≤ 20 ∧ cN c ≤ 200), k') := by
  obtain ⟨k', h1, _⟩ := small_R FU c 20 0 (FU_gt (by decide)) (by decide) (by decide) ok
  refine ⟨k', ?_⟩
  unfold F_event_small
  refine h1.trans ?_
  rw [Nat.zero_add]
/-! ### nodes -/
theorem nodes_R : ∀ (n : Nat) (c : Cond) (m : Nat), m < n → m ≤ 1000 → okC c → F_ref6_nodes_R n c (m : Int) = some ((min (cN c) (m + 1) : Nat) : Int)
  | 0, _, _, h, _, _ => by omega
  | n + 1, c, m, h, hm, ok => by
    have hlen := ((okC_eq c).1 ok).2.1
    have oks := (okCs_iff _).1 ((okC_eq c).1 ok).2.2
    show F_ref6_nodes_B (F_ref6_nodes_R n) c (m : Int) = _
    unfold F_ref6_nodes_B F_ref6_nodes_B_L1
    have e : loopO (fun k348 (x : Int × Int) => bindO (letO (c.Kids.length : Int) fun x379 => letO (decide (x.2 < x379)) fun x384 => iteB x384 (letO (decide (x.1 ≤ (m : Int))) fun x387 => some x387) (some false)) fun g376 => iteB g376
        (bindO (at' c.Kids x.2) fun x415 => letO (IntKind.i64.wrap ((m : Int) - x.1)) fun x430 => bindO (F_ref6_nodes_R n x415 x430) fun x433 => letO (IntKind.i64.wrap (x.1 + x433)) fun x437 => letO (IntKind.i64.wrap (x.2 + 1)) fun x439 => k348 (x437, x439)) (some x.1)) (1, 0) = some ((min (1 + cNs c.Kids) (m + 1) : Nat) : Int) := by
      have key : ∀ (d i s fu : Nat), i + d = c.Kids.length → d < fu → 1 ≤ s → s ≤ m + 1 → loopN (fun k348 (x : Int × Int) => bindO (letO (c.Kids.length : Int) fun x379 => letO (decide (x.2 < x379)) fun x384 => iteB x384 (letO (decide (x.1 ≤ (m : Int))) fun x387 => some x387) (some false)) fun g376 => iteB g376
        (bindO (at' c.Kids x.2) fun x415 => letO (IntKind.i64.wrap ((m : Int) - x.1)) fun x430 => bindO (F_ref6_nodes_R n x415 x430) fun x433 => letO (IntKind.i64.wrap (x.1 + x433)) fun x437 => letO (IntKind.i64.wrap (x.2 + 1)) fun x439 => k348 (x437, x439)) (some x.1)) fu ((s : Int), (i : Int)) = some ((min (s + cNs (c.Kids.drop i)) (m + 1) : Nat) : Int) := by
        intro d
        induction d with
        | zero =>
          intro i s fu h1 h2 h3 h4
          obtain ⟨f, rfl⟩ : ∃ f, fu = f + 1 := ⟨fu - 1, by omega⟩
          obtain rfl : i = c.Kids.length := by omega
          rw [loopN]
          simp only [yV, lt_self, xP, yO, List.drop_length, cNs]
          congr 2; omega
        | succ d ih =>
          intro i s fu h1 h2 h3 h4
          obtain ⟨f, rfl⟩ : ∃ f, fu = f + 1 := ⟨fu - 1, by omega⟩
          have hi : i < c.Kids.length := by omega
          obtain ⟨x, hx⟩ : ∃ x, c.Kids[i]? = some x := ⟨_, List.getElem?_eq_getElem hi⟩
          have ed : c.Kids.drop i = x :: c.Kids.drop (i + 1) := by
            rw [List.drop_eq_getElem_cons hi]
            congr 1
            exact Option.some.inj ((List.getElem?_eq_getElem hi).symm.trans hx)
          rw [loopN, ed, cNs]
          simp only [yV, lt_true hi, xQ, yO, at_ok hx]
          by_cases hs : s ≤ m
          · have ew : IntKind.i64.wrap ((m : Int) - (s : Int)) = ((m - s : Nat) : Int) := by rw [wrap_i64 (by omega) (by omega)]; omega
            rw [decide_eq_true (show (s : Int) ≤ (m : Int) by omega), xQ, ew, nodes_R n x (m - s) (by omega) (by omega) (oks x (List.mem_of_getElem? hx)), yO]
            have ew2 : IntKind.i64.wrap ((s : Int) + ((min (cN x) (m - s + 1) : Nat) : Int)) = ((s + min (cN x) (m - s + 1) : Nat) : Int) := by rw [wrap_i64 (by omega) (by omega)]; omega
            rw [ew2, wrap1 hi hlen]
            refine (ih (i + 1) _ f (by omega) (by omega) (by omega) (by omega)).trans ?_
            congr 2; omega
          · rw [decide_eq_false (show ¬ (s : Int) ≤ (m : Int) by omega), xP]
            congr 2; omega
      exact key c.Kids.length 0 1 FU (by omega) (FU_big hlen) (by omega) (by omega)
    refine (congrArg (fun o => bindO o fun g => some g) e).trans ?_
    rw [cN_eq]; rfl
/-! ### deeper -/
theorem deeper_R : ∀ (n : Nat) (c : Cond) (m : Nat), m < n → m ≤ 1000 → okC c → F_ref6_deeper_R n c (m : Int) = some (decide (m < dN c))
  | 0, _, _, h, _, _ => by omega
  | n + 1, c, m, h, hm, ok => by
    have hlen := ((okC_eq c).1 ok).2.1
    have oks := (okCs_iff _).1 ((okC_eq c).1 ok).2.2
    have hd := dN_eq c
    show F_ref6_deeper_B (F_ref6_deeper_R n) c (m : Int) = _
    unfold F_ref6_deeper_B
    simp only [yV, joinO_eq]
    cases m with
    | zero => rw [decide_eq_true (show ((0 : Nat) : Int) = 0 from rfl), xQ, decide_eq_true (by omega)]
    | succ m =>
      rw [decide_eq_false (show ¬ ((m + 1 : Nat) : Int) = 0 by omega), xP]
      have el : IntKind.i64.wrap (((m + 1 : Nat) : Int) - 1) = (m : Int) := by rw [wrap_i64 (by omega) (by omega)]; omega
      unfold F_ref6_deeper_B_L1
      simp only [yV, el]
      rw [loopO_find c.Kids (fun _ x => if decide (m < dN x) = true then some (some true) else none) (some false) hlen ?_ ?_]
      · rw [findO_any (fun _ x => decide (m < dN x))]
        by_cases q : m + 1 < dN c
        · rw [decide_eq_true q, if_pos]
          rw [anyI_iff]
          obtain ⟨x, hx, h2⟩ := dNs_mem (l := c.Kids) (n := m) (by omega)
          obtain ⟨j, hj⟩ := List.getElem?_of_mem hx
          exact ⟨j, x, hj, decide_eq_true h2⟩
        · rw [decide_eq_false q, if_neg]
          rw [anyI_iff]
          rintro ⟨j, x, hj, hx⟩
          have h1 := mem_dNs (List.mem_of_getElem? hj)
          have h2 := of_decide_eq_true hx
          omega
      · intro k i x hx hi
        rw [lt_true hi, xQ, at_ok hx, yO, deeper_R n x m (by omega) (by omega) (oks x (List.mem_of_getElem? hx)), yO, wrap1 hi hlen]
        cases decide (m < dN x) <;> rfl
      · intro k
        rw [lt_self, xP]
theorem nodes_eq (c : Cond) (ok : okC c) : F_ref6_nodes c 200 = some ((min (cN c) 201 : Nat) : Int) := nodes_R FU c 200 (FU_gt (by decide)) (by decide) ok
theorem deeper_eq (c : Cond) (ok : okC c) : F_ref6_deeper c 20 = some (decide (20 < dN c)) := deeper_R FU c 20 (FU_gt (by decide)) (by decide) ok
end Go.Lf
namespace Go.Lf
open Go.OB
theorem okN_of {c : Cond} (ok : okC c) : okN c := ⟨((okC_eq c).1 ok).1.2.1, ((okC_eq c).1 ok).1.2.2.1⟩
theorem fEs_find (f : Cond → Int) : ∀ (l : List Cond) (i : Nat), findO (fun _ x => if fE f x = 0 then none else some (some (fE f x))) (some 0) l i = some (fEs f l)
  | [], _ => rfl
  | c :: l, i => by
    rw [findO, fEs]
    by_cases h : fE f c = 0
    · rw [if_pos h, if_pos h]; exact fEs_find f l (i + 1)
    · rw [if_neg h, if_neg h]
theorem kid_ok {c x : Cond} {i : Nat} (ok : okC c) (hx : c.Kids[i]? = some x) : okC x ∧ dN x < dN c ∧ cN x < cN c := by
  have hm := List.mem_of_getElem? hx
  have h1 := mem_dNs hm
  have h2 := mem_cNs hm
  exact ⟨(okCs_iff _).1 ((okC_eq c).1 ok).2.2 x hm, by rw [dN_eq c]; omega, by rw [cN_eq c]; omega⟩
theorem each1_R : ∀ (n : Nat) (c : Cond), dN c ≤ n → okC c → cN c ≤ 200 → F_event_each_event_checkOne_R n c = some (fE ck1 c)
  | 0, c, h, _, _ => by have := dN_pos c; omega
  | n + 1, c, h, ok, hc => by
    have hlen := ((okC_eq c).1 ok).2.1
    have hl2 := len_cNs c.Kids
    have hcc := cN_eq c
    show F_event_each_event_checkOne_B (F_event_each_event_checkOne_R n) c = _
    unfold F_event_each_event_checkOne_B
    rw [(ck_both c (okN_of ok) (by omega)).1, yO, fE_eq]
    simp only [yV, joinO_eq]
    by_cases e : ck1 c = 0
    · rw [if_pos e, decide_eq_false (by simpa using e), xP]
      unfold F_event_each_event_checkOne_B_L1
      rw [loopO_find c.Kids (fun _ x => if fE ck1 x = 0 then none else some (some (fE ck1 x))) (some 0) hlen ?_ ?_, fEs_find]
      · intro k i x hx hi
        obtain ⟨k1, k2, k3⟩ := kid_ok ok hx
        simp only [yV]
        rw [lt_true hi, xQ, at_ok hx, yO, each1_R n x (by omega) k1 (by omega), yO, wrap1 hi hlen]
        by_cases z : fE ck1 x = 0
        · rw [if_pos z, decide_eq_false (by simpa using z), xP]
        · rw [if_neg z, decide_eq_true z, xQ]
      · intro k
        simp only [yV]
        rw [lt_self, xP]
    · rw [if_neg e, decide_eq_true e, xQ]
theorem fault_R : ∀ (n : Nat) (c : Cond), dN c ≤ n → okC c → cN c ≤ 200 → F_ref6_nodesFault_R n c = some (fE ck1 c)
  | 0, c, h, _, _ => by have := dN_pos c; omega
  | n + 1, c, h, ok, hc => by
    have hlen := ((okC_eq c).1 ok).2.1
    have hl2 := len_cNs c.Kids
    have hcc := cN_eq c
    show F_ref6_nodesFault_B (F_ref6_nodesFault_R n) c = _
    unfold F_ref6_nodesFault_B
    rw [(ck_both c (okN_of ok) (by omega)).2, yO, fE_eq]
    have key : ∀ (B : (Int × Int → Option Int) → Int × Int → Option Int) (_ : ∀ k (e i : Int), B k (e, i) = bindO (letO (c.Kids.length : Int) fun x352 => letO (decide (i < x352)) fun x357 => iteB x357 (letO (decide (e = 0)) fun x360 => some x360) (some false)) fun g349 => iteB g349 (bindO (at' c.Kids i) fun x384 => bindO (F_ref6_nodesFault_R n x384) fun x400 => letO (IntKind.i64.wrap (i + 1)) fun x404 => k (x400, x404)) (some e)) (d i : Nat) (e : Int) (fu : Nat), i + d = c.Kids.length → d < fu → loopN B fu (e, (i : Int)) = some (if e = 0 then fEs ck1 (c.Kids.drop i) else e) := by
      intro B hB d
      induction d with
      | zero =>
        intro i e fu h1 h2
        obtain ⟨f, rfl⟩ : ∃ f, fu = f + 1 := ⟨fu - 1, by omega⟩
        obtain rfl : i = c.Kids.length := by omega
        rw [loopN, hB]
        simp only [yV, lt_self, xP, yO, List.drop_length, fEs]
        split <;> simp_all
      | succ d ih =>
        intro i e fu h1 h2
        obtain ⟨f, rfl⟩ : ∃ f, fu = f + 1 := ⟨fu - 1, by omega⟩
        have hi : i < c.Kids.length := by omega
        obtain ⟨x, hx⟩ : ∃ x, c.Kids[i]? = some x := ⟨_, List.getElem?_eq_getElem hi⟩
        have ed : c.Kids.drop i = x :: c.Kids.drop (i + 1) := by
          rw [List.drop_eq_getElem_cons hi]
          congr 1
          exact Option.some.inj ((List.getElem?_eq_getElem hi).symm.trans hx)
        obtain ⟨k1, k2, k3⟩ := kid_ok ok hx
        rw [loopN, hB, ed, fEs]
        simp only [yV, lt_true hi, xQ, yO, at_ok hx]
        by_cases z : e = 0
        · rw [decide_eq_true z, xQ, fault_R n x (by omega) k1 (by omega), yO, wrap1 hi hlen, ih (i + 1) _ f (by omega) (by omega), if_pos z]
        · rw [decide_eq_false z, xP, if_neg z]
    unfold F_ref6_nodesFault_B_L1 loopO
    refine (congrArg (fun o => bindO o fun g => some g) (key _ (fun _ _ _ => rfl) c.Kids.length 0 (ck1 c) FU (by omega) (FU_big hlen))).trans ?_
    rw [yO, List.drop_zero]
def ckC (c : Cond) : Int := if dN c ≤ 20 ∧ cN c ≤ 200 then fE ck1 c else 3
theorem CheckCond_eq (c : Cond) (ok : okC c) : F_event_CheckCond c = some (ckC c) := by
  unfold F_event_CheckCond ckC
  obtain ⟨k', h⟩ := small_eq c ok
  rw [h, yO]
  simp only [yV]
  by_cases q : dN c ≤ 20 ∧ cN c ≤ 200
  · rw [if_pos q, decide_eq_true q, Bool.not_true, xP]
    unfold F_event_each_event_checkOne
    rw [each1_R FU c (Nat.le_of_lt (FU_gt (by omega))) ok q.2]; rfl
  · rw [if_neg q, decide_eq_false q, Bool.not_false, xQ]
theorem rCheckCond_eq (c : Cond) (ok : okC c) : F_ref6_CheckCond c = some (ckC c) := by
  unfold F_ref6_CheckCond ckC
  rw [nodes_eq c ok, yO]
  simp only [yV]
  rw [deeper_eq c ok, yO, iteB_or2, yO]
  by_cases q : dN c ≤ 20 ∧ cN c ≤ 200
  · have e1 : decide ((200 : Int) < ((min (cN c) 201 : Nat) : Int)) = false := decide_eq_false (by omega)
    have e2 : decide (20 < dN c) = false := decide_eq_false (by omega)
    rw [if_pos q, e1, e2, Bool.or_self, xP]
    unfold F_ref6_nodesFault
    rw [fault_R FU c (Nat.le_of_lt (FU_gt (by omega))) ok q.2]; rfl
  · have e : (decide ((200 : Int) < ((min (cN c) 201 : Nat) : Int)) || decide (20 < dN c)) = true := by
      rw [Bool.or_eq_true, decide_eq_true_eq, decide_eq_true_eq]; omega
    rw [if_neg q, e, xQ]
theorem ckC_good {c : Cond} (h : ckC c = 0) : dN c ≤ 20 ∧ cN c ≤ 200 ∧ fE ck1 c = 0 := by
  unfold ckC at h
  split at h
  · rename_i q; exact ⟨q.1, q.2, h⟩
  · exact absurd h (by decide)
end Go.Lf
namespace Go.Lf
open Go.OB
theorem isNm_len {s : Str} (h : isNm s = true) : s.length ≤ 30 := by
  unfold isNm at h
  simp only [Bool.and_eq_true, decide_eq_true_eq] at h
  omega
structure Gd (c : Cond) : Prop where
  k1 : 1 ≤ c.Kind ∧ c.Kind ≤ 15
  nm : c.Name.length ≤ 30
  ot : c.Other.length ≤ 30
  op : 0 ≤ c.Op ∧ c.Op ≤ 6
  n : -1125899906842624 ≤ c.N ∧ c.N ≤ 1125899906842624
  fr : 0 ≤ c.Frames ∧ c.Frames ≤ 4096
set_option maxHeartbeats 20000000 in
theorem gd_in (nm ot : Str) (op n fr : Int) (ks : List Cond) (k : Int) (hk2 : k = 1 ∨ k = 2 ∨ k = 3 ∨ k = 4 ∨ k = 5 ∨ k = 6 ∨ k = 7 ∨ k = 8 ∨ k = 9 ∨ k = 10 ∨ k = 11 ∨ k = 12 ∨ k = 13 ∨ k = 14 ∨ k = 15) (h1 : okS nm) (h2 : okS ot) (h : F_ref6_nodeFault ⟨k, nm, ot, op, n, fr, ks⟩ = some 0) : Gd ⟨k, nm, ot, op, n, fr, ks⟩ := by
  have q1 := @isNm_len nm
  have q2 := @isNm_len ot
  rcases hk2 with rfl | rfl | rfl | rfl | rfl | rfl | rfl | rfl | rfl | rfl | rfl | rfl | rfl | rfl | rfl <;>
    (unfold F_ref6_nodeFault at h
     simp only [rf1, rf2, rf3, rf4, rf5, rf6, rf7, rf8, rf9, rf10, rf11, rf12, rf13, rf14, rf15, yO, yV, Bool.not_true, Bool.not_false, xQ, xP, joinO_eq, out6, rIsName_eq _ h1, rIsName_eq _ h2, Int.reduceEq, Int.reduceLT, Int.reduceLE, decide_true, decide_false, Bool.or_self, iteB_or, iteB_or2, iteB_and] at h
     simp only [iteB_ite] at h
     constructor <;> grind)
theorem gd_of {c : Cond} (ok : okC c) (hk : c.Kids.length ≤ 200) (h : ck1 c = 0) : Gd c := by
  have e := (ck_both c (okN_of ok) hk).2
  rw [h] at e
  by_cases hb : 1 ≤ c.Kind ∧ c.Kind ≤ 15
  · have o := okN_of ok
    obtain ⟨k, nm, ot, op, n, fr, ks⟩ := c
    have hk2 : k = 1 ∨ k = 2 ∨ k = 3 ∨ k = 4 ∨ k = 5 ∨ k = 6 ∨ k = 7 ∨ k = 8 ∨ k = 9 ∨ k = 10 ∨ k = 11 ∨ k = 12 ∨ k = 13 ∨ k = 14 ∨ k = 15 := by have := hb.1; have := hb.2; simp only at *; omega
    exact gd_in nm ot op n fr ks k hk2 o.1 o.2 e
  · rw [(chk_no c hb).2] at e
    cases e
theorem fEs_mem {f : Cond → Int} : ∀ {l : List Cond}, fEs f l = 0 → ∀ x ∈ l, fE f x = 0
  | [], _, x, hx => by cases hx
  | a :: l, h, x, hx => by
    rw [fEs] at h
    split at h
    · rename_i q
      rcases List.mem_cons.1 hx with rfl | hx
      · exact q
      · exact fEs_mem h x hx
    · rename_i q; exact absurd h q
structure Gt (c : Cond) : Prop where
  ok : okC c
  d : dN c ≤ 20
  n : cN c ≤ 200
  e : fE ck1 c = 0
theorem gt_of {c : Cond} (ok : okC c) (h : ckC c = 0) : Gt c := by
  obtain ⟨h1, h2, h3⟩ := ckC_good h
  exact ⟨ok, h1, h2, h3⟩
theorem Gt.self {c : Cond} (g : Gt c) : Gd c := by
  have h := g.e
  rw [fE_eq] at h
  have h1 := len_cNs c.Kids
  have h2 := cN_eq c
  have h3 := g.n
  split at h
  · rename_i q; exact gd_of g.ok (by omega) q
  · rename_i q; exact absurd h q
theorem Gt.kid {c x : Cond} (g : Gt c) (hx : x ∈ c.Kids) : Gt x := by
  obtain ⟨j, hj⟩ := List.getElem?_of_mem hx
  obtain ⟨k1, k2, k3⟩ := kid_ok g.ok hj
  have h1 := g.d
  have h2 := g.n
  refine ⟨k1, by omega, by omega, ?_⟩
  have h := g.e
  rw [fE_eq] at h
  split at h
  · exact fEs_mem h x hx
  · rename_i q; exact absurd h q
theorem Gt.kids {c : Cond} (g : Gt c) : c.Kids.length ≤ 200 := by
  have h1 := len_cNs c.Kids
  have h2 := cN_eq c
  have h3 := g.n
  omega
end Go.Lf
namespace Go.Lf
open Go.OB
theorem appN {α : Type} (b : Nat) (p q : List α) (h : p.length + q.length ≤ 1000) (hb : b ≤ 1000) : app' b p q = some (p ++ q) := by
  unfold app'
  have := Nat.mul_le_mul h hb
  rw [if_pos ⟨by rw [maxLen_eq]; omega, by omega⟩]
theorem take_snoc {α : Type} {l : List α} {i : Nat} {x : α} (hx : l[i]? = some x) : l.take (i + 1) = l.take i ++ [x] := by
  rw [List.take_add_one, hx]; rfl
section
variable {α β γ σ : Type}
theorem loopN_inv {body : (γ → Option β) → γ → Option β} (enc : Nat → σ → γ) (l : List α) (I : Nat → σ → Prop) (R : β → Prop)
    (h : ∀ k i s x, l[i]? = some x → i < l.length → I i s → ∃ s', I (i + 1) s' ∧ body k (enc i s) = k (enc (i + 1) s')) (hx : ∀ k s, I l.length s → ∃ r, body k (enc l.length s) = some r ∧ R r) :
    ∀ (d i : Nat) (s : σ) (n : Nat), i + d = l.length → d < n → I i s → ∃ r, loopN body n (enc i s) = some r ∧ R r
  | 0, i, s, n, hd, hn, hI => by
    obtain ⟨m, rfl⟩ : ∃ m, n = m + 1 := ⟨n - 1, by omega⟩
    obtain rfl : i = l.length := by omega
    rw [loopN]; exact hx _ s hI
  | d + 1, i, s, n, hd, hn, hI => by
    obtain ⟨m, rfl⟩ : ∃ m, n = m + 1 := ⟨n - 1, by omega⟩
    have hi : i < l.length := by omega
    obtain ⟨s', h1, h2⟩ := h (loopN body m) i s l[i] (List.getElem?_eq_getElem hi) hi hI
    rw [loopN, h2]
    exact loopN_inv enc l I R h hx d (i + 1) s' m (by omega) (by omega) h1
theorem loopO_inv {body : (γ → Option β) → γ → Option β} (enc : Nat → σ → γ) (l : List α) (I : Nat → σ → Prop) (R : β → Prop) (hl : l.length ≤ 9223372036854775807)
    (h : ∀ k i s x, l[i]? = some x → i < l.length → I i s → ∃ s', I (i + 1) s' ∧ body k (enc i s) = k (enc (i + 1) s')) (hx : ∀ k s, I l.length s → ∃ r, body k (enc l.length s) = some r ∧ R r) (s : σ) (h0 : I 0 s) :
    ∃ r, loopO body (enc 0 s) = some r ∧ R r := loopN_inv enc l I R h hx l.length 0 s FU (by omega) (FU_big hl) h0
end
theorem app1 (p q : List Int) (h : p.length + q.length ≤ 140737488355328) : app' 1 p q = some (p ++ q) := by
  unfold app'
  rw [if_pos ⟨by rw [Go.OB.maxLen_eq]; omega, by omega⟩]
theorem AppendUint_ex (p : List Int) (n : Int) (hn : 0 ≤ n ∧ n ≤ 18446744073709551615) (h : p.length + 20 ≤ 140737488355328) : ∃ q, X_AppendUint p n 10 = some q ∧ q.length ≤ p.length + 20 := by
  unfold X_AppendUint
  rw [if_pos ⟨rfl, hn.1, hn.2, h⟩]
  refine ⟨_, rfl, ?_⟩
  rw [List.length_append, nums_len, Lib.decDigits_length]
  have := Lib.nDigits_le20 n.toNat (by omega)
  omega
theorem u64_rng (n : Int) : 0 ≤ IntKind.u64.wrap n ∧ IntKind.u64.wrap n ≤ 18446744073709551615 := by
  rw [IntKind.wrap_u64]; omega
theorem AppendInt_ex (p : List Int) (n : Int) (h : p.length + 21 ≤ 140737488355328) : ∃ q, F_strconv_AppendInt p n 10 = some q ∧ q.length ≤ p.length + 21 := by
  have e : ∃ q, F_internal_strconv_AppendInt p n 10 = some q ∧ q.length ≤ p.length + 21 := by
    unfold F_internal_strconv_AppendInt
    simp only [yV, iteB_dec]
    by_cases c : n < 0
    · have ha := app1 p [45] (by simp; omega)
      rw [if_pos c, ha, yO, yO]
      obtain ⟨q, h1, h2⟩ := AppendUint_ex (p ++ [45]) (IntKind.u64.wrap (-IntKind.u64.wrap n)) (u64_rng _) (by simp; omega)
      simp only []
      rw [h1, yO]
      exact ⟨q, rfl, by simp at h2; omega⟩
    · rw [if_neg c, yO]
      obtain ⟨q, h1, h2⟩ := AppendUint_ex p (IntKind.u64.wrap n) (u64_rng _) (by omega)
      simp only []
      rw [h1, yO]
      exact ⟨q, rfl, by omega⟩
  obtain ⟨q, h1, h2⟩ := e
  unfold F_strconv_AppendInt
  rw [h1, yO]
  exact ⟨q, rfl, h2⟩
def Gr (r : Option Orangeboxref0Ink) (n : Nat) : Prop := ∃ q, r = some q ∧ q.out.length ≤ n
theorem Gr.bind {a : Option Orangeboxref0Ink} {k : Orangeboxref0Ink → Option Orangeboxref0Ink} {n m : Nat} (h : Gr a n) (hk : ∀ q, q.out.length ≤ n → Gr (k q) m) : Gr (bindO a k) m := by
  obtain ⟨q, h1, h2⟩ := h
  rw [h1, yO]; exact hk q h2
theorem Gr.get {r : Option Orangeboxref0Ink} {n : Nat} (h : Gr r n) : ∃ q, r = Option.some q ∧ q.out.length ≤ n := h
theorem Gr.some {q : Orangeboxref0Ink} {n : Nat} (h : q.out.length ≤ n) : Gr (Option.some q) n := ⟨q, rfl, h⟩
theorem ink_Int (p : Orangeboxref0Ink) (n : Int) {b : Nat} (hp : p.out.length ≤ b) (h : b ≤ 100000000000000) : Gr (F_ref0_Ink_Int p n) (b + 22) := by
  obtain ⟨q, h1, h2⟩ := AppendInt_ex p.out n (by omega)
  unfold F_ref0_Ink_Int
  rw [h1, yO]
  simp only [yV]
  rw [app1 q [32] (by simp; omega), yO]
  exact Gr.some (by simp; omega)
theorem ink_Ints (p : Orangeboxref0Ink) (l : List Int) {b : Nat} (hp : p.out.length ≤ b) (h : b + 22 + 22 * l.length ≤ 100000000000000) : Gr (F_ref0_Ink_Ints p l) (b + 22 + 22 * l.length) := by
  unfold F_ref0_Ink_Ints
  simp only [yV]
  refine (ink_Int p _ hp (by omega)).bind fun q hq => ?_
  unfold F_ref0_Ink_Ints_L1
  refine loopO_inv (fun (i : Nat) (s : List Int) => ((i : Int), s)) l (fun i s => s.length ≤ b + 22 + 22 * i) (fun (r : Orangeboxref0Ink) => r.out.length ≤ b + 22 + 22 * l.length) (by omega) ?_ ?_ _ (by simpa using hq)
  · intro kk i s x hx hi hI
    obtain ⟨r, h1, h2⟩ := ink_Int (Orangeboxref0Ink.mk s) x hI (by omega)
    refine ⟨r.out, by omega, ?_⟩
    simp only [yV]
    rw [lt_true hi, xQ, at_ok hx, yO, h1, yO, wrap1 hi (by omega)]
  · intro kk s hI
    simp only [yV]
    rw [lt_self, xP]
    exact ⟨_, rfl, hI⟩
theorem ink_Text (p : Orangeboxref0Ink) (s : Str) {b : Nat} (hp : p.out.length ≤ b) (h : b + 22 + s.length ≤ 100000000000000) : Gr (F_ref0_Ink_Text p s) (b + 22 + s.length) := by
  unfold F_ref0_Ink_Text
  simp only [yV]
  refine (ink_Int p _ hp (by omega)).bind fun q hq => ?_
  rw [app1 q.out (nums s) (by rw [nums_len]; omega), yO]
  exact Gr.some (by simp [nums_len]; omega)
theorem ink_Texts (p : Orangeboxref0Ink) (l : List Str) {b : Nat} (hs : ∀ s ∈ l, s.length ≤ 30) (hp : p.out.length ≤ b) (h : b + 22 + 52 * l.length ≤ 100000000000000) : Gr (F_ref0_Ink_Texts p l) (b + 22 + 52 * l.length) := by
  unfold F_ref0_Ink_Texts
  simp only [yV]
  refine (ink_Int p _ hp (by omega)).bind fun q hq => ?_
  unfold F_ref0_Ink_Texts_L1
  refine loopO_inv (fun (i : Nat) (s : List Int) => ((i : Int), s)) l (fun i s => s.length ≤ b + 22 + 52 * i) (fun (r : Orangeboxref0Ink) => r.out.length ≤ b + 22 + 52 * l.length) (by omega) ?_ ?_ _ (by simpa using hq)
  · intro kk i s x hx hi hI
    have hxl := hs x (List.mem_of_getElem? hx)
    obtain ⟨r, h1, h2⟩ := ink_Text (Orangeboxref0Ink.mk s) x hI (by omega)
    refine ⟨r.out, by omega, ?_⟩
    simp only [yV]
    rw [lt_true hi, xQ, at_ok hx, yO, h1, yO, wrap1 hi (by omega)]
  · intro kk s hI
    simp only [yV]
    rw [lt_self, xP]
    exact ⟨_, rfl, hI⟩
mutual
def nmC : Cond → Prop
  | ⟨_, nm, ot, _, _, _, ks⟩ => (nm.length ≤ 30 ∧ ot.length ≤ 30) ∧ nmCs ks
def nmCs : List Cond → Prop
  | [] => True
  | c :: l => nmC c ∧ nmCs l
end
theorem nmC_eq (c : Cond) : nmC c ↔ (c.Name.length ≤ 30 ∧ c.Other.length ≤ 30) ∧ nmCs c.Kids := by cases c; rfl
theorem nmCs_iff : ∀ (l : List Cond), nmCs l ↔ ∀ c ∈ l, nmC c
  | [] => by simp [nmCs]
  | c :: l => by rw [nmCs, nmCs_iff l]; simp
theorem gt_nmC : ∀ (n : Nat) (c : Cond), dN c ≤ n → Gt c → nmC c
  | 0, c, h, _ => by have := dN_pos c; omega
  | n + 1, c, h, g => by
    refine (nmC_eq c).2 ⟨⟨g.self.nm, g.self.ot⟩, (nmCs_iff _).2 fun x hx => ?_⟩
    obtain ⟨j, hj⟩ := List.getElem?_of_mem hx
    have := (kid_ok g.ok hj).2.1
    exact gt_nmC n x (by omega) (g.kid hx)
theorem cNs_snoc : ∀ (l : List Cond) (x : Cond), cNs (l ++ [x]) = cNs l + cN x
  | [], x => by simp [cNs]
  | c :: l, x => by rw [List.cons_append, cNs, cNs, cNs_snoc l x]; omega
theorem ink_Cond_R : ∀ (n : Nat) (c : Cond) (p : Orangeboxref0Ink) (b : Nat), dN c ≤ n → nmC c → cN c ≤ 1000 → p.out.length ≤ b → b + 258 * cN c ≤ 1000000000000 → Gr (F_ref0_Ink_Cond_R n p c) (b + 258 * cN c)
  | 0, c, _, _, h, _, _, _, _ => by have := dN_pos c; omega
  | n + 1, c, p, b, h, hn, hc, hp, hb => by
    have hcc := cN_eq c
    have hl := len_cNs c.Kids
    have hd := dN_eq c
    obtain ⟨⟨n1, n2⟩, n3⟩ := (nmC_eq c).1 hn
    have n3 := (nmCs_iff _).1 n3
    show Gr (F_ref0_Ink_Cond_B (F_ref0_Ink_Cond_R n) p c) _
    unfold F_ref0_Ink_Cond_B
    simp only [yV]
    have q1 := ink_Ints p [c.Kind, c.Op, c.N, c.Frames, (c.Kids.length : Int)] hp (by simp; omega)
    refine q1.bind fun p1 h1 => ?_
    simp only [List.length_cons, List.length_nil] at h1
    have q2 := ink_Texts p1 [c.Name, c.Other] (b := b + 132) (by intro s hs; simp only [List.mem_cons, List.not_mem_nil, or_false] at hs; rcases hs with rfl | rfl <;> assumption) (by omega) (by simp; omega)
    refine q2.bind fun p2 h2 => ?_
    simp only [List.length_cons, List.length_nil] at h2
    unfold F_ref0_Ink_Cond_B_L1
    refine loopO_inv (fun (i : Nat) (s : List Int) => ((i : Int), s)) c.Kids (fun i s => s.length ≤ b + 258 + 258 * cNs (c.Kids.take i)) (fun (r : Orangeboxref0Ink) => r.out.length ≤ b + 258 * cN c) (by omega) ?_ ?_ _ (by simp [cNs]; omega)
    · intro kk i s x hx hi hI
      have hm := List.mem_of_getElem? hx
      have m1 := mem_dNs hm
      have m2 := mem_cNs hm
      have e := cNs_snoc (c.Kids.take i) x
      rw [← take_snoc hx] at e
      have m3 : cNs (c.Kids.take (i + 1)) ≤ cNs c.Kids := by
        have key : ∀ (l : List Cond) (j : Nat), cNs (l.take j) ≤ cNs l := by
          intro l
          induction l with
          | nil => intro j; simp [cNs]
          | cons a l ih => intro j; cases j with
            | zero => simp [cNs]
            | succ j => rw [List.take_succ_cons, cNs, cNs]; have := ih j; omega
        exact key _ _
      obtain ⟨r, h3, h4⟩ := ink_Cond_R n x (Orangeboxref0Ink.mk s) (b + 258 + 258 * cNs (c.Kids.take i)) (by omega) (n3 x hm) (by omega) hI (by omega)
      refine ⟨r.out, by omega, ?_⟩
      simp only [yV]
      rw [lt_true hi, xQ, at_ok hx, yO, h3, yO, wrap1 hi (by omega)]
    · intro kk s hI
      simp only [yV]
      rw [lt_self, xP]
      rw [List.take_length] at hI
      exact ⟨_, rfl, by simp only; omega⟩
def Bd (c : Cond) : Prop := dN c ≤ 20 ∧ cN c ≤ 200 ∧ nmC c
theorem Gt.bd {c : Cond} (g : Gt c) : Bd c := ⟨g.d, g.n, gt_nmC 20 c g.d g⟩
theorem ink_Cond {c : Cond} (h : Bd c) (p : Orangeboxref0Ink) (b : Nat) (hp : p.out.length ≤ b) (hb : b ≤ 1000000000) : Gr (F_ref0_Ink_Cond p c) (b + 60000) := by
  obtain ⟨q, h1, h2⟩ := ink_Cond_R FU c p b (Nat.le_of_lt (FU_gt (by have := h.1; omega))) h.2.2 (by have := h.2.1; omega) hp (by have := h.2.1; omega)
  exact ⟨q, h1, by have := h.2.1; omega⟩
set_option maxRecDepth 1000000 in
theorem reads_true : F_law6_reads = some true := by kernel_rfl
end Go.Lf
