/- Walks: what each function computes, for every argument; no condition but those that stand in the statements. -/
import Derived.Test.YtckmiljbaejijaaGreatDoorSOk
import Derived.Test.YtckmiljbaejijaaGreatDoorPl
namespace Go.Lf
def kws : List Str := [[112, 104, 97, 115, 101], [109, 111, 118, 101], [114, 117, 108, 101], [105, 102], [111, 114], [97, 110, 100], [116, 114, 117, 101], [102, 97, 108, 115, 101], [115, 116, 101, 97, 100, 121], [110, 111, 116], [102, 111, 114], [119, 105, 116, 104, 105, 110], [99, 111, 117, 110, 116], [111, 102], [114, 105, 115, 101, 115], [115, 105, 110, 99, 101]]
theorem ewithin (a b c : Int) : F_event_within a b c = some (decide (b ≤ a) && decide (a ≤ c)) := by
  unfold F_event_within; simp only [yH, iteB_and, zV]
theorem out6 (a b c : Int) : F_ref6_outside a b c = some (decide (a < b) || decide (c < a)) := by
  unfold F_ref6_outside; simp only [yH, iteB_or2, zV]
def isW (s : Str) : Bool := decide (s ∈ kws)
theorem isWord_eq (s : Str) : F_event_isWord s = some (isW s) := by
  unfold F_event_isWord isW kws
  simp only [yH, iteB_or, zV, iteB_id, List.mem_cons, List.not_mem_nil, or_false, Bool.decide_or]
def nmB (c : Int) : Bool := (decide (97 ≤ c) && decide (c ≤ 122)) || (decide (48 ≤ c) && decide (c ≤ 57)) || decide (c = 45)
theorem nameByte_eq (c : Int) : F_event_nameByte c = some (nmB c) := by
  unfold F_event_nameByte nmB
  simp only [yH, zV]
  cases decide (97 ≤ c) <;> cases decide (c ≤ 122) <;> cases decide (48 ≤ c) <;> cases decide (c ≤ 57) <;> cases decide (c = 45) <;> rfl
def badB : Nat → UInt8 → Bool := fun _ c => !nmB (c.toNat : Int)
theorem isName_L1 (s : Str) (hs : okS s) (k : Unit → Option Bool) : F_event_isName_L1 s k (s.length : Int) 0 = if anyI badB s 0 = true then some false else k () := by
  unfold F_event_isName_L1
  rw [wE s (fun i c => if badB i c = true then some (some false) else none) (k ()) hs]
  · exact findO_any badB (some false) (k ()) s 0
  · intro kk i c hc hi
    unfold badB
    simp only [yH]
    rw [xR hi, yU, byte_nat hc, zV, nameByte_eq, zV]
    cases nmB (c.toNat : Int)
    · rfl
    · simp only [Bool.not_true, yQ]; rw [wrap1 hi hs]; rfl
  · intro kk; simp only [yH]; rw [xX]; rfl
def firstOk (s : Str) : Bool := match s with
  | [] => false
  | c :: _ => decide (97 ≤ (c.toNat : Int)) && decide ((c.toNat : Int) ≤ 122)
def isNm (s : Str) : Bool := decide (s.length ≤ 30) && firstOk s && !isW s && !anyI badB s 0
theorem isName_eq (s : Str) (hs : okS s) : F_event_isName s = some (isNm s) := by
  unfold F_event_isName isNm
  simp only [yH, zV, ewithin, joinO_eq, isName_L1 s hs, isWord_eq]
  cases s with
  | nil => rfl
  | cons c l =>
    have h0 : byte' (c :: l) 0 = some (c.toNat : Int) := byte_nat (i := 0) rfl
    have h1 : decide ((1 : Int) ≤ ((c :: l).length : Int)) = true := decide_eq_true (by simp; omega)
    have h2 : decide (((c :: l).length : Int) ≤ 30) = decide ((c :: l).length ≤ 30) := decide_eq_decide.2 (by omega)
    have h3 : decide ((c.toNat : Int) < 97) = !decide (97 ≤ (c.toNat : Int)) := by rw [← decide_not]; exact decide_eq_decide.2 (by omega)
    have h4 : decide (122 < (c.toNat : Int)) = !decide ((c.toNat : Int) ≤ 122) := by rw [← decide_not]; exact decide_eq_decide.2 (by omega)
    rw [h0, h1, h2]
    simp only [zV, Bool.true_and, h3, h4, firstOk]
    cases decide ((c :: l).length ≤ 30) <;> cases decide (97 ≤ (c.toNat : Int)) <;> cases decide ((c.toNat : Int) ≤ 122) <;> cases isW (c :: l) <;> cases anyI badB (c :: l) 0 <;> rfl
end Go.Lf
namespace Go.Lf
theorem reserved_eq (s : Str) : F_ref6_Reserved s = some (isW s) := by
  unfold F_ref6_Reserved F_ref6_words
  simp only [yH, zV, joinO_eq]
  change F_ref6_Reserved_L1 s kws (fun _ => some false) 0 = _
  unfold F_ref6_Reserved_L1
  rw [wE kws (fun _ x => if decide (x = s) = true then some (some true) else none) (some false) (by decide)]
  · rw [findO_any (fun _ x => decide (x = s))]
    have e : anyI (fun _ x => decide (x = s)) kws 0 = isW s := by
      rw [Bool.eq_iff_iff, anyI_iff]
      unfold isW
      simp only [decide_eq_true_eq]
      constructor
      · rintro ⟨j, x, h, rfl⟩; exact List.mem_of_getElem? h
      · intro h; obtain ⟨j, hj⟩ := List.getElem?_of_mem h; exact ⟨j, s, hj, rfl⟩
    rw [e]; cases isW s <;> rfl
  · intro kk i c hc hi
    simp only [yH]
    rw [xR hi, yU, at_ok hc, zV]
    cases decide (c = s)
    · simp only [yQ]; rw [wrap1 hi (by decide)]; rfl
    · rfl
  · intro kk; simp only [yH]; rw [xX]; rfl
def badR : Nat → UInt8 → Bool := fun i c => !((decide (97 ≤ (c.toNat : Int)) && decide ((c.toNat : Int) ≤ 122)) || (decide (0 < (i : Int)) && ((decide (48 ≤ (c.toNat : Int)) && decide ((c.toNat : Int) ≤ 57)) || decide ((c.toNat : Int) = 45))))
theorem rIsName_L1 (s : Str) (hs : okS s) (k : Unit → Option Bool) : F_ref6_IsName_L1 s k 0 = if anyI badR s 0 = true then some false else k () := by
  unfold F_ref6_IsName_L1
  rw [wE s (fun i c => if badR i c = true then some (some false) else none) (k ()) hs]
  · exact findO_any badR (some false) (k ()) s 0
  · intro kk i c hc hi
    unfold badR
    simp only [yH]
    rw [xR hi, yU, byte_nat hc, zV]
    rw [wrap1 hi hs]
    cases decide (97 ≤ (c.toNat : Int)) <;> cases decide ((c.toNat : Int) ≤ 122) <;> cases decide (0 < (i : Int)) <;> cases decide (48 ≤ (c.toNat : Int)) <;> cases decide ((c.toNat : Int) ≤ 57) <;> cases decide ((c.toNat : Int) = 45) <;> rfl
  · intro kk; simp only [yH]; rw [xX]; rfl
theorem rIsName_eq (s : Str) (hs : okS s) : F_ref6_IsName s = some (isNm s) := by
  unfold F_ref6_IsName isNm
  simp only [yH, zV, joinO_eq, rIsName_L1 s hs, reserved_eq]
  cases s with
  | nil => rfl
  | cons c l =>
    have h2 : decide (((c :: l).length : Int) ≤ 30) = decide ((c :: l).length ≤ 30) := decide_eq_decide.2 (by omega)
    have h5 : decide ((c :: l) ≠ []) = true := by simp
    have e : anyI badR l (0 + 1) = anyI badB l (0 + 1) := anyI_congr l (0 + 1) fun j x _ => by
      have : decide (0 < ((0 + 1 + j : Nat) : Int)) = true := decide_eq_true (by omega)
      unfold badR badB nmB
      rw [this]
      simp only [Bool.true_and, Bool.or_assoc]
    rw [anyI, anyI, e, h2, h5]
    have e2 : badR 0 c = !(decide (97 ≤ (c.toNat : Int)) && decide ((c.toNat : Int) ≤ 122)) := by unfold badR; simp
    have e3 : badB 0 c = !(firstOk (c :: l) || (decide (48 ≤ (c.toNat : Int)) && decide ((c.toNat : Int) ≤ 57)) || decide ((c.toNat : Int) = 45)) := rfl
    have e4 : badR 0 c = !firstOk (c :: l) := e2
    rw [e3, e4]
    cases firstOk (c :: l) <;> cases anyI badB l (0 + 1) <;> cases decide ((c :: l).length ≤ 30) <;> cases isW (c :: l) <;> simp [iteB, bindO]
/-! ### Series -/
theorem not_out (a b c : Int) : (decide (a < b) || decide (c < a)) = !(decide (b ≤ a) && decide (a ≤ c)) := by
  by_cases h1 : b ≤ a <;> by_cases h2 : a ≤ c <;> simp [h1, h2] <;> omega
end Go.Lf
namespace Go.Lf
open Go.OB
def okN (c : Cond) : Prop := okS c.Name ∧ okS c.Other
theorem len_k (n : Nat) (k : Int) : (!(decide (k ≤ (n : Int)) && decide ((n : Int) ≤ k))) = decide ((n : Int) ≠ k) := by
  by_cases h : (n : Int) = k
  · simp [h]
  · by_cases h1 : k ≤ (n : Int)
    · by_cases h2 : (n : Int) ≤ k
      · omega
      · simp [h, h1, h2]
    · simp [h, h1]
theorem len_2 {n : Nat} (hn : n ≤ 200) : (!(decide (2 ≤ (n : Int)) && decide ((n : Int) ≤ 200))) = decide ((n : Int) < 2) := by
  rw [Bool.eq_iff_iff]
  simp only [Bool.not_eq_true', Bool.and_eq_false_iff, decide_eq_false_iff_not, decide_eq_true_eq]
  omega
section
variable (nm ot : Str) (op n fr : Int) (ks : List Cond)
theorem fo1 : F_event_fieldsOf 1 = some (⟨false, false, false, false, false, 0, 0⟩, true) := rfl
theorem rf1 : F_ref6_fields 1 = some (false, false, false, false, false, 0) := rfl
theorem fo2 : F_event_fieldsOf 2 = some (⟨false, false, false, false, false, 0, 0⟩, true) := rfl
theorem rf2 : F_ref6_fields 2 = some (false, false, false, false, false, 0) := rfl
theorem fo3 : F_event_fieldsOf 3 = some (⟨true, false, true, true, false, 0, 0⟩, true) := rfl
theorem rf3 : F_ref6_fields 3 = some (true, false, true, true, false, 0) := rfl
theorem fo4 : F_event_fieldsOf 4 = some (⟨true, true, true, false, false, 0, 0⟩, true) := rfl
theorem rf4 : F_ref6_fields 4 = some (true, true, true, false, false, 0) := rfl
theorem fo5 : F_event_fieldsOf 5 = some (⟨true, false, false, true, true, 0, 0⟩, true) := rfl
theorem rf5 : F_ref6_fields 5 = some (true, false, false, true, true, 0) := rfl
theorem fo6 : F_event_fieldsOf 6 = some (⟨true, false, false, false, false, 0, 0⟩, true) := rfl
theorem rf6 : F_ref6_fields 6 = some (true, false, false, false, false, 0) := rfl
theorem fo7 : F_event_fieldsOf 7 = some (⟨true, false, false, false, false, 0, 0⟩, true) := rfl
theorem rf7 : F_ref6_fields 7 = some (true, false, false, false, false, 0) := rfl
theorem fo8 : F_event_fieldsOf 8 = some (⟨false, false, false, false, false, 1, 1⟩, true) := rfl
theorem rf8 : F_ref6_fields 8 = some (false, false, false, false, false, 1) := rfl
theorem fo9 : F_event_fieldsOf 9 = some (⟨false, false, false, false, false, 2, 200⟩, true) := rfl
theorem rf9 : F_ref6_fields 9 = some (false, false, false, false, false, (-1)) := rfl
theorem fo10 : F_event_fieldsOf 10 = some (⟨false, false, false, false, false, 2, 200⟩, true) := rfl
theorem rf10 : F_ref6_fields 10 = some (false, false, false, false, false, (-1)) := rfl
theorem fo11 : F_event_fieldsOf 11 = some (⟨false, false, false, false, true, 1, 1⟩, true) := rfl
theorem rf11 : F_ref6_fields 11 = some (false, false, false, false, true, 1) := rfl
theorem fo12 : F_event_fieldsOf 12 = some (⟨false, false, false, false, true, 1, 1⟩, true) := rfl
theorem rf12 : F_ref6_fields 12 = some (false, false, false, false, true, 1) := rfl
theorem fo13 : F_event_fieldsOf 13 = some (⟨false, false, false, true, true, 1, 1⟩, true) := rfl
theorem rf13 : F_ref6_fields 13 = some (false, false, false, true, true, 1) := rfl
theorem fo14 : F_event_fieldsOf 14 = some (⟨false, false, false, false, false, 2, 2⟩, true) := rfl
theorem rf14 : F_ref6_fields 14 = some (false, false, false, false, false, 2) := rfl
theorem fo15 : F_event_fieldsOf 15 = some (⟨false, false, false, false, false, 1, 1⟩, true) := rfl
theorem rf15 : F_ref6_fields 15 = some (false, false, false, false, false, 1) := rfl
set_option maxHeartbeats 20000000 in
theorem chk_in (k : Int) (hk2 : k = 1 ∨ k = 2 ∨ k = 3 ∨ k = 4 ∨ k = 5 ∨ k = 6 ∨ k = 7 ∨ k = 8 ∨ k = 9 ∨ k = 10 ∨ k = 11 ∨ k = 12 ∨ k = 13 ∨ k = 14 ∨ k = 15) (h1 : okS nm) (h2 : okS ot) (hk : ks.length ≤ 200) : F_event_checkOne ⟨k, nm, ot, op, n, fr, ks⟩ = F_ref6_nodeFault ⟨k, nm, ot, op, n, fr, ks⟩ ∧ ∃ r, F_ref6_nodeFault ⟨k, nm, ot, op, n, fr, ks⟩ = some r := by
  have hb : (decide (1 ≤ fr) && decide (fr ≤ 4096)) = true → (decide (1 ≤ n) && decide (n ≤ fr)) = true → (decide (-1125899906842624 ≤ n) && decide (n ≤ 1125899906842624)) = true := by
    simp only [Bool.and_eq_true, decide_eq_true_eq]; omega
  rcases hk2 with rfl | rfl | rfl | rfl | rfl | rfl | rfl | rfl | rfl | rfl | rfl | rfl | rfl | rfl | rfl <;>
    (unfold F_event_checkOne F_ref6_nodeFault
     simp only [fo1, fo2, fo3, fo4, fo5, fo6, fo7, fo8, fo9, fo10, fo11, fo12, fo13, fo14, fo15, rf1, rf2, rf3, rf4, rf5, rf6, rf7, rf8, rf9, rf10, rf11, rf12, rf13, rf14, rf15, zV, yH, Bool.not_true, Bool.not_false, yU, yQ, joinO_eq, out6, ewithin, isName_eq _ h1, rIsName_eq _ h1, isName_eq _ h2, rIsName_eq _ h2, Int.reduceEq, Int.reduceLT, Int.reduceLE, decide_true, decide_false, Bool.or_self, iteB_or, iteB_or2, iteB_and]
     simp only [not_out, len_k, len_2 hk]
     generalize (decide (1 ≤ op) && decide (op ≤ 6)) = b1
     generalize (decide (1 ≤ fr) && decide (fr ≤ 4096)) = b2 at hb ⊢
     generalize (decide (1 ≤ n) && decide (n ≤ fr)) = b3 at hb ⊢
     generalize (decide (-1125899906842624 ≤ n) && decide (n ≤ 1125899906842624)) = b4 at hb ⊢
     simp only [iteB_ite]
     grind)
end
theorem chk_no (c : Cond) (h : ¬ (1 ≤ c.Kind ∧ c.Kind ≤ 15)) : F_event_checkOne c = some 7 ∧ F_ref6_nodeFault c = some 7 := by
  have e : ∀ k : Int, 1 ≤ k → k ≤ 15 → decide (c.Kind = k) = false := fun k h1 h2 => decide_eq_false (by omega)
  constructor
  · unfold F_event_checkOne F_event_fieldsOf
    simp only [yH, e 1 (by decide) (by decide), e 2 (by decide) (by decide), e 3 (by decide) (by decide), e 4 (by decide) (by decide), e 5 (by decide) (by decide), e 6 (by decide) (by decide), e 7 (by decide) (by decide), e 8 (by decide) (by decide), e 9 (by decide) (by decide), e 10 (by decide) (by decide), e 11 (by decide) (by decide), e 12 (by decide) (by decide), e 13 (by decide) (by decide), e 14 (by decide) (by decide), e 15 (by decide) (by decide), yQ, zV, Bool.not_false, yU]
  · unfold F_ref6_nodeFault
    rw [out6, zV, not_out]
    have q : (decide (1 ≤ c.Kind) && decide (c.Kind ≤ 15)) = false := by
      rw [Bool.and_eq_false_iff, decide_eq_false_iff_not, decide_eq_false_iff_not]; omega
    rw [q]; rfl
def ck1 (c : Cond) : Int := (F_ref6_nodeFault c).getD 0
theorem ck_both (c : Cond) (h : okN c) (hk : c.Kids.length ≤ 200) : F_event_checkOne c = some (ck1 c) ∧ F_ref6_nodeFault c = some (ck1 c) := by
  have key : F_event_checkOne c = F_ref6_nodeFault c ∧ ∃ r, F_ref6_nodeFault c = some r := by
    by_cases hb : 1 ≤ c.Kind ∧ c.Kind ≤ 15
    · obtain ⟨k, nm, ot, op, n, fr, ks⟩ := c
      have hk2 : k = 1 ∨ k = 2 ∨ k = 3 ∨ k = 4 ∨ k = 5 ∨ k = 6 ∨ k = 7 ∨ k = 8 ∨ k = 9 ∨ k = 10 ∨ k = 11 ∨ k = 12 ∨ k = 13 ∨ k = 14 ∨ k = 15 := by have := hb.1; have := hb.2; simp only at *; omega
      exact chk_in nm ot op n fr ks k hk2 h.1 h.2 hk
    · obtain ⟨h1, h2⟩ := chk_no c hb
      exact ⟨h1.trans h2.symm, _, h2⟩
  obtain ⟨h1, r, h2⟩ := key
  have e : ck1 c = r := by unfold ck1; rw [h2]; rfl
  rw [e, h1]
  exact ⟨h2, h2⟩
end Go.Lf
namespace Go.Lf
open Go.OB
mutual
def cN : Cond → Nat
  | ⟨_, _, _, _, _, _, ks⟩ => 1 + cNs ks
def cNs : List Cond → Nat
  | [] => 0
  | c :: l => cN c + cNs l
end
mutual
def dN : Cond → Nat
  | ⟨_, _, _, _, _, _, ks⟩ => 1 + dNs ks
def dNs : List Cond → Nat
  | [] => 0
  | c :: l => max (dN c) (dNs l)
end
mutual
def okC : Cond → Prop
  | ⟨k, nm, ot, op, n, fr, ks⟩ => (i64 k ∧ okS nm ∧ okS ot ∧ i64 op ∧ i64 n ∧ i64 fr) ∧ ks.length ≤ 9223372036854775807 ∧ okCs ks
def okCs : List Cond → Prop
  | [] => True
  | c :: l => okC c ∧ okCs l
end
mutual
def fE (f : Cond → Int) : Cond → Int
  | ⟨k, nm, ot, op, n, fr, ks⟩ => if f ⟨k, nm, ot, op, n, fr, ks⟩ = 0 then fEs f ks else f ⟨k, nm, ot, op, n, fr, ks⟩
def fEs (f : Cond → Int) : List Cond → Int
  | [] => 0
  | c :: l => if fE f c = 0 then fEs f l else fE f c
end
theorem cN_eq (c : Cond) : cN c = 1 + cNs c.Kids := by cases c; rfl
theorem dN_eq (c : Cond) : dN c = 1 + dNs c.Kids := by cases c; rfl
theorem fE_eq (f : Cond → Int) (c : Cond) : fE f c = if f c = 0 then fEs f c.Kids else f c := by cases c; rfl
theorem okC_eq (c : Cond) : okC c ↔ (i64 c.Kind ∧ okS c.Name ∧ okS c.Other ∧ i64 c.Op ∧ i64 c.N ∧ i64 c.Frames) ∧ c.Kids.length ≤ 9223372036854775807 ∧ okCs c.Kids := by cases c; rfl
theorem okCs_iff : ∀ (l : List Cond), okCs l ↔ ∀ c ∈ l, okC c
  | [] => by simp [okCs]
  | c :: l => by rw [okCs, okCs_iff l]; simp
theorem cN_pos (c : Cond) : 1 ≤ cN c := by rw [cN_eq]; omega
theorem dN_pos (c : Cond) : 1 ≤ dN c := by rw [dN_eq]; omega
theorem len_cNs : ∀ l : List Cond, l.length ≤ cNs l
  | [] => Nat.le_refl _
  | c :: l => by have := len_cNs l; have := cN_pos c; rw [cNs, List.length_cons]; omega
theorem mem_cNs {c : Cond} : ∀ {l : List Cond}, c ∈ l → cN c ≤ cNs l
  | a :: l, h => by
    rw [cNs]
    rcases List.mem_cons.1 h with rfl | h
    · omega
    · have := mem_cNs h; omega
theorem mem_dNs {c : Cond} : ∀ {l : List Cond}, c ∈ l → dN c ≤ dNs l
  | a :: l, h => by
    rw [dNs]
    rcases List.mem_cons.1 h with rfl | h
    · omega
    · have := mem_dNs h; omega
theorem dNs_mem {n : Nat} : ∀ {l : List Cond}, n < dNs l → ∃ x, x ∈ l ∧ n < dN x
  | [], h => by simp [dNs] at h
  | a :: l, h => by
    rw [dNs] at h
    by_cases q : n < dN a
    · exact ⟨a, List.mem_cons_self, q⟩
    · obtain ⟨x, h1, h2⟩ := dNs_mem (l := l) (n := n) (by omega)
      exact ⟨x, List.mem_cons_of_mem _ h1, h2⟩
/-! ### small -/
def stS (rf : Cond → Int → Int → Option (Bool × Int)) (l : Int) : Nat → Cond → Int → Int ⊕ Option (Bool × Int) := fun _ x s => match rf x l s with
  | none => .inr none
  | some (true, s') => .inl s'
  | some (false, s') => .inr (some (false, s'))
theorem small_list (rf : Cond → Int → Int → Option (Bool × Int)) (l : Nat) :
    ∀ (ks : List Cond) (_ : ∀ c ∈ ks, ∀ k : Nat, k ≤ 200 → ∃ k' : Nat, rf c (l : Int) (k : Int) = some (decide (dN c ≤ l ∧ k + cN c ≤ 200), (k' : Int)) ∧ (dN c ≤ l ∧ k + cN c ≤ 200 → k' = k + cN c)) (i k : Nat), k ≤ 200 → ∃ k' : Nat, runL (stS rf l) (fun s => some (true, s)) ks i (k : Int) = some (decide (dNs ks ≤ l ∧ k + cNs ks ≤ 200), (k' : Int)) ∧ (dNs ks ≤ l ∧ k + cNs ks ≤ 200 → k' = k + cNs ks)
  | [], _, i, k, hk => ⟨k, by simp [runL, dNs, cNs, hk], fun _ => by simp [cNs]⟩
  | c :: ks, hr, i, k, hk => by
    obtain ⟨k1, h1, h2⟩ := hr c List.mem_cons_self k hk
    rw [runL]
    simp only [stS, h1]
    by_cases hc : dN c ≤ l ∧ k + cN c ≤ 200
    · obtain rfl := h2 hc
      obtain ⟨k2, h3, h4⟩ := small_list rf l ks (fun c hc => hr c (List.mem_cons_of_mem _ hc)) (i + 1) (k + cN c) hc.2
      rw [decide_eq_true hc]
      refine ⟨k2, ?_, ?_⟩
      · simp only []
        rw [h3]
        congr 2
        rw [decide_eq_decide, dNs, cNs]
        have := hc.1
        omega
      · rw [dNs, cNs]; intro h; rw [h4 (by omega)]; omega
    · rw [decide_eq_false hc]
      refine ⟨k1, ?_, ?_⟩
      · simp only []
        congr 2
        refine (decide_eq_false ?_).symm
        rw [dNs, cNs]; omega
      · rw [dNs, cNs]; intro h; exfalso; omega
theorem small_R : ∀ (n : Nat) (c : Cond) (l k : Nat), l < n → k ≤ 200 → l ≤ 1000 → okC c → ∃ k' : Nat, F_event_small_R n c (l : Int) (k : Int) = some (decide (dN c ≤ l ∧ k + cN c ≤ 200), (k' : Int)) ∧ (dN c ≤ l ∧ k + cN c ≤ 200 → k' = k + cN c)
  | 0, _, _, _, h, _, _, _ => by omega
  | n + 1, c, l, k, h, hk, hl, ok => by
    have hlen := ((okC_eq c).1 ok).2.1
    have oks := (okCs_iff _).1 ((okC_eq c).1 ok).2.2
    have ew : IntKind.i64.wrap ((k : Int) + 1) = ((k + 1 : Nat) : Int) := wrap1 (n := 1000) (by omega) (by omega)
    show ∃ k' : Nat, F_event_small_B (F_event_small_R n) c (l : Int) (k : Int) = _ ∧ _
    unfold F_event_small_B
    simp only [yH, joinO_eq, iteB_or2, zV, ew]
    have hd := dN_eq c
    have hc := cN_eq c
    by_cases h0 : l = 0
    · subst h0
      refine ⟨k + 1, ?_, fun q => by exfalso; omega⟩
      rw [decide_eq_true (show ((0 : Nat) : Int) = 0 from rfl), Bool.true_or, yU, decide_eq_false (by omega)]
    · by_cases h2 : 200 < k + 1
      · refine ⟨k + 1, ?_, fun q => by exfalso; omega⟩
        rw [decide_eq_true (show (200 : Int) < ((k + 1 : Nat) : Int) by omega), Bool.or_true, yU, decide_eq_false (by omega)]
      · rw [decide_eq_false (show ¬ (l : Int) = 0 by omega), decide_eq_false (show ¬ (200 : Int) < ((k + 1 : Nat) : Int) by omega), Bool.or_self, yQ]
        obtain ⟨m, rfl⟩ : ∃ m, l = m + 1 := ⟨l - 1, by omega⟩
        have el : IntKind.i64.wrap (((m + 1 : Nat) : Int) - 1) = (m : Int) := by rw [wrap_i64 (by omega) (by omega)]; omega
        obtain ⟨k', h3, h4⟩ := small_list (F_event_small_R n) m c.Kids (fun x hx k hk => small_R n x m k (by omega) hk (by omega) (oks x hx)) 0 (k + 1) (by omega)
        refine ⟨k', ?_, ?_⟩
        · unfold F_event_small_B_L1
          simp only [yH, el]
          refine (loopO_runL (fun (i : Nat) (s : Int) => ((i : Int), s)) c.Kids (stS (F_event_small_R n) m) (fun s => some (true, s)) hlen ?_ ?_ ((k + 1 : Nat) : Int)).trans (h3.trans ?_)
          rotate_left 2
          · congr 2
            rw [decide_eq_decide]; omega
          · intro kk i s x hx
            have hi := (List.getElem?_eq_some_iff.1 hx).1
            simp only [stS]
            rw [xR hi, yU, at_ok hx, zV, wrap1 hi hlen]
            cases F_event_small_R n x m s with
            | none => rfl
            | some r => obtain ⟨b, s'⟩ := r; cases b <;> rfl
          · intro kk s
            simp only []
            rw [xX, yQ]
        · intro q; rw [h4 (by omega)]; omega
theorem FU_gt {n : Nat} (h : n ≤ 1000000) : n < FU := FU_big (by omega)
theorem small_eq (c : Cond) (ok : okC c) : ∃ k' : Int, F_event_small c 20 0 = some (decide (dN c ≤ 20 ∧ cN c ≤ 200), k') := by
  obtain ⟨k', h1, _⟩ := small_R FU c 20 0 (FU_gt (by decide)) (by decide) (by decide) ok
  refine ⟨k', ?_⟩
  unfold F_event_small
  refine h1.trans ?_
  rw [Nat.zero_add]
/-! ### nodes -/
theorem nodes_R : ∀ (n : Nat) (c : Cond) (m : Nat), m < n → m ≤ 1000 → okC c → F_ref6_nodes_R n c (m : Int) = some ((min (cN c) (m + 1) : Nat) : Int)
  | 0, _, _, h, _, _ => by omega
  | n + 1, c, m, h, hm, ok => by
    have hlen := ((okC_eq c).1 ok).2.1
    have oks := (okCs_iff _).1 ((okC_eq c).1 ok).2.2
    show F_ref6_nodes_B (F_ref6_nodes_R n) c (m : Int) = _
    unfold F_ref6_nodes_B F_ref6_nodes_B_L1
    have e : loopO (fun k348 (x : Int × Int) => bindO (letO (c.Kids.length : Int) fun x379 => letO (decide (x.2 < x379)) fun x384 => iteB x384 (letO (decide (x.1 ≤ (m : Int))) fun x387 => some x387) (some false)) fun g376 => iteB g376
        (bindO (at' c.Kids x.2) fun x415 => letO (IntKind.i64.wrap ((m : Int) - x.1)) fun x430 => bindO (F_ref6_nodes_R n x415 x430) fun x433 => letO (IntKind.i64.wrap (x.1 + x433)) fun x437 => letO (IntKind.i64.wrap (x.2 + 1)) fun x439 => k348 (x437, x439)) (some x.1)) (1, 0) = some ((min (1 + cNs c.Kids) (m + 1) : Nat) : Int) := by
      have key : ∀ (d i s fu : Nat), i + d = c.Kids.length → d < fu → 1 ≤ s → s ≤ m + 1 → loopN (fun k348 (x : Int × Int) => bindO (letO (c.Kids.length : Int) fun x379 => letO (decide (x.2 < x379)) fun x384 => iteB x384 (letO (decide (x.1 ≤ (m : Int))) fun x387 => some x387) (some false)) fun g376 => iteB g376
        (bindO (at' c.Kids x.2) fun x415 => letO (IntKind.i64.wrap ((m : Int) - x.1)) fun x430 => bindO (F_ref6_nodes_R n x415 x430) fun x433 => letO (IntKind.i64.wrap (x.1 + x433)) fun x437 => letO (IntKind.i64.wrap (x.2 + 1)) fun x439 => k348 (x437, x439)) (some x.1)) fu ((s : Int), (i : Int)) = some ((min (s + cNs (c.Kids.drop i)) (m + 1) : Nat) : Int) := by
        intro d
        induction d with
        | zero =>
          intro i s fu h1 h2 h3 h4
          obtain ⟨f, rfl⟩ : ∃ f, fu = f + 1 := ⟨fu - 1, by omega⟩
          obtain rfl : i = c.Kids.length := by omega
          rw [loopN]
          simp only [yH, xX, yQ, zV, List.drop_length, cNs]
          congr 2; omega
        | succ d ih =>
          intro i s fu h1 h2 h3 h4
          obtain ⟨f, rfl⟩ : ∃ f, fu = f + 1 := ⟨fu - 1, by omega⟩
          have hi : i < c.Kids.length := by omega
          obtain ⟨x, hx⟩ : ∃ x, c.Kids[i]? = some x := ⟨_, List.getElem?_eq_getElem hi⟩
          have ed : c.Kids.drop i = x :: c.Kids.drop (i + 1) := by
            rw [List.drop_eq_getElem_cons hi]
            congr 1
            exact Option.some.inj ((List.getElem?_eq_getElem hi).symm.trans hx)
          rw [loopN, ed, cNs]
          simp only [yH, xR hi, yU, zV, at_ok hx]
          by_cases hs : s ≤ m
          · have ew : IntKind.i64.wrap ((m : Int) - (s : Int)) = ((m - s : Nat) : Int) := by rw [wrap_i64 (by omega) (by omega)]; omega
            rw [decide_eq_true (show (s : Int) ≤ (m : Int) by omega), yU, ew, nodes_R n x (m - s) (by omega) (by omega) (oks x (List.mem_of_getElem? hx)), zV]
            have ew2 : IntKind.i64.wrap ((s : Int) + ((min (cN x) (m - s + 1) : Nat) : Int)) = ((s + min (cN x) (m - s + 1) : Nat) : Int) := by rw [wrap_i64 (by omega) (by omega)]; omega
            rw [ew2, wrap1 hi hlen]
            refine (ih (i + 1) _ f (by omega) (by omega) (by omega) (by omega)).trans ?_
            congr 2; omega
          · rw [decide_eq_false (show ¬ (s : Int) ≤ (m : Int) by omega), yQ]
            congr 2; omega
      exact key c.Kids.length 0 1 FU (by omega) (FU_big hlen) (by omega) (by omega)
    refine (congrArg (fun o => bindO o fun g => some g) e).trans ?_
    rw [cN_eq]; rfl
/-! ### deeper -/
theorem deeper_R : ∀ (n : Nat) (c : Cond) (m : Nat), m < n → m ≤ 1000 → okC c → F_ref6_deeper_R n c (m : Int) = some (decide (m < dN c))
  | 0, _, _, h, _, _ => by omega
  | n + 1, c, m, h, hm, ok => by
    have hlen := ((okC_eq c).1 ok).2.1
    have oks := (okCs_iff _).1 ((okC_eq c).1 ok).2.2
    have hd := dN_eq c
    show F_ref6_deeper_B (F_ref6_deeper_R n) c (m : Int) = _
    unfold F_ref6_deeper_B
    simp only [yH, joinO_eq]
    cases m with
    | zero => rw [decide_eq_true (show ((0 : Nat) : Int) = 0 from rfl), yU, decide_eq_true (by omega)]
    | succ m =>
      rw [decide_eq_false (show ¬ ((m + 1 : Nat) : Int) = 0 by omega), yQ]
      have el : IntKind.i64.wrap (((m + 1 : Nat) : Int) - 1) = (m : Int) := by rw [wrap_i64 (by omega) (by omega)]; omega
      unfold F_ref6_deeper_B_L1
      simp only [yH, el]
      rw [wE c.Kids (fun _ x => if decide (m < dN x) = true then some (some true) else none) (some false) hlen ?_ ?_]
      · rw [findO_any (fun _ x => decide (m < dN x))]
        by_cases q : m + 1 < dN c
        · rw [decide_eq_true q, if_pos]
          rw [anyI_iff]
          obtain ⟨x, hx, h2⟩ := dNs_mem (l := c.Kids) (n := m) (by omega)
          obtain ⟨j, hj⟩ := List.getElem?_of_mem hx
          exact ⟨j, x, hj, decide_eq_true h2⟩
        · rw [decide_eq_false q, if_neg]
          rw [anyI_iff]
          rintro ⟨j, x, hj, hx⟩
          have h1 := mem_dNs (List.mem_of_getElem? hj)
          have h2 := of_decide_eq_true hx
          omega
      · intro k i x hx hi
        rw [xR hi, yU, at_ok hx, zV, deeper_R n x m (by omega) (by omega) (oks x (List.mem_of_getElem? hx)), zV, wrap1 hi hlen]
        cases decide (m < dN x) <;> rfl
      · intro k
        rw [xX, yQ]
theorem nodes_eq (c : Cond) (ok : okC c) : F_ref6_nodes c 200 = some ((min (cN c) 201 : Nat) : Int) := nodes_R FU c 200 (FU_gt (by decide)) (by decide) ok
theorem deeper_eq (c : Cond) (ok : okC c) : F_ref6_deeper c 20 = some (decide (20 < dN c)) := deeper_R FU c 20 (FU_gt (by decide)) (by decide) ok
end Go.Lf
namespace Go.Lf
open Go.OB
theorem okN_of {c : Cond} (ok : okC c) : okN c := ⟨((okC_eq c).1 ok).1.2.1, ((okC_eq c).1 ok).1.2.2.1⟩
theorem fEs_find (f : Cond → Int) : ∀ (l : List Cond) (i : Nat), findO (fun _ x => if fE f x = 0 then none else some (some (fE f x))) (some 0) l i = some (fEs f l)
  | [], _ => rfl
  | c :: l, i => by
    rw [findO, fEs]
    by_cases h : fE f c = 0
    · rw [if_pos h, if_pos h]; exact fEs_find f l (i + 1)
    · rw [if_neg h, if_neg h]
theorem kid_ok {c x : Cond} {i : Nat} (ok : okC c) (hx : c.Kids[i]? = some x) : okC x ∧ dN x < dN c ∧ cN x < cN c := by
  have hm := List.mem_of_getElem? hx
  have h1 := mem_dNs hm
  have h2 := mem_cNs hm
  exact ⟨(okCs_iff _).1 ((okC_eq c).1 ok).2.2 x hm, by rw [dN_eq c]; omega, by rw [cN_eq c]; omega⟩
theorem each1_R : ∀ (n : Nat) (c : Cond), dN c ≤ n → okC c → cN c ≤ 200 → F_event_each_event_checkOne_R n c = some (fE ck1 c)
  | 0, c, h, _, _ => by have := dN_pos c; omega
  | n + 1, c, h, ok, hc => by
    have hlen := ((okC_eq c).1 ok).2.1
    have hl2 := len_cNs c.Kids
    have hcc := cN_eq c
    show F_event_each_event_checkOne_B (F_event_each_event_checkOne_R n) c = _
    unfold F_event_each_event_checkOne_B
    rw [(ck_both c (okN_of ok) (by omega)).1, zV, fE_eq]
    simp only [yH, joinO_eq]
    by_cases e : ck1 c = 0
    · rw [if_pos e, decide_eq_false (by simpa using e), yQ]
      unfold F_event_each_event_checkOne_B_L1
      rw [wE c.Kids (fun _ x => if fE ck1 x = 0 then none else some (some (fE ck1 x))) (some 0) hlen ?_ ?_, fEs_find]
      · intro k i x hx hi
        obtain ⟨k1, k2, k3⟩ := kid_ok ok hx
        simp only [yH]
        rw [xR hi, yU, at_ok hx, zV, each1_R n x (by omega) k1 (by omega), zV, wrap1 hi hlen]
        by_cases z : fE ck1 x = 0
        · rw [if_pos z, decide_eq_false (by simpa using z), yQ]
        · rw [if_neg z, decide_eq_true z, yU]
      · intro k
        simp only [yH]
        rw [xX, yQ]
    · rw [if_neg e, decide_eq_true e, yU]
theorem fault_R : ∀ (n : Nat) (c : Cond), dN c ≤ n → okC c → cN c ≤ 200 → F_ref6_nodesFault_R n c = some (fE ck1 c)
  | 0, c, h, _, _ => by have := dN_pos c; omega
  | n + 1, c, h, ok, hc => by
    have hlen := ((okC_eq c).1 ok).2.1
    have hl2 := len_cNs c.Kids
    have hcc := cN_eq c
    show F_ref6_nodesFault_B (F_ref6_nodesFault_R n) c = _
    unfold F_ref6_nodesFault_B
    rw [(ck_both c (okN_of ok) (by omega)).2, zV, fE_eq]
    have key : ∀ (B : (Int × Int → Option Int) → Int × Int → Option Int) (_ : ∀ k (e i : Int), B k (e, i) = bindO (letO (c.Kids.length : Int) fun x352 => letO (decide (i < x352)) fun x357 => iteB x357 (letO (decide (e = 0)) fun x360 => some x360) (some false)) fun g349 => iteB g349 (bindO (at' c.Kids i) fun x384 => bindO (F_ref6_nodesFault_R n x384) fun x400 => letO (IntKind.i64.wrap (i + 1)) fun x404 => k (x400, x404)) (some e)) (d i : Nat) (e : Int) (fu : Nat), i + d = c.Kids.length → d < fu → loopN B fu (e, (i : Int)) = some (if e = 0 then fEs ck1 (c.Kids.drop i) else e) := by
      intro B hB d
      induction d with
      | zero =>
        intro i e fu h1 h2
        obtain ⟨f, rfl⟩ : ∃ f, fu = f + 1 := ⟨fu - 1, by omega⟩
        obtain rfl : i = c.Kids.length := by omega
        rw [loopN, hB]
        simp only [yH, xX, yQ, zV, List.drop_length, fEs]
        split <;> simp_all
      | succ d ih =>
        intro i e fu h1 h2
        obtain ⟨f, rfl⟩ : ∃ f, fu = f + 1 := ⟨fu - 1, by omega⟩
        have hi : i < c.Kids.length := by omega
        obtain ⟨x, hx⟩ : ∃ x, c.Kids[i]? = some x := ⟨_, List.getElem?_eq_getElem hi⟩
        have ed : c.Kids.drop i = x :: c.Kids.drop (i + 1) := by
          rw [List.drop_eq_getElem_cons hi]
          congr 1
          exact Option.some.inj ((List.getElem?_eq_getElem hi).symm.trans hx)
        obtain ⟨k1, k2, k3⟩ := kid_ok ok hx
        rw [loopN, hB, ed, fEs]
        simp only [yH, xR hi, yU, zV, at_ok hx]
        by_cases z : e = 0
        · rw [decide_eq_true z, yU, fault_R n x (by omega) k1 (by omega), zV, wrap1 hi hlen, ih (i + 1) _ f (by omega) (by omega), if_pos z]
        · rw [decide_eq_false z, yQ, if_neg z]
    unfold F_ref6_nodesFault_B_L1 loopO
    refine (congrArg (fun o => bindO o fun g => some g) (key _ (fun _ _ _ => rfl) c.Kids.length 0 (ck1 c) FU (by omega) (FU_big hlen))).trans ?_
    rw [zV, List.drop_zero]
def ckC (c : Cond) : Int := if dN c ≤ 20 ∧ cN c ≤ 200 then fE ck1 c else 3
theorem CheckCond_eq (c : Cond) (ok : okC c) : F_event_CheckCond c = some (ckC c) := by
  unfold F_event_CheckCond ckC
  obtain ⟨k', h⟩ := small_eq c ok
  rw [h, zV]
  simp only [yH]
  by_cases q : dN c ≤ 20 ∧ cN c ≤ 200
  · rw [if_pos q, decide_eq_true q, Bool.not_true, yQ]
    unfold F_event_each_event_checkOne
    rw [each1_R FU c (Nat.le_of_lt (FU_gt (by omega))) ok q.2]; rfl
  · rw [if_neg q, decide_eq_false q, Bool.not_false, yU]
theorem rCheckCond_eq (c : Cond) (ok : okC c) : F_ref6_CheckCond c = some (ckC c) := by
  unfold F_ref6_CheckCond ckC
  rw [nodes_eq c ok, zV]
  simp only [yH]
  rw [deeper_eq c ok, zV, iteB_or2, zV]
  by_cases q : dN c ≤ 20 ∧ cN c ≤ 200
  · have e1 : decide ((200 : Int) < ((min (cN c) 201 : Nat) : Int)) = false := decide_eq_false (by omega)
    have e2 : decide (20 < dN c) = false := decide_eq_false (by omega)
    rw [if_pos q, e1, e2, Bool.or_self, yQ]
    unfold F_ref6_nodesFault
    rw [fault_R FU c (Nat.le_of_lt (FU_gt (by omega))) ok q.2]; rfl
  · have e : (decide ((200 : Int) < ((min (cN c) 201 : Nat) : Int)) || decide (20 < dN c)) = true := by
      rw [Bool.or_eq_true, decide_eq_true_eq, decide_eq_true_eq]; omega
    rw [if_neg q, e, yU]
theorem ckC_good {c : Cond} (h : ckC c = 0) : dN c ≤ 20 ∧ cN c ≤ 200 ∧ fE ck1 c = 0 := by
  unfold ckC at h
  split at h
  · rename_i q; exact ⟨q.1, q.2, h⟩
  · exact absurd h (by decide)
end Go.Lf
namespace Go.Lf
open Go.OB
section
variable {α : Type}
theorem find_ix (p : α → Bool) : ∀ (l : List α) (i : Nat), ∃ n : Int, findO (fun (i : Nat) x => if p x = true then some (some (i : Int)) else none) (some (-1)) l i = some n ∧
    ((n = -1 ∧ ∀ (j : Nat) x, l[j]? = some x → p x = false) ∨ ∃ j : Nat, n = ((i + j : Nat) : Int) ∧ (∃ x, l[j]? = some x ∧ p x = true) ∧ ∀ (m : Nat) y, m < j → l[m]? = some y → p y = false)
  | [], i => ⟨-1, rfl, .inl ⟨rfl, fun j x h => by simp at h⟩⟩
  | a :: l, i => by
    rw [findO]
    by_cases h : p a = true
    · rw [if_pos h]
      exact ⟨_, rfl, .inr ⟨0, by simp, ⟨a, rfl, h⟩, fun m y hm => by omega⟩⟩
    · rw [if_neg h]
      have hf : p a = false := by simpa using h
      obtain ⟨n, h1, h2⟩ := find_ix p l (i + 1)
      refine ⟨n, h1, ?_⟩
      rcases h2 with ⟨h2, h3⟩ | ⟨j, h2, h3, h4⟩
      · refine .inl ⟨h2, fun j x hx => ?_⟩
        cases j with
        | zero => simp at hx; subst hx; exact hf
        | succ j => exact h3 j x (by simpa using hx)
      · refine .inr ⟨j + 1, by rw [h2]; congr 1; omega, ?_, fun m y hm hy => ?_⟩
        · obtain ⟨x, q1, q2⟩ := h3; exact ⟨x, by simpa using q1, q2⟩
        · cases m with
          | zero => simp at hy; subst hy; exact hf
          | succ m => exact h4 m y (by omega) (by simpa using hy)
theorem any_iff (p : α → Bool) (l : List α) : l.any p = true ↔ ∃ (j : Nat) (x : α), l[j]? = some x ∧ p x = true := by
  rw [List.any_eq_true]
  constructor
  · rintro ⟨x, h, hp⟩; obtain ⟨j, hj⟩ := List.getElem?_of_mem h; exact ⟨j, x, hj, hp⟩
  · rintro ⟨j, x, h, hp⟩; exact ⟨x, List.mem_of_getElem? h, hp⟩
theorem ix_any {p : α → Bool} {l : List α} {n : Int} (h : (n = -1 ∧ ∀ (j : Nat) x, l[j]? = some x → p x = false) ∨ ∃ j : Nat, n = ((0 + j : Nat) : Int) ∧ (∃ x, l[j]? = some x ∧ p x = true) ∧ ∀ (m : Nat) y, m < j → l[m]? = some y → p y = false) : decide (0 ≤ n) = l.any p := by
  rw [Bool.eq_iff_iff, decide_eq_true_eq, any_iff]
  rcases h with ⟨rfl, h⟩ | ⟨j, rfl, ⟨x, h1, h2⟩, _⟩
  · constructor
    · intro h; omega
    · rintro ⟨j, x, h1, h2⟩; rw [h j x h1] at h2; cases h2
  · exact ⟨fun _ => ⟨j, x, h1, h2⟩, fun _ => by omega⟩
theorem ix_take {p : α → Bool} {l : List α} {n : Int} (h : (n = -1 ∧ ∀ (j : Nat) x, l[j]? = some x → p x = false) ∨ ∃ j : Nat, n = ((0 + j : Nat) : Int) ∧ (∃ x, l[j]? = some x ∧ p x = true) ∧ ∀ (m : Nat) y, m < j → l[m]? = some y → p y = false) (i : Nat) : decide (0 ≤ n ∧ n < (i : Int)) = (l.take i).any p := by
  rw [Bool.eq_iff_iff, decide_eq_true_eq, any_iff]
  rcases h with ⟨rfl, h⟩ | ⟨j, rfl, ⟨x, h1, h2⟩, h3⟩
  · constructor
    · intro h; omega
    · rintro ⟨j, x, h1, h2⟩
      rw [List.getElem?_take] at h1
      split at h1
      · rw [h j x h1] at h2; cases h2
      · cases h1
  · constructor
    · intro q; exact ⟨j, x, by rw [List.getElem?_take, if_pos (by omega)]; exact h1, h2⟩
    · rintro ⟨m, y, q1, q2⟩
      rw [List.getElem?_take] at q1
      split at q1
      · rename_i hm
        by_cases hj : m < j
        · rw [h3 m y hj q1] at q2; cases q2
        · omega
      · cases q1
theorem ix_self {p : α → Bool} {l : List α} {n : Int} (h : (n = -1 ∧ ∀ (j : Nat) x, l[j]? = some x → p x = false) ∨ ∃ j : Nat, n = ((0 + j : Nat) : Int) ∧ (∃ x, l[j]? = some x ∧ p x = true) ∧ ∀ (m : Nat) y, m < j → l[m]? = some y → p y = false) {i : Nat} {x : α} (hx : l[i]? = some x) (hp : p x = true) : 0 ≤ n := by
  rcases h with ⟨rfl, h⟩ | ⟨j, rfl, _, _⟩
  · rw [h i x hx] at hp; cases hp
  · omega
theorem sub_take (l : List α) (i : Nat) (hi : i ≤ l.length) : sub' l 0 (i : Int) = some (l.take i) := by
  unfold sub'
  rw [if_pos ⟨by omega, by omega, by omega⟩]
  simp
end
theorem contS_eq (l : List Str) (c : Str) (hl : l.length ≤ 9223372036854775807) : F_slices_Contains___string_string_ l c = some (l.any fun y => decide (c = y)) := by
  unfold F_slices_Contains___string_string_ F_slices_Index___string_string_
  simp only [yH, joinO_eq]
  unfold F_slices_Index___string_string__L1
  obtain ⟨n, h1, h2⟩ := find_ix (fun y => decide (c = y)) l 0
  rw [wE l (fun i x => if decide (c = x) = true then some (some (i : Int)) else none) (some (-1)) hl ?_ ?_, h1, zV, ix_any h2]
  · intro k i x hx hi
    simp only [yH]
    rw [xR hi, yU, at_ok hx, zV, wrap1 hi hl]
    cases decide (c = x) <;> rfl
  · intro k
    simp only [yH]
    rw [xX, yQ]
theorem place_eq (l : List Str) (c : Str) (hl : l.length ≤ 9223372036854775807) : ∃ n, F_ref6_place l c = some n ∧ decide (0 ≤ n) = l.any fun y => decide (c = y) := by
  unfold F_ref6_place
  simp only [joinO_eq]
  unfold F_ref6_place_L1
  obtain ⟨n, h1, h2⟩ := find_ix (fun y => decide (y = c)) l 0
  refine ⟨n, ?_, ?_⟩
  · rw [wE l (fun i x => if decide (x = c) = true then some (some (i : Int)) else none) (some (-1)) hl ?_ ?_, h1]
    · intro k i x hx hi
      simp only [yH]
      rw [xR hi, yU, at_ok hx, zV, wrap1 hi hl]
      cases decide (x = c) <;> rfl
    · intro k
      simp only [yH]
      rw [xX, yQ]
  · rw [ix_any h2]
    congr 1
    funext y
    exact decide_eq_decide.2 eq_comm
def nmd (l : List Rule) (s : Str) : Bool := l.any fun y => decide (y.Name = s)
theorem named_eq (s : Str) (r : Rules) (i : Nat) (hi : i ≤ r.Rules.length) (hl : r.Rules.length ≤ 9223372036854775807) : F_event_checkRule_1 s r (i : Int) = some (nmd (r.Rules.take i) s) := by
  unfold F_event_checkRule_1
  rw [sub_take _ _ hi, zV]
  unfold F_slices_ContainsFunc___api_Rule_api_Rule__event_checkRule_1_1 F_slices_IndexFunc___api_Rule_api_Rule__event_checkRule_1_1
  simp only [yH, joinO_eq]
  unfold F_slices_IndexFunc___api_Rule_api_Rule__event_checkRule_1_1_L1
  have hl2 : (r.Rules.take i).length ≤ 9223372036854775807 := by rw [List.length_take]; omega
  generalize r.Rules.take i = l at *
  obtain ⟨n, h1, h2⟩ := find_ix (fun y : Rule => decide (y.Name = s)) l 0
  rw [wE l (fun i x => if decide (x.Name = s) = true then some (some (i : Int)) else none) (some (-1)) hl2 ?_ ?_, h1, zV, ix_any h2]
  · rfl
  · intro k i x hx hi
    simp only [yH, F_event_checkRule_1_1]
    rw [xR hi, yU, at_ok hx, zV, zV, wrap1 hi hl2]
    cases decide (x.Name = s) <;> rfl
  · intro k
    simp only [yH]
    rw [xX, yQ]
theorem ruleOf_eq (s : Str) (r : Rules) (hl : r.Rules.length ≤ 9223372036854775807) : ∃ n, F_ref6_RuleOf r s = some n ∧ (∀ i : Nat, decide (0 ≤ n ∧ n < (i : Int)) = nmd (r.Rules.take i) s) ∧ ∀ (i : Nat) x, r.Rules[i]? = some x → x.Name = s → 0 ≤ n := by
  unfold F_ref6_RuleOf
  simp only [joinO_eq]
  unfold F_ref6_RuleOf_L1
  obtain ⟨n, h1, h2⟩ := find_ix (fun y : Rule => decide (y.Name = s)) r.Rules 0
  refine ⟨n, ?_, fun i => ix_take h2 i, fun i x hx hs => ix_self h2 hx (decide_eq_true hs)⟩
  rw [wE r.Rules (fun i x => if decide (x.Name = s) = true then some (some (i : Int)) else none) (some (-1)) hl ?_ ?_, h1]
  · intro k i x hx hi
    simp only [yH]
    rw [xR hi, yU, at_ok hx, zV, wrap1 hi hl]
    cases decide (x.Name = s) <;> rfl
  · intro k
    simp only [yH]
    rw [xX, yQ]
end Go.Lf
namespace Go.Lf
open Go.OB
/-! ### Moves -/
def mv1 (c : Cond) : Int := if c.Kind = 6 ∨ c.Kind = 7 then 2 else 0
theorem mv1_eq (c : Cond) : F_event_checkMove_1 c = some (mv1 c) := by
  unfold F_event_checkMove_1 mv1
  simp only [yH, iteB_or2, zV]
  by_cases h : c.Kind = 6 ∨ c.Kind = 7
  · have e : (decide (c.Kind = 6) || decide (c.Kind = 7)) = true := by rw [Bool.or_eq_true, decide_eq_true_eq, decide_eq_true_eq]; exact h
    rw [if_pos h, e, yU]
  · have e : (decide (c.Kind = 6) || decide (c.Kind = 7)) = false := by rw [Bool.or_eq_false_iff, decide_eq_false_iff_not, decide_eq_false_iff_not]; exact not_or.1 h
    rw [if_neg h, e, yQ]
theorem each2_R : ∀ (n : Nat) (c : Cond), dN c ≤ n → okC c → F_event_each_event_checkMove_1_R n c = some (fE mv1 c)
  | 0, c, h, _ => by have := dN_pos c; omega
  | n + 1, c, h, ok => by
    have hlen := ((okC_eq c).1 ok).2.1
    show F_event_each_event_checkMove_1_B (F_event_each_event_checkMove_1_R n) c = _
    unfold F_event_each_event_checkMove_1_B
    rw [mv1_eq, zV, fE_eq]
    simp only [yH, joinO_eq]
    by_cases e : mv1 c = 0
    · rw [if_pos e, decide_eq_false (by simpa using e), yQ]
      unfold F_event_each_event_checkMove_1_B_L1
      rw [wE c.Kids (fun _ x => if fE mv1 x = 0 then none else some (some (fE mv1 x))) (some 0) hlen ?_ ?_, fEs_find]
      · intro k i x hx hi
        obtain ⟨k1, k2, k3⟩ := kid_ok ok hx
        simp only [yH]
        rw [xR hi, yU, at_ok hx, zV, each2_R n x (by omega) k1, zV, wrap1 hi hlen]
        by_cases z : fE mv1 x = 0
        · rw [if_pos z, decide_eq_false (by simpa using z), yQ]
        · rw [if_neg z, decide_eq_true z, yU]
      · intro k
        simp only [yH]
        rw [xX, yQ]
    · rw [if_neg e, decide_eq_true e, yU]
mutual
def anyC (p : Cond → Bool) : Cond → Bool
  | ⟨k, nm, ot, op, n, fr, ks⟩ => p ⟨k, nm, ot, op, n, fr, ks⟩ || anyCs p ks
def anyCs (p : Cond → Bool) : List Cond → Bool
  | [] => false
  | c :: l => anyC p c || anyCs p l
end
theorem anyC_eq (p : Cond → Bool) (c : Cond) : anyC p c = (p c || anyCs p c.Kids) := by cases c; rfl
theorem anyCs_find (p : Cond → Bool) : ∀ (l : List Cond) (i : Nat), findO (fun _ x => if anyC p x = true then some (some true) else none) (some false) l i = some (anyCs p l)
  | [], _ => rfl
  | c :: l, i => by
    rw [findO, anyCs]
    cases h : anyC p c with
    | true => rfl
    | false => exact anyCs_find p l (i + 1)
mutual
theorem fE_any (f : Cond → Int) (p : Cond → Bool) (e : Int) (h0 : e ≠ 0) (h : ∀ c, f c = if p c = true then e else 0) : ∀ c, fE f c = if anyC p c = true then e else 0
  | ⟨k, nm, ot, op, n, fr, ks⟩ => by
    rw [fE, anyC, h]
    cases p ⟨k, nm, ot, op, n, fr, ks⟩ with
    | true => simp [h0]
    | false => simpa using fEs_any f p e h0 h ks
theorem fEs_any (f : Cond → Int) (p : Cond → Bool) (e : Int) (h0 : e ≠ 0) (h : ∀ c, f c = if p c = true then e else 0) : ∀ l, fEs f l = if anyCs p l = true then e else 0
  | [] => rfl
  | c :: l => by
    rw [fEs, anyCs, fE_any f p e h0 h c]
    cases anyC p c with
    | true => simp [h0]
    | false => simpa using fEs_any f p e h0 h l
end
def pMv (c : Cond) : Bool := decide (c.Kind = 6) || decide (c.Kind = 7)
theorem refers_R : ∀ (n : Nat) (c : Cond), dN c ≤ n → okC c → F_ref6_refers_R n c = some (anyC pMv c)
  | 0, c, h, _ => by have := dN_pos c; omega
  | n + 1, c, h, ok => by
    have hlen := ((okC_eq c).1 ok).2.1
    show F_ref6_refers_B (F_ref6_refers_R n) c = _
    unfold F_ref6_refers_B
    simp only [yH, joinO_eq, iteB_or2, zV]
    rw [anyC_eq]
    show iteB (pMv c) _ _ = _
    cases pMv c with
    | true => rfl
    | false =>
      rw [yQ, Bool.false_or]
      unfold F_ref6_refers_B_L1
      rw [wE c.Kids (fun _ x => if anyC pMv x = true then some (some true) else none) (some false) hlen ?_ ?_, anyCs_find]
      · intro k i x hx hi
        obtain ⟨k1, k2, k3⟩ := kid_ok ok hx
        simp only [yH]
        rw [xR hi, yU, at_ok hx, zV, refers_R n x (by omega) k1, zV, wrap1 hi hlen]
        cases anyC pMv x <;> rfl
      · intro k
        simp only [yH]
        rw [xX, yQ]
theorem mv1_p (c : Cond) : mv1 c = if pMv c = true then 2 else 0 := by
  unfold mv1 pMv
  simp only [Bool.or_eq_true, decide_eq_true_eq]
def mvE (r : Rules) (m : MoveT) : Int :=
  if (r.Phases.any fun y => decide (m.From = y)) = true ∧ (r.Phases.any fun y => decide (m.To = y)) = true then
    if ckC m.When = 0 then if anyC pMv m.When = true then 2 else 0 else ckC m.When
  else 4
theorem move_eq (r : Rules) (m : MoveT) (hl : r.Phases.length ≤ 9223372036854775807) (ok : okC m.When) : F_event_checkMove r m = some (mvE r m) := by
  unfold F_event_checkMove mvE
  simp only [yH, joinO_eq]
  unfold F_event_checkMove_L1
  rw [wE [m.From, m.To] (fun _ x => if (r.Phases.any fun y => decide (x = y)) = true then none else some (some 4)) (if ckC m.When = 0 then some (if anyC pMv m.When = true then 2 else 0) else some (ckC m.When)) (show (2 : Nat) ≤ _ by omega) ?_ ?_]
  · simp only [findO]
    cases (r.Phases.any fun y => decide (m.From = y)) <;> cases (r.Phases.any fun y => decide (m.To = y)) <;> simp <;> split <;> rfl
  · intro k i x hx hi
    simp only [yH]
    rw [xR hi, yU, at_ok hx, zV, contS_eq _ _ hl, zV, wrap1 hi (show (2 : Nat) ≤ _ by omega)]
    cases (r.Phases.any fun y => decide (x = y)) <;> rfl
  · intro k
    simp only [yH]
    rw [xX, yQ, CheckCond_eq _ ok, zV]
    by_cases z : ckC m.When = 0
    · have g := ckC_good z
      rw [if_pos z, decide_eq_false (by simpa using z), yQ]
      unfold F_event_each_event_checkMove_1
      rw [each2_R FU m.When (Nat.le_of_lt (FU_gt (by omega))) ok, zV, fE_any mv1 pMv 2 (by decide) mv1_p]
    · rw [if_neg z, decide_eq_true z, yU]
theorem rmove_step (r : Rules) (m : MoveT) (hl : r.Phases.length ≤ 9223372036854775807) (ok : okC m.When) (k : Option Int) :
    (bindO (bindO (F_ref6_place r.Phases m.From) fun x1967 => letO (decide (x1967 < 0)) fun x1971 => iteB x1971 (some true) (bindO (F_ref6_place r.Phases m.To) fun x1975 => letO (decide (x1975 < 0)) fun x1979 => some x1979)) fun g1963 =>
      iteB g1963 (some 4) (bindO (F_ref6_CheckCond m.When) fun x1997 => letO (decide (x1997 ≠ 0)) fun x2002 => iteB x2002 (some x1997) (bindO (F_ref6_refers m.When) fun x2008 => iteB x2008 (some 2) k))) =
    if mvE r m = 0 then k else some (mvE r m) := by
  obtain ⟨n1, h1, h2⟩ := place_eq r.Phases m.From hl
  obtain ⟨n2, h3, h4⟩ := place_eq r.Phases m.To hl
  have neg : ∀ n : Int, decide (n < 0) = !decide (0 ≤ n) := fun n => by rw [← decide_not]; exact decide_eq_decide.2 (by omega)
  unfold mvE
  rw [h1, zV]
  simp only [yH]
  rw [neg n1, h2, h3, rCheckCond_eq _ ok]
  simp only [zV]
  rw [neg n2, h4]
  cases (r.Phases.any fun y => decide (m.From = y)) with
  | false => simp [iteB, bindO]
  | true =>
    cases (r.Phases.any fun y => decide (m.To = y)) with
    | false => simp [iteB, bindO]
    | true =>
      simp only [Bool.not_true, yQ, zV, and_self, if_true]
      by_cases z : ckC m.When = 0
      · have g := ckC_good z
        have e : F_ref6_refers m.When = some (anyC pMv m.When) := refers_R FU m.When (Nat.le_of_lt (FU_gt (by omega))) ok
        rw [if_pos z, decide_eq_false (by simpa using z), yQ, e, zV]
        cases anyC pMv m.When <;> simp [iteB]
      · rw [if_neg z, decide_eq_true z, yU, if_neg z]
/-! ### Rules -/
def pRl (r : Rules) (i : Nat) (c : Cond) : Bool := (decide (c.Kind = 6) && !(r.Phases.any fun y => decide (c.Name = y))) || (decide (c.Kind = 7) && !nmd (r.Rules.take i) c.Name)
def rl1 (r : Rules) (i : Nat) (c : Cond) : Int := if pRl r i c = true then 4 else 0
theorem rl1_eq (r : Rules) (i : Nat) (c : Cond) (hp : r.Phases.length ≤ 9223372036854775807) (hr : r.Rules.length ≤ 9223372036854775807) (hi : i ≤ r.Rules.length) : F_event_checkRule_2_dfevent_checkRule_1_a0de c r (i : Int) = some (rl1 r i c) := by
  unfold F_event_checkRule_2_dfevent_checkRule_1_a0de rl1 pRl
  rw [contS_eq _ _ hp, named_eq _ _ _ hi hr]
  simp only [yH, zV]
  generalize decide (c.Kind = 6) = a
  generalize decide (c.Kind = 7) = b
  generalize (r.Phases.any fun y => decide (c.Name = y)) = d
  generalize nmd (r.Rules.take i) c.Name = e
  cases a <;> cases b <;> cases d <;> cases e <;> rfl
theorem each3_R (r : Rules) (i : Nat) (hp : r.Phases.length ≤ 9223372036854775807) (hr : r.Rules.length ≤ 9223372036854775807) (hi : i ≤ r.Rules.length) : ∀ (n : Nat) (c : Cond), dN c ≤ n → okC c → F_event_each_event_checkRule_2_dfevent_checkRule_1_a0de_R n c r (i : Int) = some (fE (rl1 r i) c)
  | 0, c, h, _ => by have := dN_pos c; omega
  | n + 1, c, h, ok => by
    have hlen := ((okC_eq c).1 ok).2.1
    show F_event_each_event_checkRule_2_dfevent_checkRule_1_a0de_B (F_event_each_event_checkRule_2_dfevent_checkRule_1_a0de_R n) c r (i : Int) = _
    unfold F_event_each_event_checkRule_2_dfevent_checkRule_1_a0de_B
    rw [rl1_eq r i c hp hr hi, zV, fE_eq]
    simp only [yH, joinO_eq]
    by_cases e : rl1 r i c = 0
    · rw [if_pos e, decide_eq_false (by simpa using e), yQ]
      unfold F_event_each_event_checkRule_2_dfevent_checkRule_1_a0de_B_L1
      rw [wE c.Kids (fun _ x => if fE (rl1 r i) x = 0 then none else some (some (fE (rl1 r i) x))) (some 0) hlen ?_ ?_, fEs_find]
      · intro k j x hx hj
        obtain ⟨k1, k2, k3⟩ := kid_ok ok hx
        simp only [yH]
        rw [xR hj, yU, at_ok hx, zV, each3_R r i hp hr hi n x (by omega) k1, zV, wrap1 hj hlen]
        by_cases z : fE (rl1 r i) x = 0
        · rw [if_pos z, decide_eq_false (by simpa using z), yQ]
        · rw [if_neg z, decide_eq_true z, yU]
      · intro k
        simp only [yH]
        rw [xX, yQ]
    · rw [if_neg e, decide_eq_true e, yU]
theorem unnamed_R (r : Rules) (i : Nat) (hp : r.Phases.length ≤ 9223372036854775807) (hr : r.Rules.length ≤ 9223372036854775807) : ∀ (n : Nat) (c : Cond), dN c ≤ n → okC c → F_ref6_unnamed_R n r (i : Int) c = some (anyC (pRl r i) c)
  | 0, c, h, _ => by have := dN_pos c; omega
  | n + 1, c, h, ok => by
    have hlen := ((okC_eq c).1 ok).2.1
    obtain ⟨n1, h1, h2⟩ := place_eq r.Phases c.Name hp
    obtain ⟨n2, h3, h4, _⟩ := ruleOf_eq c.Name r hr
    have neg : ∀ n : Int, decide (n < 0) = !decide (0 ≤ n) := fun n => by rw [← decide_not]; exact decide_eq_decide.2 (by omega)
    have kids : F_ref6_unnamed_B_L1 (F_ref6_unnamed_R n) r (i : Int) c (fun _ => some false) 0 = some (anyCs (pRl r i) c.Kids) := by
      unfold F_ref6_unnamed_B_L1
      rw [wE c.Kids (fun _ x => if anyC (pRl r i) x = true then some (some true) else none) (some false) hlen ?_ ?_, anyCs_find]
      · intro k j x hx hj
        obtain ⟨k1, k2, k3⟩ := kid_ok ok hx
        simp only [yH]
        rw [xR hj, yU, at_ok hx, zV, unnamed_R r i hp hr n x (by omega) k1, zV, wrap1 hj hlen]
        cases anyC (pRl r i) x <;> rfl
      · intro k
        simp only [yH]
        rw [xX, yQ]
    show F_ref6_unnamed_B (F_ref6_unnamed_R n) r (i : Int) c = _
    unfold F_ref6_unnamed_B
    simp only [yH, joinO_eq]
    rw [h1, h3]
    simp only [zV, iteB_or2]
    rw [neg n1, h2, kids, anyC_eq]
    have e2 : (decide (n2 < 0) || decide ((i : Int) ≤ n2)) = !nmd (r.Rules.take i) c.Name := by
      rw [← h4 i, ← decide_not, Bool.eq_iff_iff, Bool.or_eq_true, decide_eq_true_eq, decide_eq_true_eq, decide_eq_true_eq]; omega
    rw [e2]
    unfold pRl
    generalize decide (c.Kind = 6) = a
    generalize decide (c.Kind = 7) = b
    generalize (r.Phases.any fun y => decide (c.Name = y)) = d
    generalize nmd (r.Rules.take i) c.Name = e
    cases a <;> cases b <;> cases d <;> cases e <;> rfl
def rlE (r : Rules) (i : Nat) (x : Rule) : Int :=
  if isNm x.Name = true then if nmd (r.Rules.take i) x.Name = true then 5 else if ckC x.When = 0 then if anyC (pRl r i) x.When = true then 4 else 0 else ckC x.When else 8
theorem rule_eq (r : Rules) (i : Nat) (x : Rule) (hx : r.Rules[i]? = some x) (hp : r.Phases.length ≤ 9223372036854775807) (hr : r.Rules.length ≤ 9223372036854775807) (hn : okS x.Name) (ok : okC x.When) : F_event_checkRule r (i : Int) = some (rlE r i x) := by
  have hi : i ≤ r.Rules.length := Nat.le_of_lt (List.getElem?_eq_some_iff.1 hx).1
  unfold F_event_checkRule rlE
  rw [at_ok hx, zV, isName_eq _ hn, zV, named_eq _ _ _ hi hr, CheckCond_eq _ ok]
  simp only [yH, zV]
  cases isNm x.Name with
  | false => rfl
  | true =>
    cases nmd (r.Rules.take i) x.Name with
    | true => rfl
    | false =>
      simp only [Bool.not_true, yQ, if_true, Bool.false_eq_true, if_false]
      by_cases z : ckC x.When = 0
      · have g := ckC_good z
        rw [if_pos z, decide_eq_false (by simpa using z), yQ]
        unfold F_event_each_event_checkRule_2_dfevent_checkRule_1_a0de
        rw [each3_R r i hp hr hi FU x.When (Nat.le_of_lt (FU_gt (by omega))) ok, zV, fE_any (rl1 r i) (pRl r i) 4 (by decide) (fun _ => rfl)]
      · rw [if_neg z, decide_eq_true z, yU]
theorem rrule_step (r : Rules) (i : Nat) (x : Rule) (hx : r.Rules[i]? = some x) (hp : r.Phases.length ≤ 9223372036854775807) (hr : r.Rules.length ≤ 9223372036854775807) (hn : okS x.Name) (ok : okC x.When) (k : Option Int) :
    (bindO (F_ref6_IsName x.Name) fun x3834 => letO (!x3834) fun x3838 => iteB x3838 (some 8) (bindO (at' r.Rules (i : Int)) fun x3873 => bindO (F_ref6_RuleOf r x3873.Name) fun x3889 => letO (decide (x3889 < (i : Int))) fun x3893 => iteB x3893 (some 5)
      (bindO (at' r.Rules (i : Int)) fun x3925 => bindO (F_ref6_CheckCond x3925.When) fun x3941 => letO (decide (x3941 ≠ 0)) fun x3946 => iteB x3946 (some x3941) (bindO (at' r.Rules (i : Int)) fun x3953 => bindO (F_ref6_unnamed r (i : Int) x3953.When) fun x3969 => iteB x3969 (some 4) k)))) =
    if rlE r i x = 0 then k else some (rlE r i x) := by
  obtain ⟨n, h1, h2, h3⟩ := ruleOf_eq x.Name r hr
  have h0 := h3 i x hx rfl
  unfold rlE
  rw [rIsName_eq _ hn, zV, at_ok hx]
  simp only [yH, zV]
  rw [h1, zV, rCheckCond_eq _ ok, zV]
  have e : decide (n < (i : Int)) = nmd (r.Rules.take i) x.Name := by rw [← h2 i]; exact decide_eq_decide.2 (by omega)
  rw [e]
  cases isNm x.Name with
  | false => simp [iteB]
  | true =>
    cases nmd (r.Rules.take i) x.Name with
    | true => simp [iteB]
    | false =>
      simp only [Bool.not_true, yQ, if_true, Bool.false_eq_true, if_false]
      by_cases z : ckC x.When = 0
      · have g := ckC_good z
        have e : F_ref6_unnamed r (i : Int) x.When = some (anyC (pRl r i) x.When) := unnamed_R r i hp hr FU x.When (Nat.le_of_lt (FU_gt (by omega))) ok
        rw [if_pos z, decide_eq_false (by simpa using z), yQ, e, zV]
        cases anyC (pRl r i) x.When <;> simp [iteB]
      · rw [if_neg z, decide_eq_true z, yU, if_neg z]
/-! ### All rules -/
def okR (r : Rules) : Prop := okL okS r.Phases ∧ okL (fun m : MoveT => okS m.From ∧ okS m.To ∧ okC m.When) r.Moves ∧ okL (fun x : Rule => okS x.Name ∧ okC x.When) r.Rules
def phE (l : List Str) (i : Nat) (x : Str) : Int := if isNm x = true then if ((l.take i).any fun y => decide (x = y)) = true then 5 else 0 else 8
def chk (r : Rules) : Option Int :=
  if (decide (20 < (r.Phases.length : Int)) || decide (60 < (r.Moves.length : Int))) || decide (60 < (r.Rules.length : Int)) then some 3
  else findO (fun i x => if phE r.Phases i x = 0 then none else some (some (phE r.Phases i x))) (findO (fun _ m => if mvE r m = 0 then none else some (some (mvE r m))) (findO (fun i x => if rlE r i x = 0 then none else some (some (rlE r i x))) (some 0) r.Rules 0) r.Moves 0) r.Phases 0
theorem Check_eq (r : Rules) (ok : okR r) : F_event_Check r = chk r := by
  obtain ⟨⟨p1, p2⟩, ⟨m1, m2⟩, ⟨r1, r2⟩⟩ := ok
  unfold F_event_Check chk
  simp only [yH, joinO_eq, iteB_or2, zV]
  rw [iteB_ite]
  congr 1
  unfold F_event_Check_L1
  refine wE r.Phases _ _ p1 (fun k i x hx hi => ?_) (fun k => ?_)
  · have hm := p2 x (List.mem_of_getElem? hx)
    simp only [yH]
    rw [xR hi, yU, at_ok hx, zV, isName_eq _ hm, zV, sub_take _ _ (Nat.le_of_lt hi), zV, contS_eq _ _ (by rw [List.length_take]; omega), zV, wrap1 hi p1]
    unfold phE
    cases isNm x <;> cases ((r.Phases.take i).any fun y => decide (x = y)) <;> rfl
  · simp only [yH]
    rw [xX, yQ]
    unfold F_event_Check_L2
    refine wE r.Moves _ _ m1 (fun k i x hx hi => ?_) (fun k => ?_)
    · have hm := m2 x (List.mem_of_getElem? hx)
      simp only [yH]
      rw [xR hi, yU, at_ok hx, zV, move_eq r x p1 hm.2.2, zV, wrap1 hi m1]
      by_cases z : mvE r x = 0
      · rw [if_pos z, decide_eq_false (by simpa using z), yQ]
      · rw [if_neg z, decide_eq_true z, yU]
    · simp only [yH]
      rw [xX, yQ]
      unfold F_event_Check_L3
      refine wE r.Rules _ _ r1 (fun k i x hx hi => ?_) (fun k => ?_)
      · have hm := r2 x (List.mem_of_getElem? hx)
        simp only [yH]
        rw [xR hi, yU, rule_eq r i x hx p1 r1 hm.1 hm.2, zV, wrap1 hi r1]
        by_cases z : rlE r i x = 0
        · rw [if_pos z, decide_eq_false (by simpa using z), yQ]
        · rw [if_neg z, decide_eq_true z, yU]
      · simp only [yH]
        rw [xX, yQ]
theorem rCheck_eq (r : Rules) (ok : okR r) : F_ref6_Check r = chk r := by
  obtain ⟨⟨p1, p2⟩, ⟨m1, m2⟩, ⟨r1, r2⟩⟩ := ok
  unfold F_ref6_Check chk
  simp only [yH, joinO_eq, iteB_or2, zV]
  rw [iteB_ite]
  congr 1
  unfold F_ref6_Check_L1
  refine wE r.Phases _ _ p1 (fun k i x hx hi => ?_) (fun k => ?_)
  · have hm := p2 x (List.mem_of_getElem? hx)
    obtain ⟨n, h1, h2⟩ := place_eq (r.Phases.take i) x (by rw [List.length_take]; omega)
    simp only [yH]
    rw [xR hi, yU, at_ok hx, zV, rIsName_eq _ hm, zV, sub_take _ _ (Nat.le_of_lt hi), zV, zV, h1, zV, h2, wrap1 hi p1]
    unfold phE
    cases isNm x <;> cases ((r.Phases.take i).any fun y => decide (x = y)) <;> rfl
  · simp only [yH]
    rw [xX, yQ]
    unfold F_ref6_Check_L2
    refine wE r.Moves _ _ m1 (fun k i x hx hi => ?_) (fun k => ?_)
    · have hm := m2 x (List.mem_of_getElem? hx)
      have st := rmove_step r x p1 hm.2.2 (k ((i + 1 : Nat) : Int))
      simp only [yH] at st ⊢
      rw [xR hi, yU, at_ok hx, zV, wrap1 hi m1, st]
      by_cases z : mvE r x = 0
      · rw [if_pos z, if_pos z]
      · rw [if_neg z, if_neg z]
    · simp only [yH]
      rw [xX, yQ]
      unfold F_ref6_Check_L3
      refine wE r.Rules _ _ r1 (fun k i x hx hi => ?_) (fun k => ?_)
      · have hm := r2 x (List.mem_of_getElem? hx)
        have st := rrule_step r i x hx p1 r1 hm.1 hm.2 (k ((i + 1 : Nat) : Int))
        simp only [yH] at st ⊢
        rw [xR hi, yU, at_ok hx, zV, wrap1 hi r1]
        rw [at_ok hx] at st
        rw [st]
        by_cases z : rlE r i x = 0
        · rw [if_pos z, if_pos z]
        · rw [if_neg z, if_neg z]
      · simp only [yH]
        rw [xX, yQ]
end Go.Lf
namespace Go.Lf
open Go.OB
theorem isNm_len {s : Str} (h : isNm s = true) : s.length ≤ 30 := by
  unfold isNm at h
  simp only [Bool.and_eq_true, decide_eq_true_eq] at h
  omega
structure Gd (c : Cond) : Prop where
  k1 : 1 ≤ c.Kind ∧ c.Kind ≤ 15
  nm : c.Name.length ≤ 30
  ot : c.Other.length ≤ 30
  op : 0 ≤ c.Op ∧ c.Op ≤ 6
  n : -1125899906842624 ≤ c.N ∧ c.N ≤ 1125899906842624
  fr : 0 ≤ c.Frames ∧ c.Frames ≤ 4096
set_option maxHeartbeats 20000000 in
theorem gd_in (nm ot : Str) (op n fr : Int) (ks : List Cond) (k : Int) (hk2 : k = 1 ∨ k = 2 ∨ k = 3 ∨ k = 4 ∨ k = 5 ∨ k = 6 ∨ k = 7 ∨ k = 8 ∨ k = 9 ∨ k = 10 ∨ k = 11 ∨ k = 12 ∨ k = 13 ∨ k = 14 ∨ k = 15) (h1 : okS nm) (h2 : okS ot) (h : F_ref6_nodeFault ⟨k, nm, ot, op, n, fr, ks⟩ = some 0) : Gd ⟨k, nm, ot, op, n, fr, ks⟩ := by
  have q1 := @isNm_len nm
  have q2 := @isNm_len ot
  rcases hk2 with rfl | rfl | rfl | rfl | rfl | rfl | rfl | rfl | rfl | rfl | rfl | rfl | rfl | rfl | rfl <;>
    (unfold F_ref6_nodeFault at h
     simp only [rf1, rf2, rf3, rf4, rf5, rf6, rf7, rf8, rf9, rf10, rf11, rf12, rf13, rf14, rf15, zV, yH, Bool.not_true, Bool.not_false, yU, yQ, joinO_eq, out6, rIsName_eq _ h1, rIsName_eq _ h2, Int.reduceEq, Int.reduceLT, Int.reduceLE, decide_true, decide_false, Bool.or_self, iteB_or, iteB_or2, iteB_and] at h
     simp only [iteB_ite] at h
     constructor <;> grind)
theorem gd_of {c : Cond} (ok : okC c) (hk : c.Kids.length ≤ 200) (h : ck1 c = 0) : Gd c := by
  have e := (ck_both c (okN_of ok) hk).2
  rw [h] at e
  by_cases hb : 1 ≤ c.Kind ∧ c.Kind ≤ 15
  · have o := okN_of ok
    obtain ⟨k, nm, ot, op, n, fr, ks⟩ := c
    have hk2 : k = 1 ∨ k = 2 ∨ k = 3 ∨ k = 4 ∨ k = 5 ∨ k = 6 ∨ k = 7 ∨ k = 8 ∨ k = 9 ∨ k = 10 ∨ k = 11 ∨ k = 12 ∨ k = 13 ∨ k = 14 ∨ k = 15 := by have := hb.1; have := hb.2; simp only at *; omega
    exact gd_in nm ot op n fr ks k hk2 o.1 o.2 e
  · rw [(chk_no c hb).2] at e
    cases e
theorem fEs_mem {f : Cond → Int} : ∀ {l : List Cond}, fEs f l = 0 → ∀ x ∈ l, fE f x = 0
  | [], _, x, hx => by cases hx
  | a :: l, h, x, hx => by
    rw [fEs] at h
    split at h
    · rename_i q
      rcases List.mem_cons.1 hx with rfl | hx
      · exact q
      · exact fEs_mem h x hx
    · rename_i q; exact absurd h q
structure Gt (c : Cond) : Prop where
  ok : okC c
  d : dN c ≤ 20
  n : cN c ≤ 200
  e : fE ck1 c = 0
theorem gt_of {c : Cond} (ok : okC c) (h : ckC c = 0) : Gt c := by
  obtain ⟨h1, h2, h3⟩ := ckC_good h
  exact ⟨ok, h1, h2, h3⟩
theorem Gt.self {c : Cond} (g : Gt c) : Gd c := by
  have h := g.e
  rw [fE_eq] at h
  have h1 := len_cNs c.Kids
  have h2 := cN_eq c
  have h3 := g.n
  split at h
  · rename_i q; exact gd_of g.ok (by omega) q
  · rename_i q; exact absurd h q
theorem Gt.kid {c x : Cond} (g : Gt c) (hx : x ∈ c.Kids) : Gt x := by
  obtain ⟨j, hj⟩ := List.getElem?_of_mem hx
  obtain ⟨k1, k2, k3⟩ := kid_ok g.ok hj
  have h1 := g.d
  have h2 := g.n
  refine ⟨k1, by omega, by omega, ?_⟩
  have h := g.e
  rw [fE_eq] at h
  split at h
  · exact fEs_mem h x hx
  · rename_i q; exact absurd h q
theorem Gt.kids {c : Cond} (g : Gt c) : c.Kids.length ≤ 200 := by
  have h1 := len_cNs c.Kids
  have h2 := cN_eq c
  have h3 := g.n
  omega
end Go.Lf
namespace Go.Lf
open Go.OB
theorem take_snoc {α : Type} {l : List α} {i : Nat} {x : α} (hx : l[i]? = some x) : l.take (i + 1) = l.take i ++ [x] := by
  rw [List.take_add_one, hx]; rfl
structure Gr' (r : Rules) : Prop where
  p : r.Phases.length ≤ 20
  m : r.Moves.length ≤ 60
  l : r.Rules.length ≤ 60
  pn : ∀ x ∈ r.Phases, x.length ≤ 30
  pd : ∀ (i : Nat) x, r.Phases[i]? = some x → x ∉ r.Phases.take i
  mg : ∀ x ∈ r.Moves, Gt x.When ∧ x.From.length ≤ 30 ∧ x.To.length ≤ 30
  lg : ∀ x ∈ r.Rules, Gt x.When ∧ x.Name.length ≤ 30
theorem findO_bind {α : Type} (e : Nat → α → Int) (fin : Option Int) : ∀ (l : List α) (i : Nat), findO (fun i x => if e i x = 0 then none else some (some (e i x))) fin l i = some 0 → fin = some 0 ∧ ∀ (j : Nat) x, l[j]? = some x → e (i + j) x = 0
  | [], i, h => ⟨h, fun j x hx => by simp at hx⟩
  | a :: l, i, h => by
    rw [findO] at h
    by_cases z : e i a = 0
    · rw [if_pos z] at h
      obtain ⟨h1, h2⟩ := findO_bind e fin l (i + 1) h
      refine ⟨h1, fun j x hx => ?_⟩
      cases j with
      | zero => simp at hx; subst hx; simpa using z
      | succ j => have := h2 j x (by simpa using hx); rwa [show i + (j + 1) = i + 1 + j by omega]
    · rw [if_neg z] at h
      exact absurd (Option.some.inj h) z
theorem chk_good {r : Rules} (ok : okR r) (h : chk r = some 0) : Gr' r := by
  unfold chk at h
  split at h
  · exact absurd (Option.some.inj h) (by decide)
  · rename_i q
    simp only [Bool.or_eq_true, decide_eq_true_eq, not_or] at q
    obtain ⟨h1, h2⟩ := findO_bind (phE r.Phases) _ _ _ h
    obtain ⟨h3, h4⟩ := findO_bind (fun _ => mvE r) _ _ _ h1
    obtain ⟨h5, h6⟩ := findO_bind (rlE r) _ _ _ h3
    have ph : ∀ (i : Nat) x, r.Phases[i]? = some x → isNm x = true ∧ x ∉ r.Phases.take i := by
      intro i x hx
      have := h2 i x hx
      rw [Nat.zero_add] at this
      unfold phE at this
      split at this
      · rename_i a
        refine ⟨a, ?_⟩
        split at this
        · exact absurd this (by decide)
        · rename_i b
          intro hm
          exact b (List.any_eq_true.2 ⟨x, hm, by simp⟩)
      · exact absurd this (by decide)
    have pn : ∀ x ∈ r.Phases, x.length ≤ 30 := by
      intro x hx
      obtain ⟨j, hj⟩ := List.getElem?_of_mem hx
      exact isNm_len (ph j x hj).1
    refine ⟨by omega, by omega, by omega, pn, fun i x hx => (ph i x hx).2, ?_, ?_⟩
    · intro x hx
      obtain ⟨j, hj⟩ := List.getElem?_of_mem hx
      have := h4 j x hj
      unfold mvE at this
      split at this
      · rename_i a
        split at this
        · rename_i b
          obtain ⟨y, y1, y2⟩ := List.any_eq_true.1 a.1
          obtain ⟨z, z1, z2⟩ := List.any_eq_true.1 a.2
          refine ⟨gt_of (ok.2.1.2 x hx).2.2 b, ?_, ?_⟩
          · rw [of_decide_eq_true y2]; exact pn y y1
          · rw [of_decide_eq_true z2]; exact pn z z1
        · rename_i b; exact absurd this b
      · exact absurd this (by decide)
    · intro x hx
      obtain ⟨j, hj⟩ := List.getElem?_of_mem hx
      have := h6 j x hj
      unfold rlE at this
      split at this
      · rename_i a
        split at this
        · exact absurd this (by decide)
        · split at this
          · rename_i b; exact ⟨gt_of (ok.2.2.2 x hx).2 b, isNm_len a⟩
          · rename_i b; exact absurd this b
      · exact absurd this (by decide)
theorem chk_some (r : Rules) : ∃ e, chk r = some e := by
  have key : ∀ {α : Type} (e : Nat → α → Int) (fin : Option Int) (_ : ∃ z, fin = some z) (l : List α) (i : Nat), ∃ z, findO (fun i x => if e i x = 0 then none else some (some (e i x))) fin l i = some z := by
    intro α e fin hf l
    induction l with
    | nil => intro i; exact hf
    | cons a l ih =>
      intro i
      rw [findO]
      by_cases z : e i a = 0
      · rw [if_pos z]; exact ih (i + 1)
      · rw [if_neg z]; exact ⟨_, rfl⟩
  unfold chk
  split
  · exact ⟨_, rfl⟩
  · exact key (phE r.Phases) _ (key (fun _ => mvE r) _ (key (rlE r) _ ⟨0, rfl⟩ _ _) _ _) _ _
end Go.Lf
namespace Go.Lf
open Go.OB
section
variable {α β γ σ : Type}
theorem loopN_inv {body : (γ → Option β) → γ → Option β} (enc : Nat → σ → γ) (l : List α) (I : Nat → σ → Prop) (R : β → Prop)
    (h : ∀ k i s x, l[i]? = some x → i < l.length → I i s → ∃ s', I (i + 1) s' ∧ body k (enc i s) = k (enc (i + 1) s')) (hx : ∀ k s, I l.length s → ∃ r, body k (enc l.length s) = some r ∧ R r) :
    ∀ (d i : Nat) (s : σ) (n : Nat), i + d = l.length → d < n → I i s → ∃ r, loopN body n (enc i s) = some r ∧ R r
  | 0, i, s, n, hd, hn, hI => by
    obtain ⟨m, rfl⟩ : ∃ m, n = m + 1 := ⟨n - 1, by omega⟩
    obtain rfl : i = l.length := by omega
    rw [loopN]; exact hx _ s hI
  | d + 1, i, s, n, hd, hn, hI => by
    obtain ⟨m, rfl⟩ : ∃ m, n = m + 1 := ⟨n - 1, by omega⟩
    have hi : i < l.length := by omega
    obtain ⟨s', h1, h2⟩ := h (loopN body m) i s l[i] (List.getElem?_eq_getElem hi) hi hI
    rw [loopN, h2]
    exact loopN_inv enc l I R h hx d (i + 1) s' m (by omega) (by omega) h1
theorem loopO_inv {body : (γ → Option β) → γ → Option β} (enc : Nat → σ → γ) (l : List α) (I : Nat → σ → Prop) (R : β → Prop) (hl : l.length ≤ 9223372036854775807)
    (h : ∀ k i s x, l[i]? = some x → i < l.length → I i s → ∃ s', I (i + 1) s' ∧ body k (enc i s) = k (enc (i + 1) s')) (hx : ∀ k s, I l.length s → ∃ r, body k (enc l.length s) = some r ∧ R r) (s : σ) (h0 : I 0 s) :
    ∃ r, loopO body (enc 0 s) = some r ∧ R r := loopN_inv enc l I R h hx l.length 0 s FU (by omega) (FU_big hl) h0
end
theorem app1 (p q : List Int) (h : p.length + q.length ≤ 140737488355328) : app' 1 p q = some (p ++ q) := by
  unfold app'
  rw [if_pos ⟨by rw [Go.OB.maxLen_eq]; omega, by omega⟩]
theorem AppendUint_ex (p : List Int) (n : Int) (hn : 0 ≤ n ∧ n ≤ 18446744073709551615) (h : p.length + 20 ≤ 140737488355328) : ∃ q, X_AppendUint p n 10 = some q ∧ q.length ≤ p.length + 20 := by
  unfold X_AppendUint
  rw [if_pos ⟨rfl, hn.1, hn.2, h⟩]
  refine ⟨_, rfl, ?_⟩
  rw [List.length_append, nums_len, Lib.decDigits_length]
  have := Lib.nDigits_le20 n.toNat (by omega)
  omega
theorem u64_rng (n : Int) : 0 ≤ IntKind.u64.wrap n ∧ IntKind.u64.wrap n ≤ 18446744073709551615 := by
  rw [IntKind.wrap_u64]; omega
theorem AppendInt_ex (p : List Int) (n : Int) (h : p.length + 21 ≤ 140737488355328) : ∃ q, F_strconv_AppendInt p n 10 = some q ∧ q.length ≤ p.length + 21 := by
  have e : ∃ q, F_internal_strconv_AppendInt p n 10 = some q ∧ q.length ≤ p.length + 21 := by
    unfold F_internal_strconv_AppendInt
    simp only [yH, iteB_dec]
    by_cases c : n < 0
    · have ha := app1 p [45] (by simp; omega)
      rw [if_pos c, ha, zV, zV]
      obtain ⟨q, h1, h2⟩ := AppendUint_ex (p ++ [45]) (IntKind.u64.wrap (-IntKind.u64.wrap n)) (u64_rng _) (by simp; omega)
      simp only []
      rw [h1, zV]
      exact ⟨q, rfl, by simp at h2; omega⟩
    · rw [if_neg c, zV]
      obtain ⟨q, h1, h2⟩ := AppendUint_ex p (IntKind.u64.wrap n) (u64_rng _) (by omega)
      simp only []
      rw [h1, zV]
      exact ⟨q, rfl, by omega⟩
  obtain ⟨q, h1, h2⟩ := e
  unfold F_strconv_AppendInt
  rw [h1, zV]
  exact ⟨q, rfl, h2⟩
def Gr (r : Option Orangeboxref0Ink) (n : Nat) : Prop := ∃ q, r = some q ∧ q.out.length ≤ n
theorem Gr.bind {a : Option Orangeboxref0Ink} {k : Orangeboxref0Ink → Option Orangeboxref0Ink} {n m : Nat} (h : Gr a n) (hk : ∀ q, q.out.length ≤ n → Gr (k q) m) : Gr (bindO a k) m := by
  obtain ⟨q, h1, h2⟩ := h
  rw [h1, zV]; exact hk q h2
theorem Gr.get {r : Option Orangeboxref0Ink} {n : Nat} (h : Gr r n) : ∃ q, r = Option.some q ∧ q.out.length ≤ n := h
theorem Gr.some {q : Orangeboxref0Ink} {n : Nat} (h : q.out.length ≤ n) : Gr (Option.some q) n := ⟨q, rfl, h⟩
theorem ink_Int (p : Orangeboxref0Ink) (n : Int) {b : Nat} (hp : p.out.length ≤ b) (h : b ≤ 100000000000000) : Gr (F_ref0_Ink_Int p n) (b + 22) := by
  obtain ⟨q, h1, h2⟩ := AppendInt_ex p.out n (by omega)
  unfold F_ref0_Ink_Int
  rw [h1, zV]
  simp only [yH]
  rw [app1 q [32] (by simp; omega), zV]
  exact Gr.some (by simp; omega)
theorem ink_Ints (p : Orangeboxref0Ink) (l : List Int) {b : Nat} (hp : p.out.length ≤ b) (h : b + 22 + 22 * l.length ≤ 100000000000000) : Gr (F_ref0_Ink_Ints p l) (b + 22 + 22 * l.length) := by
  unfold F_ref0_Ink_Ints
  simp only [yH]
  refine (ink_Int p _ hp (by omega)).bind fun q hq => ?_
  unfold F_ref0_Ink_Ints_L1
  refine loopO_inv (fun (i : Nat) (s : List Int) => ((i : Int), s)) l (fun i s => s.length ≤ b + 22 + 22 * i) (fun (r : Orangeboxref0Ink) => r.out.length ≤ b + 22 + 22 * l.length) (by omega) ?_ ?_ _ (by simpa using hq)
  · intro kk i s x hx hi hI
    obtain ⟨r, h1, h2⟩ := ink_Int (Orangeboxref0Ink.mk s) x hI (by omega)
    refine ⟨r.out, by omega, ?_⟩
    simp only [yH]
    rw [xR hi, yU, at_ok hx, zV, h1, zV, wrap1 hi (by omega)]
  · intro kk s hI
    simp only [yH]
    rw [xX, yQ]
    exact ⟨_, rfl, hI⟩
theorem ink_Text (p : Orangeboxref0Ink) (s : Str) {b : Nat} (hp : p.out.length ≤ b) (h : b + 22 + s.length ≤ 100000000000000) : Gr (F_ref0_Ink_Text p s) (b + 22 + s.length) := by
  unfold F_ref0_Ink_Text
  simp only [yH]
  refine (ink_Int p _ hp (by omega)).bind fun q hq => ?_
  rw [app1 q.out (nums s) (by rw [nums_len]; omega), zV]
  exact Gr.some (by simp [nums_len]; omega)
theorem ink_Texts (p : Orangeboxref0Ink) (l : List Str) {b : Nat} (hs : ∀ s ∈ l, s.length ≤ 30) (hp : p.out.length ≤ b) (h : b + 22 + 52 * l.length ≤ 100000000000000) : Gr (F_ref0_Ink_Texts p l) (b + 22 + 52 * l.length) := by
  unfold F_ref0_Ink_Texts
  simp only [yH]
  refine (ink_Int p _ hp (by omega)).bind fun q hq => ?_
  unfold F_ref0_Ink_Texts_L1
  refine loopO_inv (fun (i : Nat) (s : List Int) => ((i : Int), s)) l (fun i s => s.length ≤ b + 22 + 52 * i) (fun (r : Orangeboxref0Ink) => r.out.length ≤ b + 22 + 52 * l.length) (by omega) ?_ ?_ _ (by simpa using hq)
  · intro kk i s x hx hi hI
    have hxl := hs x (List.mem_of_getElem? hx)
    obtain ⟨r, h1, h2⟩ := ink_Text (Orangeboxref0Ink.mk s) x hI (by omega)
    refine ⟨r.out, by omega, ?_⟩
    simp only [yH]
    rw [xR hi, yU, at_ok hx, zV, h1, zV, wrap1 hi (by omega)]
  · intro kk s hI
    simp only [yH]
    rw [xX, yQ]
    exact ⟨_, rfl, hI⟩
set_option maxRecDepth 1000000 in
theorem reads_true : F_law6_reads = some true := by kernel_rfl
end Go.Lf
