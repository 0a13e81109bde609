/- Names: both programs tell them alike. -/
import Derived.Test.YtbjhondbheijiaaQOk
import Derived.Test.YtbjhondbheijiaaPl
namespace Go.Lf
def kws : List Str := [[112, 104, 97, 115, 101], [109, 111, 118, 101], [114, 117, 108, 101], [105, 102], [111, 114], [97, 110, 100], [116, 114, 117, 101], [102, 97, 108, 115, 101], [115, 116, 101, 97, 100, 121], [110, 111, 116], [102, 111, 114], [119, 105, 116, 104, 105, 110], [99, 111, 117, 110, 116], [111, 102], [114, 105, 115, 101, 115], [115, 105, 110, 99, 101]]
theorem ewithin (a b c : Int) : F_event_within a b c = some (decide (b ≤ a) && decide (a ≤ c)) := by
  unfold F_event_within; simp only [letO_eq, iteB_and, bindO_s]
theorem fwithin (a b c : Int) : F_fleet_within a b c = some (decide (b ≤ a) && decide (a ≤ c)) := by
  unfold F_fleet_within; simp only [letO_eq, iteB_and, bindO_s]
theorem swithin (a b c : Int) : F_series_within a b c = some (decide (b ≤ a) && decide (a ≤ c)) := by
  unfold F_series_within; simp only [letO_eq, iteB_and, bindO_s]
theorem out9 (a b c : Int) : F_ref9_outside a b c = some (decide (a < b) || decide (c < a)) := by
  unfold F_ref9_outside; simp only [letO_eq, iteB_or2, bindO_s]
theorem out5 (a b c : Int) : F_ref5_outside a b c = some (decide (a < b) || decide (c < a)) := by
  unfold F_ref5_outside; simp only [letO_eq, iteB_or2, bindO_s]
theorem out6 (a b c : Int) : F_ref6_outside a b c = some (decide (a < b) || decide (c < a)) := by
  unfold F_ref6_outside; simp only [letO_eq, iteB_or2, bindO_s]
def isW (s : Str) : Bool := decide (s ∈ kws)
theorem isWord_eq (s : Str) : F_event_isWord s = some (isW s) := by
  unfold F_event_isWord isW kws
  simp only [letO_eq, iteB_or, bindO_s, iteB_id, List.mem_cons, List.not_mem_nil, or_false, Bool.decide_or]
def nmB (c : Int) : Bool := (decide (97 ≤ c) && decide (c ≤ 122)) || (decide (48 ≤ c) && decide (c ≤ 57)) || decide (c = 45)
theorem nameByte_eq (c : Int) : F_event_nameByte c = some (nmB c) := by
  unfold F_event_nameByte nmB
  simp only [letO_eq, bindO_s]
  cases decide (97 ≤ c) <;> cases decide (c ≤ 122) <;> cases decide (48 ≤ c) <;> cases decide (c ≤ 57) <;> cases decide (c = 45) <;> rfl
def badB : Nat → UInt8 → Bool := fun _ c => !nmB (c.toNat : Int)
theorem isName_L1 (s : Str) (hs : okS s) (k : Unit → Option Bool) : F_event_isName_L1 s k (s.length : Int) 0 = if anyI badB s 0 = true then some false else k () := by
  unfold F_event_isName_L1
  rw [loopO_find s (fun i c => if badB i c = true then some (some false) else none) (k ()) hs]
  · exact findO_any badB (some false) (k ()) s 0
  · intro kk i c hc hi
    unfold badB
    simp only [letO_eq]
    rw [lt_true hi, iteB_tr, byte_nat hc, bindO_s, nameByte_eq, bindO_s]
    cases nmB (c.toNat : Int)
    · rfl
    · simp only [Bool.not_true, iteB_fa]; rw [wrap1 hi hs]; rfl
  · intro kk; simp only [letO_eq]; rw [lt_self]; rfl
def firstOk (s : Str) : Bool := match s with
  | [] => false
  | c :: _ => decide (97 ≤ (c.toNat : Int)) && decide ((c.toNat : Int) ≤ 122)
/-- A name. -/
def isNm (s : Str) : Bool := decide (s.length ≤ 30) && firstOk s && !isW s && !anyI badB s 0
theorem isName_eq (s : Str) (hs : okS s) : F_event_isName s = some (isNm s) := by
  unfold F_event_isName isNm
  simp only [letO_eq, bindO_s, ewithin, joinO_eq, isName_L1 s hs, isWord_eq]
  cases s with
  | nil => rfl
  | cons c l =>
    have h0 : byte' (c :: l) 0 = some (c.toNat : Int) := byte_nat (i := 0) rfl
    have h1 : decide ((1 : Int) ≤ ((c :: l).length : Int)) = true := decide_eq_true (by simp; omega)
    have h2 : decide (((c :: l).length : Int) ≤ 30) = decide ((c :: l).length ≤ 30) := decide_eq_decide.2 (by omega)
    have h3 : decide ((c.toNat : Int) < 97) = !decide (97 ≤ (c.toNat : Int)) := by rw [← decide_not]; exact decide_eq_decide.2 (by omega)
    have h4 : decide (122 < (c.toNat : Int)) = !decide ((c.toNat : Int) ≤ 122) := by rw [← decide_not]; exact decide_eq_decide.2 (by omega)
    rw [h0, h1, h2]
    simp only [bindO_s, Bool.true_and, h3, h4, firstOk]
    cases decide ((c :: l).length ≤ 30) <;> cases decide (97 ≤ (c.toNat : Int)) <;> cases decide ((c.toNat : Int) ≤ 122) <;> cases isW (c :: l) <;> cases anyI badB (c :: l) 0 <;> rfl
theorem IsName_eq (s : Str) (hs : okS s) : F_event_IsName s = some (isNm s) := by
  unfold F_event_IsName; rw [isName_eq s hs]; rfl
end Go.Lf
