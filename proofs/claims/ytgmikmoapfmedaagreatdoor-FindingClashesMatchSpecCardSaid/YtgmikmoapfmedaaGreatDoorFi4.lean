/- Twins that differ: both programs say the same. -/
import Derived.Test.YtgmikmoapfmedaaGreatDoorFi2
import Derived.Test.YtgmikmoapfmedaaGreatDoorFi3
namespace Go.Lf
open Go.OB
theorem add_wide {A B : Nat} (hA : A / 18446744073709551616 ≤ 1000000) (hB : B / 18446744073709551616 ≤ 1000000) :
    Fad ((A % 18446744073709551616 : Nat) : Int) ((B % 18446744073709551616 : Nat) : Int) 0 = some ((((A + B) % 18446744073709551616 : Nat) : Int), (((A % 18446744073709551616 + B % 18446744073709551616) / 18446744073709551616 : Nat) : Int)) ∧
    ∃ c, Fad ((A / 18446744073709551616 : Nat) : Int) ((B / 18446744073709551616 : Nat) : Int) (((A % 18446744073709551616 + B % 18446744073709551616) / 18446744073709551616 : Nat) : Int) = some ((((A + B) / 18446744073709551616 : Nat) : Int), c) := by
  unfold Fad
  refine ⟨?_, (((A / 18446744073709551616 : Nat) : Int) + ((B / 18446744073709551616 : Nat) : Int) + (((A % 18446744073709551616 + B % 18446744073709551616) / 18446744073709551616 : Nat) : Int)) / 18446744073709551616, ?_⟩
  · rw [if_pos ⟨by omega, by omega, by omega, by omega⟩]
    have e1 : (((A % 18446744073709551616 : Nat) : Int) + ((B % 18446744073709551616 : Nat) : Int) + 0) % 18446744073709551616 = (((A + B) % 18446744073709551616 : Nat) : Int) := by omega
    have e2 : (((A % 18446744073709551616 : Nat) : Int) + ((B % 18446744073709551616 : Nat) : Int) + 0) / 18446744073709551616 = (((A % 18446744073709551616 + B % 18446744073709551616) / 18446744073709551616 : Nat) : Int) := by omega
    rw [e1, e2]
  · rw [if_pos ⟨by omega, by omega, by omega, by omega⟩]
    have e1 : (((A / 18446744073709551616 : Nat) : Int) + ((B / 18446744073709551616 : Nat) : Int) + (((A % 18446744073709551616 + B % 18446744073709551616) / 18446744073709551616 : Nat) : Int)) % 18446744073709551616 = (((A + B) / 18446744073709551616 : Nat) : Int) := by omega
    rw [e1]
theorem aBb {A B : Nat} (hBA : B ≤ A) (hA : A / 18446744073709551616 ≤ 1000000) :
    ∃ b c, Fab ((A % 18446744073709551616 : Nat) : Int) ((B % 18446744073709551616 : Nat) : Int) 0 = some ((((A - B) % 18446744073709551616 : Nat) : Int), b) ∧
      Fab ((A / 18446744073709551616 : Nat) : Int) ((B / 18446744073709551616 : Nat) : Int) b = some ((((A - B) / 18446744073709551616 : Nat) : Int), c) := by
  unfold Fab
  by_cases cb : A % 18446744073709551616 < B % 18446744073709551616
  · refine ⟨1, if ((A / 18446744073709551616 : Nat) : Int) < ((B / 18446744073709551616 : Nat) : Int) + 1 then 1 else 0, ?_, ?_⟩
    · rw [if_pos ⟨by omega, by omega, by omega, by omega, by omega⟩, if_pos (by omega)]
      have e1 : (((A % 18446744073709551616 : Nat) : Int) + 18446744073709551616 - ((B % 18446744073709551616 : Nat) : Int) - 0) % 18446744073709551616 = (((A - B) % 18446744073709551616 : Nat) : Int) := by omega
      rw [e1]
    · rw [if_pos ⟨by omega, by omega, by omega, by omega, by omega⟩]
      have e1 : (((A / 18446744073709551616 : Nat) : Int) + 18446744073709551616 - ((B / 18446744073709551616 : Nat) : Int) - 1) % 18446744073709551616 = (((A - B) / 18446744073709551616 : Nat) : Int) := by omega
      rw [e1]
  · refine ⟨0, if ((A / 18446744073709551616 : Nat) : Int) < ((B / 18446744073709551616 : Nat) : Int) + 0 then 1 else 0, ?_, ?_⟩
    · rw [if_pos ⟨by omega, by omega, by omega, by omega, by omega⟩, if_neg (by omega)]
      have e1 : (((A % 18446744073709551616 : Nat) : Int) + 18446744073709551616 - ((B % 18446744073709551616 : Nat) : Int) - 0) % 18446744073709551616 = (((A - B) % 18446744073709551616 : Nat) : Int) := by omega
      rw [e1]
    · rw [if_pos ⟨by omega, by omega, by omega, by omega, by omega⟩]
      have e1 : (((A / 18446744073709551616 : Nat) : Int) + 18446744073709551616 - ((B / 18446744073709551616 : Nat) : Int) - 0) % 18446744073709551616 = (((A - B) / 18446744073709551616 : Nat) : Int) := by omega
      rw [e1]

def wdN (neg:Bool)(A:Nat):fC:=fC.mk neg ((A / 18446744073709551616:Nat):Int) ((A % 18446744073709551616:Nat):Int)
def sg (neg:Bool)(A:Nat):Int:=if neg=true then -(A:Int) else A
theorem aDf {a:Int}{b:Nat}(ha:a.natAbs<9223372036854775808)(hb:b<9223372036854775808):Fan a (b:Int)=some (wdN (decide (a<0)) (a.natAbs * b)):=by
  unfold Fan wdN
  simp only [yF]
  have e:gQ (decide (a<0)) (some (IntKind.i64.wrap (-a))) (some a)=some ((a.natAbs:Nat):Int):=by
    by_cases c:a<0
    · rw [decide_eq_true c,yY,wrap_neg c ha]
    · rw [decide_eq_false c,xE]; congr 1; omega
  rw [e,zN,qM (by omega),qM (by omega),mulG _ _ (by omega) (by omega),zN]
where
  wrap_neg {a:Int} (c:a<0) (ha:a.natAbs<9223372036854775808):IntKind.i64.wrap (-a)=((a.natAbs:Nat):Int):=by
    rw [Go.OB.wrap_i64 (by omega) (by omega)]; omega
theorem above7 (p q : Bool) (A B : Nat) : Fao (wdN p A) (wdN q B) = some (decide (B < A)) := by
  unfold Fao wdN
  simp only [yF]
  by_cases c1 : B / 18446744073709551616 < A / 18446744073709551616
  · rw [decide_eq_true (by omega), yY, zN, decide_eq_true (show B < A by omega)]
  · rw [decide_eq_false (by omega), xE]
    by_cases c2 : A / 18446744073709551616 = B / 18446744073709551616
    · rw [decide_eq_true (by omega), yY]
      by_cases c3 : B % 18446744073709551616 < A % 18446744073709551616
      · rw [decide_eq_true (by omega), zN, decide_eq_true (show B < A by omega)]
      · rw [decide_eq_false (by omega), zN, decide_eq_false (show ¬ B < A by omega)]
    · rw [decide_eq_false (by omega), xE, zN, decide_eq_false (show ¬ B < A by omega)]
theorem less7 {na nb : Bool} {A B : Nat} (hA : A / 18446744073709551616 ≤ 1000000) (hB : B / 18446744073709551616 ≤ 1000000) : ∃ n, Fbg (wdN na A) (wdN nb B) = some (wdN n (sg na A - sg nb B).natAbs) := by
  unfold Fbg
  simp only [yF]
  by_cases c : na = !nb
  · obtain ⟨h1, x, h2⟩ := add_wide hA hB
    refine ⟨na, ?_⟩
    have e : ((wdN na A).neg == !(wdN nb B).neg) = true := by show (na == !nb) = true; rw [c]; cases nb <;> rfl
    rw [e, yY]
    show gG (Fad ((A % 18446744073709551616 : Nat) : Int) ((B % 18446744073709551616 : Nat) : Int) 0) _ = _
    rw [h1, zN]
    show gG (Fad ((A / 18446744073709551616 : Nat) : Int) ((B / 18446744073709551616 : Nat) : Int) _) _ = _
    rw [h2, zN]
    have e2 : (sg na A - sg nb B).natAbs = A + B := by subst c; cases nb <;> simp [sg] <;> omega
    rw [e2]; rfl
  · have e : ((wdN na A).neg == !(wdN nb B).neg) = false := by show (na == !nb) = false; cases na <;> cases nb <;> simp_all
    have c' : na = nb := by cases na <;> cases nb <;> simp_all
    subst c'
    rw [e, xE]
    show ∃ n, gG (gG (Fao (wdN (!na) B) (wdN na A)) _) _ = _
    rw [above7, zN]
    by_cases c4 : A < B
    · obtain ⟨b, x, h1, h2⟩ := aBb (Nat.le_of_lt c4) hB
      refine ⟨!na, ?_⟩
      rw [decide_eq_true c4, yY, zN]
      show gG (Fab ((B % 18446744073709551616 : Nat) : Int) ((A % 18446744073709551616 : Nat) : Int) 0) _ = _
      rw [h1, zN]
      show gG (Fab ((B / 18446744073709551616 : Nat) : Int) ((A / 18446744073709551616 : Nat) : Int) b) _ = _
      rw [h2, zN]
      have e2 : (sg na A - sg na B).natAbs = B - A := by cases na <;> simp [sg] <;> omega
      rw [e2]; rfl
    · obtain ⟨b, x, h1, h2⟩ := aBb (Nat.le_of_not_lt c4) hA
      refine ⟨na, ?_⟩
      rw [decide_eq_false c4, xE, zN]
      show gG (Fab ((A % 18446744073709551616 : Nat) : Int) ((B % 18446744073709551616 : Nat) : Int) 0) _ = _
      rw [h1, zN]
      show gG (Fab ((A / 18446744073709551616 : Nat) : Int) ((B / 18446744073709551616 : Nat) : Int) b) _ = _
      rw [h2, zN]
      have e2 : (sg na A - sg na B).natAbs = A - B := by cases na <;> simp [sg] <;> omega
      rw [e2]; rfl
theorem sg_nat (a : Int) (m : Nat) : sg (decide (a < 0)) (a.natAbs * m) = a * (m : Int) := by
  unfold sg
  by_cases c : a < 0
  · rw [if_pos (by simpa using c)]
    obtain ⟨k, rfl⟩ : ∃ k : Nat, a = -(k : Int) := ⟨a.natAbs, by omega⟩
    rw [Int.natAbs_neg, Int.natAbs_natCast, Int.natCast_mul, Int.neg_mul]
  · rw [if_neg (by simpa using c)]
    obtain ⟨k, rfl⟩ : ∃ k : Nat, a = (k : Int) := ⟨a.natAbs, by omega⟩
    rw [Int.natAbs_natCast, Int.natCast_mul]
theorem mul_bd {a b A B:Nat}(h1:a≤A)(h2:b≤B):a * b≤A * B:=Nat.mul_le_mul h1 h2
theorem differ_eq {n d m e most:Int}(hn: -1125899906842624≤n∧n≤1125899906842624)(hm: -1125899906842624≤m∧m≤1125899906842624)(hd:1≤d∧d≤1000000)(he:1≤e∧e≤1000000)(hk:0≤most∧most≤1125899906842624):
    Fai n d m e most=some (decide (most * e<n * e - m * d∨most * e<m * d - n * e)):=by
  obtain ⟨d,rfl⟩: ∃k:Nat,d=k:=⟨d.toNat,by omega⟩
  obtain ⟨e,rfl⟩: ∃k:Nat,e=k:=⟨e.toNat,by omega⟩
  have b1:n.natAbs * e≤1125899906842624 * 1000000:=mul_bd (by omega) (by omega)
  have b2:m.natAbs * d≤1125899906842624 * 1000000:=mul_bd (by omega) (by omega)
  obtain ⟨q,h⟩:=less7 (na:=decide (n<0)) (nb:=decide (m<0)) (A:=n.natAbs * e) (B:=m.natAbs * d) (by omega) (by omega)
  unfold Fai
  rw [aDf (by omega) (by omega),zN,aDf (by omega) (by omega),zN,h,zN,aDf (by omega) (by omega),zN,above7,zN,sg_nat,sg_nat]
  have e3:((most.natAbs * e:Nat):Int)=most * (e:Int):=by rw [Int.natCast_mul]; congr 1; omega
  generalize n * (e:Int)=X at *
  generalize m * (d:Int)=Y at *
  generalize most.natAbs * e=Z at *
  rw [← e3]
  congr 1
  apply decide_eq_decide.2
  omega
theorem clash_num {n d m e most : Int} (hn : -1125899906842624 ≤ n ∧ n ≤ 1125899906842624) (hm : -1125899906842624 ≤ m ∧ m ≤ 1125899906842624) (hd : 1 ≤ d ∧ d ≤ 1000000) (he : 1 ≤ e ∧ e ≤ 1000000) (hk : 0 ≤ most ∧ most ≤ 1125899906842624) :
    (gJ (IntKind.i64.wrap (n + most)) fun x89 => gG (Fac m e x89 d) fun x92 => gJ (decide (0 < x92)) fun x96 => gJ (IntKind.i64.wrap (n - most)) fun x99 => gG (Fac m e x99 d) fun x102 => gJ (decide (x102 < 0)) fun x106 => gG (gQ x96 (some true) (some x106)) fun g109 => some g109) = some (decide (most * e < n * e - m * d ∨ most * e < m * d - n * e)) := by
  obtain ⟨r1, h1, h2, -⟩ := aEk (a := m) (b := e) (c := n + most) (d := d) (by omega) (by omega) he hd
  obtain ⟨r2, h3, -, h4⟩ := aEk (a := m) (b := e) (c := n - most) (d := d) (by omega) (by omega) he hd
  simp only [yF]
  rw [Go.OB.wrap_i64 (n := n + most) (by omega) (by omega), Go.OB.wrap_i64 (n := n - most) (by omega) (by omega), h1, zN, h3, zN]
  rw [Int.add_mul] at h2
  rw [Int.sub_mul] at h4
  generalize n * e = X at *
  generalize m * d = Y at *
  generalize most * e = Z at *
  by_cases c1 : 0 < r1
  · rw [decide_eq_true c1, yY, zN, decide_eq_true (by have := h2.1 c1; omega)]
  · rw [decide_eq_false c1, xE, zN]
    congr 1
    apply decide_eq_decide.2
    constructor
    · intro c; have := h4.1 c; omega
    · rintro (c | c)
      · exact h4.2 (by omega)
      · exact absurd (h2.2 (by omega)) c1
end Go.Lf
