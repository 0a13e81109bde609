/- Numbers of 128 bits: comparisons of fractions. -/
import Derived.Test.YtgmikmoapfmedaaGreatDoorFi1
import Derived.Test.YtgmikmoapfmedaaGreatDoorObA
import Derived.Lib.Mul64
import Derived.Laws.Bits64b
namespace Go.Lf
open Go.OB Go.RowKit in
theorem uV {a:Nat} (h:a<18446744073709551616):bits .and .u64 (a:Int) 4294967295=((a % 4294967296:Nat):Int):=by
  have e:(4294967295:Int)=2 ^ 32 - 1:=by decide
  have q:=bits_mask .u64 64 (by decide) wrapn_u64 32 (by decide) (a:Int) (by omega) (by omega)
  rw [e,q]
  have:(2:Int) ^ 32=4294967296:=by decide
  rw [this,Int.natCast_emod]; rfl
theorem qL {a:Nat}:pV .u64 (a:Int) 32=some ((a / 4294967296:Nat):Int):=by
  unfold pV
  rw [if_pos (by decide)]
  have:(2:Int) ^ (32:Int).toNat=4294967296:=by decide
  rw [this,Int.natCast_ediv]; rfl
theorem w64 {a:Int}(h0:0≤a)(h:a<18446744073709551616):IntKind.u64.wrap a=a:=by rw [IntKind.wrap_u64]; omega
theorem qM {a:Nat}(h:a<18446744073709551616):IntKind.u64.wrap (a:Int)=(a:Int):=w64 (by omega) (by omega)
theorem mulG (a b:Nat)(ha:a<18446744073709551616)(hb:b<18446744073709551616):Faq (a:Int) (b:Int)=some (((a * b / 18446744073709551616:Nat):Int),((a * b % 18446744073709551616:Nat):Int)):=by
  obtain ⟨bd,bt,bw,hhi⟩:=Lib.mul64_hi a b ha hb
  have he:=Lib.half_mul_le (a:=a / 4294967296) (b:=b / 4294967296) (by omega) (by omega)
  have hb':=Lib.half_mul_le (a:=a / 4294967296) (b:=b % 4294967296) (by omega) (by omega)
  have hc:=Lib.half_mul_le (a:=a % 4294967296) (b:=b / 4294967296) (by omega) (by omega)
  have e0:(a:Int) * (b:Int)=((a * b:Nat):Int):=by rw [Int.natCast_mul]
  have e1:((a % 4294967296:Nat):Int) * ((b % 4294967296:Nat):Int)=(((a % 4294967296) * (b % 4294967296):Nat):Int):=by rw [Int.natCast_mul]
  have e2:((a / 4294967296:Nat):Int) * ((b % 4294967296:Nat):Int)=(((a / 4294967296) * (b % 4294967296):Nat):Int):=by rw [Int.natCast_mul]
  have e3:((a % 4294967296:Nat):Int) * ((b / 4294967296:Nat):Int)=(((a % 4294967296) * (b / 4294967296):Nat):Int):=by rw [Int.natCast_mul]
  have e4:((a / 4294967296:Nat):Int) * ((b / 4294967296:Nat):Int)=(((a / 4294967296) * (b / 4294967296):Nat):Int):=by rw [Int.natCast_mul]
  have e5:IntKind.u64.wrap ((a * b:Nat):Int)=((a * b % 18446744073709551616:Nat):Int):=by rw [IntKind.wrap_u64]; omega
  unfold Faq
  simp only [yF]
  rw [uV ha,qL,zN,uV hb,qL,zN,e0,e1,e2,e3,e4,e5]
  generalize (a / 4294967296) * (b / 4294967296)=e at *
  generalize (a / 4294967296) * (b % 4294967296)=p at *
  generalize (a % 4294967296) * (b / 4294967296)=c at *
  generalize (a % 4294967296) * (b % 4294967296)=d at *
  rw [qM (a:=d) (by omega),qM (a:=p) (by omega),qM (a:=c) (by omega),qM (a:=e) (by omega),qL,zN]
  have f1:(p:Int)+((d / 4294967296:Nat):Int)=((p+d / 4294967296:Nat):Int):=by omega
  rw [f1]
  generalize p+d / 4294967296=t at *
  rw [qM (a:=t) (by omega),uV (by omega),qL,zN]
  have f2:((t % 4294967296:Nat):Int)+(c:Int)=((t % 4294967296+c:Nat):Int):=by omega
  rw [f2]
  generalize t % 4294967296+c=v at *
  rw [qM (a:=v) (by omega),qL,zN]
  have f3:(e:Int)+((t / 4294967296:Nat):Int)=((e+t / 4294967296:Nat):Int):=by omega
  rw [f3,qM (a:=e+t / 4294967296) (by omega)]
  have f4:((e+t / 4294967296:Nat):Int)+((v / 4294967296:Nat):Int)=((a * b / 18446744073709551616:Nat):Int):=by omega
  have f5:a * b / 18446744073709551616<18446744073709551616:=by omega
  rw [f4,qM f5]

theorem kT (n:Int):Faa n=some (if n<0 then -1 else if 0<n then 1 else 0):=by
  unfold Faa
  simp only [yF,jF]
  split
  · rfl
  · split<;>rfl
def cmpR (s:Int)(m n:Nat):Int:=if m<n then -s else if m=n then 0 else s
theorem cmp_core {a b c d s : Int} {x y u v : Nat} (hs : s = 1 ∨ s = -1 ∨ s = 0) (ea : a * s = x) (ec : c * s = y) (eb : b = u) (ed : d = v) (sa : Faa a = some s) (sc : Faa c = some s) (hx : x < 9223372036854775808) (hy : y < 9223372036854775808) (hu : u < 9223372036854775808) (hv : v < 9223372036854775808) :
    Fau a b c d = some (cmpR s (x * v) (y * u)) := by
  subst eb ed
  unfold Fau cmpR
  rw [sa, sc]
  simp only [zN, yF]
  rw [decide_eq_false (by simp), xE, ea, ec, Go.OB.wrap_i64 (n := (x : Int)) (by omega) (by omega), Go.OB.wrap_i64 (n := (y : Int)) (by omega) (by omega), qM (by omega), qM (by omega), qM (by omega), qM (by omega), mulG x v (by omega) (by omega), zN]
  dsimp only
  rw [mulG y u (by omega) (by omega), zN]
  dsimp only
  generalize x * v = m
  generalize y * u = n
  have hw : IntKind.i64.wrap (-s) = -s := Go.OB.wrap_i64 (by omega) (by omega)
  by_cases c1 : m / 18446744073709551616 < n / 18446744073709551616
  · rw [decide_eq_true (by omega : ((m / 18446744073709551616 : Nat) : Int) < ((n / 18446744073709551616 : Nat) : Int)), yY, zN, yY, hw, if_pos (by omega)]
  · rw [decide_eq_false (by omega : ¬ ((m / 18446744073709551616 : Nat) : Int) < ((n / 18446744073709551616 : Nat) : Int)), xE]
    by_cases c2 : m / 18446744073709551616 = n / 18446744073709551616
    · rw [decide_eq_true (by omega : ((m / 18446744073709551616 : Nat) : Int) = ((n / 18446744073709551616 : Nat) : Int)), yY, yY]
      by_cases c3 : m % 18446744073709551616 < n % 18446744073709551616
      · rw [decide_eq_true (by omega : ((m % 18446744073709551616 : Nat) : Int) < ((n % 18446744073709551616 : Nat) : Int)), zN, yY, hw, if_pos (by omega)]
      · rw [decide_eq_false (by omega : ¬ ((m % 18446744073709551616 : Nat) : Int) < ((n % 18446744073709551616 : Nat) : Int)), zN, xE, if_neg (by omega)]
        by_cases c4 : m % 18446744073709551616 = n % 18446744073709551616
        · rw [decide_eq_true (by omega : ((m % 18446744073709551616 : Nat) : Int) = ((n % 18446744073709551616 : Nat) : Int)), zN, yY, if_pos (by omega)]
        · rw [decide_eq_false (by omega : ¬ ((m % 18446744073709551616 : Nat) : Int) = ((n % 18446744073709551616 : Nat) : Int)), zN, xE, if_neg (by omega)]
    · rw [decide_eq_false (by omega : ¬ ((m / 18446744073709551616 : Nat) : Int) = ((n / 18446744073709551616 : Nat) : Int)), xE, zN, xE, xE, zN, xE, if_neg (by omega), if_neg (by omega)]
theorem aEk {a b c d : Int} (ha : -9007199254740992 ≤ a ∧ a ≤ 9007199254740992) (hc : -9007199254740992 ≤ c ∧ c ≤ 9007199254740992) (hb : 1 ≤ b ∧ b ≤ 1000000) (hd : 1 ≤ d ∧ d ≤ 1000000) :
    ∃ r, Fac a b c d = some r ∧ (0 < r ↔ c * b < a * d) ∧ (r < 0 ↔ a * d < c * b) := by
  obtain ⟨u, rfl⟩ : ∃ u : Nat, b = u := ⟨b.toNat, by omega⟩
  obtain ⟨v, rfl⟩ : ∃ v : Nat, d = v := ⟨d.toNat, by omega⟩
  have up : (0 : Int) < (u : Int) := by omega
  have vp : (0 : Int) < (v : Int) := by omega
  have go : ∀ {s : Int} {x y : Nat}, (s = 1 ∨ s = -1 ∨ s = 0) → a * s = x → c * s = y → a = s * x → c = s * y → Faa a = some s → Faa c = some s → ∃ r, Fac a u c v = some r ∧ (0 < r ↔ c * u < a * v) ∧ (r < 0 ↔ a * v < c * u) := by
    intro s x y hs e1 e2 e3 e4 sa sc
    have h := cmp_core (b := (u : Int)) (d := (v : Int)) (u := u) (v := v) hs e1 e2 rfl rfl sa sc (by rcases hs with rfl | rfl | rfl <;> omega) (by rcases hs with rfl | rfl | rfl <;> omega) (by omega) (by omega)
    refine ⟨_, by unfold Fac; rw [h]; rfl, ?_⟩
    have q1 : a * (v : Int) = s * ((x * v : Nat) : Int) := by rw [e3, Int.mul_assoc, Int.natCast_mul]
    have q2 : c * (u : Int) = s * ((y * u : Nat) : Int) := by rw [e4, Int.mul_assoc, Int.natCast_mul]
    rw [q1, q2]
    generalize x * v = m at *
    generalize y * u = n at *
    unfold cmpR
    rcases hs with rfl | rfl | rfl
    · split
      · omega
      · split <;> omega
    · split
      · omega
      · split <;> omega
    · split
      · omega
      · split <;> omega
  have A1 : a < 0 → a * (v : Int) < 0 := fun h => Int.mul_neg_of_neg_of_pos h vp
  have A2 : 0 < a → 0 < a * (v : Int) := fun h => Int.mul_pos h vp
  have A3 : a = 0 → a * (v : Int) = 0 := fun h => by rw [h, Int.zero_mul]
  have C1 : c < 0 → c * (u : Int) < 0 := fun h => Int.mul_neg_of_neg_of_pos h up
  have C2 : 0 < c → 0 < c * (u : Int) := fun h => Int.mul_pos h up
  have C3 : c = 0 → c * (u : Int) = 0 := fun h => by rw [h, Int.zero_mul]
  by_cases e : (if a < 0 then (-1 : Int) else if 0 < a then 1 else 0) = if c < 0 then -1 else if 0 < c then 1 else 0
  · by_cases c1 : a < 0
    · have c2 : c < 0 := by
        rw [if_pos c1] at e
        split at e
        · assumption
        · split at e <;> omega
      exact go (s := -1) (x := a.natAbs) (y := c.natAbs) (by omega) (by omega) (by omega) (by omega) (by omega) (by rw [kT, if_pos c1]) (by rw [kT, if_pos c2])
    · rw [if_neg c1] at e
      by_cases c2 : 0 < a
      · rw [if_pos c2] at e
        have c3 : 0 < c := by
          split at e
          · omega
          · split at e <;> omega
        exact go (s := 1) (x := a.natAbs) (y := c.natAbs) (by omega) (by omega) (by omega) (by omega) (by omega) (by rw [kT, if_neg c1, if_pos c2]) (by rw [kT, if_neg (by omega), if_pos c3])
      · rw [if_neg c2] at e
        have c3 : c = 0 := by
          split at e
          · omega
          · split at e <;> omega
        obtain rfl : a = 0 := by omega
        subst c3
        exact go (s := 0) (x := 0) (y := 0) (by omega) (by omega) (by omega) (by omega) (by omega) rfl rfl
  · unfold Fac Fau
    rw [kT a, kT c]
    simp only [zN, yF]
    rw [decide_eq_true e, yY]
    generalize a * (v : Int) = X at *
    generalize c * (u : Int) = Y at *
    rw [kT]
    simp only [zN]
    refine ⟨_, rfl, ?_⟩
    by_cases a1 : a < 0 <;> by_cases a2 : 0 < a <;> by_cases b1 : c < 0 <;> by_cases b2 : 0 < c <;> simp only [a1, a2, b1, b2, if_true, if_false] at e ⊢ <;> first | (exfalso; omega) | skip
    all_goals first | exact absurd trivial e | (rw [Go.OB.wrap_i64 (by omega) (by omega)]; simp; omega)
end Go.Lf
