/- Numbers' bits: masks, joins, exclusive or; the number of ones. -/
import Derived.Test.YtbjhondbheijiaaGreatOps2
namespace Go.OB
open Go.RowKit

theorem wrapn_i64 (n : Int) (h : 0 ≤ n) (h' : n < 2 ^ 62) : IntKind.i64.wrap n = n := wrap_i64 (by omega) (by omega)
theorem wrapn_u16 (n : Int) (h : 0 ≤ n) (h' : n < 2 ^ 16) : IntKind.u16.wrap n = n := wrap_u16 (by omega) (by omega)
theorem wrapn_u8 (n : Int) (h : 0 ≤ n) (h' : n < 2 ^ 8) : IntKind.u8.wrap n = n := wrap_u8 (by omega) (by omega)
theorem wrapn_u64 (n : Int) (h : 0 ≤ n) (h' : n < 2 ^ 64) : IntKind.u64.wrap n = n := wrap_u64 (by omega) (by omega)

theorem mask_i64 {a m c : Int} (i : Nat) (hi : i ≤ 62) (hm : (2 : Int) ^ i = m) (h0 : 0 ≤ a) (h1 : a < 4611686018427387904) (hc : c + 1 = m := by rfl) : bits .and .i64 a c = a % m := by
  have : c = 2 ^ i - 1 := by omega
  rw [this, ← hm]; exact bits_mask .i64 62 (by decide) wrapn_i64 i hi a h0 (by simpa using h1)
theorem mask_u16 {a m c : Int} (i : Nat) (hi : i ≤ 16) (hm : (2 : Int) ^ i = m) (h0 : 0 ≤ a) (h1 : a < 65536) (hc : c + 1 = m := by rfl) : bits .and .u16 a c = a % m := by
  have : c = 2 ^ i - 1 := by omega
  rw [this, ← hm]; exact bits_mask .u16 16 (by decide) wrapn_u16 i hi a h0 (by simpa using h1)
theorem mask_u8 {a m c : Int} (i : Nat) (hi : i ≤ 8) (hm : (2 : Int) ^ i = m) (h0 : 0 ≤ a) (h1 : a < 256) (hc : c + 1 = m := by rfl) : bits .and .u8 a c = a % m := by
  have : c = 2 ^ i - 1 := by omega
  rw [this, ← hm]; exact bits_mask .u8 8 (by decide) wrapn_u8 i hi a h0 (by simpa using h1)
theorem join_i64 {a b m : Int} (i : Nat) (hm : (2 : Int) ^ i = m) (h0 : 0 ≤ a) (h1 : a < 4611686018427387904) (hd : a % m = 0) (h2 : 0 ≤ b) (h3 : b < m) (h4 : b < 4611686018427387904) : bits .or .i64 a b = a + b := by
  subst hm; exact bits_join .i64 62 (by decide) wrapn_i64 i a b h0 hd (by simpa using h1) h2 h3 (by simpa using h4)
theorem join_u16 {a b m : Int} (i : Nat) (hm : (2 : Int) ^ i = m) (h0 : 0 ≤ a) (h1 : a < 65536) (hd : a % m = 0) (h2 : 0 ≤ b) (h3 : b < m) (h4 : b < 65536) : bits .or .u16 a b = a + b := by
  subst hm; exact bits_join .u16 16 (by decide) wrapn_u16 i a b h0 hd (by simpa using h1) h2 h3 (by simpa using h4)
theorem join_u8 {a b m : Int} (i : Nat) (hm : (2 : Int) ^ i = m) (h0 : 0 ≤ a) (h1 : a < 256) (hd : a % m = 0) (h2 : 0 ≤ b) (h3 : b < m) (h4 : b < 256) : bits .or .u8 a b = a + b := by
  subst hm; exact bits_join .u8 8 (by decide) wrapn_u8 i a b h0 hd (by simpa using h1) h2 h3 (by simpa using h4)
theorem or_comm {k : IntKind} {a b : Int} : bits .or k a b = bits .or k b a := by unfold bits; simp [BitVec.or_comm]

/-- The exclusive or of two numbers that are not negative. -/
theorem xor_nat (k : IntKind) (j : Nat) (hj : j ≤ k.bits) (hk : ∀ n : Int, 0 ≤ n → n < 2 ^ j → k.wrap n = n) (a b : Nat) (ha : a < 2 ^ j) (hb : b < 2 ^ j) :
    bits .xor k a b = ((a ^^^ b : Nat) : Int) := by
  have hp : 2 ^ j ≤ 2 ^ k.bits := Nat.pow_le_pow_right (by decide) hj
  have ha' : a % 2 ^ k.bits = a := Nat.mod_eq_of_lt (Nat.lt_of_lt_of_le ha hp)
  have hb' : b % 2 ^ k.bits = b := Nat.mod_eq_of_lt (Nat.lt_of_lt_of_le hb hp)
  have cast : ∀ n : Nat, n < 2 ^ j → ((n : Nat) : Int) < 2 ^ j := fun n h => by exact_mod_cast h
  simp only [bits, BitVec.ofInt_natCast, BitVec.toNat_xor, BitVec.toNat_ofNat, ha', hb']
  exact hk _ (Int.natCast_nonneg _) (cast _ (Nat.xor_lt_two_pow ha hb))
theorem xor_i64 (a b : Nat) (ha : a < 4611686018427387904) (hb : b < 4611686018427387904) : bits .xor .i64 a b = ((a ^^^ b : Nat) : Int) :=
  xor_nat .i64 62 (by decide) wrapn_i64 a b (by simpa using ha) (by simpa using hb)
theorem xor_u16 (a b : Nat) (ha : a < 65536) (hb : b < 65536) : bits .xor .u16 a b = ((a ^^^ b : Nat) : Int) :=
  xor_nat .u16 16 (by decide) wrapn_u16 a b (by simpa using ha) (by simpa using hb)
theorem xor_u64 (a b : Nat) (ha : a < 18446744073709551616) (hb : b < 18446744073709551616) : bits .xor .u64 a b = ((a ^^^ b : Nat) : Int) :=
  xor_nat .u64 64 (by decide) wrapn_u64 a b (by simpa using ha) (by simpa using hb)

/-- A byte of a text. -/
theorem Do_index_str {P : Program} {ρ : Env} {w : World} {d : Option Tmp} {x y : Operand} {t ty : TypeId} {pos : String} {af : Array Edge} {g : Option (Nat × Bool)} {k : IntKind} {q : Int} {s : ByteArray} {u : UInt8} {c : Int}
    (hu : P.underlying t = some .string) (hx : ev ρ x = .string s) (hy : ev ρ y = .int k q) (h0 : 0 ≤ q) (hv : s[q.toNat]? = some u) (hc : (u.toNat : Int) = c) :
    Do P ⟨d, .index t x y, ty, pos, af, g⟩ ρ w (.int .u8 c) w := by
  unfold Do
  simp [execOp, Instr.index, hx, hy, asIntOf, run_underlying hu, h0, hv, hc]

theorem xor_i64' {x y : Int} (a b : Nat) (hx : x = a) (hy : y = b) (ha : a < 4611686018427387904) (hb : b < 4611686018427387904) : bits .xor .i64 x y = ((a ^^^ b : Nat) : Int) := by subst hx hy; exact xor_i64 a b ha hb
theorem xor_u16' {x y : Int} (a b : Nat) (hx : x = a) (hy : y = b) (ha : a < 65536) (hb : b < 65536) : bits .xor .u16 x y = ((a ^^^ b : Nat) : Int) := by subst hx hy; exact xor_u16 a b ha hb
/-- What an operation yields, told otherwise. -/
theorem Do_as {P : Program} {o : Oper} {ρ : Env} {w w' : World} {v v' : Value} (h : Do P o ρ w v w') (e : v = v') : Do P o ρ w v' w' := e ▸ h
theorem vint {k : IntKind} {a b : Int} (h : a = b) : Value.int k a = .int k b := by rw [h]
theorem vbool {p q : Prop} [Decidable p] [Decidable q] (h : p ↔ q) : Value.bool (decide p) = .bool (decide q) := by
  have : decide p = decide q := by rw [Bool.eq_iff_iff]; simpa using h
  rw [this]
/-- The highest bit of 22. -/
theorem and_top {n : Nat} (h : n < 4194304) : bits .and .i64 (n : Int) 2097152 = if 2097152 ≤ n then 2097152 else 0 := by
  have h1 := (bits_nat .i64 62 (by decide) wrapn_i64 n 2097152 (by omega) (by decide)).1
  have h2 : n &&& 2 ^ 21 = n / 2 ^ 21 % 2 * 2 ^ 21 := nat_bit 21 n
  simp only [Nat.reducePow] at h2
  rw [show ((2097152 : Int)) = ((2097152 : Nat) : Int) from rfl, h1, h2]
  split <;> omega
theorem shr_var {x q : Int} (n j : Nat) (hx : x = n) (hq : q.toNat = j) : Value.int .u16 (x / 2 ^ q.toNat) = .int .u16 ((n / 2 ^ j : Nat) : Int) := by
  subst hx; rw [hq]; congr 1
theorem shr_vari {x q : Int} (n j : Nat) (hx : x = n) (hq : q.toNat = j) : Value.int .i64 (x / 2 ^ q.toNat) = .int .i64 ((n / 2 ^ j : Nat) : Int) := by
  subst hx; rw [hq]; congr 1
/-- The high half of a byte. -/
theorem and_240 {n : Nat} (h : n < 256) : bits .and .u8 (n : Int) 240 = ((n / 16 * 16 : Nat) : Int) := by
  have h1 := (bits_nat .u8 8 (by decide) wrapn_u8 n 240 (by omega) (by decide)).1
  rw [show ((240 : Int)) = ((240 : Nat) : Int) from rfl, h1]
  congr 1
  revert n
  decide +kernel
end Go.OB
