/- The check of a frame, reckoned in two ways: plain law. -/
import Derived.Test.YtafgmocdnjdmoaaDoorFrC
namespace Go.Fr1
/-- One step with a zero bit. -/
def zst (n : Nat) : Nat := (n * 2 % 4194304) ^^^ (if 2097152 ≤ n then 2097167 else 0)
theorem two_xor (x y : Nat) : (x ^^^ y) * 2 = (x * 2) ^^^ (y * 2) := by
  have h := Nat.shiftLeft_xor_distrib (a := x) (b := y) (i := 1)
  simpa [Nat.shiftLeft_eq] using h
theorem top_eq {n : Nat} (h : n < 4194304) : n * 2 % 4194304 = n % 2097152 * 2 := by omega
theorem zst_lt {n : Nat} : zst n < 4194304 := by
  unfold zst
  refine Nat.xor_lt_two_pow (n := 22) (Nat.mod_lt _ (by decide)) ?_
  split <;> decide
theorem zst_xor {x y : Nat} (hx : x < 4194304) (hy : y < 4194304) : zst (x ^^^ y) = zst x ^^^ zst y := by
  have hxy : x ^^^ y < 4194304 := Nat.xor_lt_two_pow (n := 22) hx hy
  have h1 : (x ^^^ y) % 2097152 = x % 2097152 ^^^ y % 2097152 := Nat.xor_mod_two_pow (n := 21)
  have h2 : (x ^^^ y) / 2097152 = x / 2097152 ^^^ y / 2097152 := Nat.xor_div_two_pow (n := 21)
  unfold zst
  rw [top_eq hx, top_eq hy, top_eq hxy, h1, two_xor]
  generalize x % 2097152 * 2 = p
  generalize y % 2097152 * 2 = q
  have ex : x / 2097152 = 0 ∨ x / 2097152 = 1 := by omega
  have ey : y / 2097152 = 0 ∨ y / 2097152 = 1 := by omega
  have ac : ∀ a b c d : Nat, (a ^^^ b) ^^^ (c ^^^ d) = (a ^^^ c) ^^^ (b ^^^ d) := by
    intro a b c d
    rw [Nat.xor_assoc, Nat.xor_assoc, ← Nat.xor_assoc b, Nat.xor_comm b c, Nat.xor_assoc c]
  rcases ex with ex | ex <;> rcases ey with ey | ey <;> rw [ex, ey] at h2
  · rw [if_neg (by simp at h2; omega), if_neg (by omega), if_neg (by omega), Nat.xor_zero, Nat.xor_zero, Nat.xor_zero]
  · rw [if_pos (by simp at h2; omega), if_neg (by omega), if_pos (by omega), Nat.xor_zero, Nat.xor_assoc]
  · rw [if_pos (by simp at h2; omega), if_pos (by omega), if_neg (by omega), Nat.xor_zero, Nat.xor_assoc, Nat.xor_assoc, Nat.xor_comm q]
  · rw [if_neg (by simp at h2; omega), if_pos (by omega), if_pos (by omega), Nat.xor_zero, ac, Nat.xor_self, Nat.xor_zero]
def zs : Nat → Nat → Nat
  | 0, n => n
  | k + 1, n => zst (zs k n)
theorem zs_lt {n : Nat} (h : n < 4194304) : ∀ k, zs k n < 4194304
  | 0 => h
  | _ + 1 => zst_lt
theorem zs_xor {x y : Nat} (hx : x < 4194304) (hy : y < 4194304) : ∀ k, zs k (x ^^^ y) = zs k x ^^^ zs k y
  | 0 => rfl
  | k + 1 => by unfold zs; rw [zs_xor hx hy k, zst_xor (zs_lt hx k) (zs_lt hy k)]
theorem zs_succ (n : Nat) : ∀ k, zs k (zst n) = zst (zs k n)
  | 0 => rfl
  | k + 1 => by unfold zs; rw [zs_succ n k]
theorem zs_one : zs 22 1 = 2097167 := by decide +kernel
theorem zs_zero : ∀ k, zs k 0 = 0
  | 0 => rfl
  | k + 1 => by unfold zs; rw [zs_zero k]; rfl
/-- One step of the reference. -/
def refStep (n b : Nat) : Nat := if 4194304 ≤ n * 2 + b then (n * 2 + b) ^^^ 6291471 else n * 2 + b
theorem add_bit {n b : Nat} (hb : b < 2) : n * 2 + b = (n * 2) ^^^ b := by
  have : b = 0 ∨ b = 1 := by omega
  rcases this with rfl | rfl
  · simp
  · apply Nat.eq_of_testBit_eq
    intro i
    rcases i with _ | i
    · simp [Nat.testBit_zero, Nat.xor_mod_two_eq_one]
    · rw [Nat.testBit_xor]
      simp only [Nat.testBit_succ]
      rw [show (n * 2 + 1) / 2 = n by omega, show n * 2 / 2 = n by omega]
      simp
theorem refStep_eq {n b : Nat} (hn : n < 4194304) (hb : b < 2) : refStep n b = zst n ^^^ b := by
  have h1 : n * 2 + b < 8388608 := by omega
  unfold refStep zst
  by_cases h : 2097152 ≤ n
  · rw [if_pos (by omega), if_pos h, add_bit hb, show n * 2 % 4194304 = n * 2 - 4194304 by omega]
    have e : n * 2 = (n * 2 - 4194304) ^^^ 4194304 := by
      have h2 : (n * 2 - 4194304) < 2 ^ 22 := by omega
      have h3 : n * 2 = 2 ^ 22 * 1 + (n * 2 - 4194304) := by omega
      rw [Nat.xor_comm]
      have h4 := Nat.two_pow_add_eq_or_of_lt h2 1
      have h5 : (2 ^ 22 * 1) &&& (n * 2 - 4194304) = 0 := by
        apply Nat.eq_of_testBit_eq
        intro i
        rw [Nat.testBit_and, Nat.mul_one, Nat.testBit_two_pow]
        by_cases hi : 22 = i
        · subst hi; simp [Nat.testBit_lt_two_pow h2]
        · simp [hi]
      have h6 : (2 ^ 22 * 1) ||| (n * 2 - 4194304) = (2 ^ 22 * 1) ^^^ (n * 2 - 4194304) := by
        apply Nat.eq_of_testBit_eq
        intro i
        have := congrArg (fun q => q.testBit i) h5
        simp only [Nat.testBit_and, Nat.zero_testBit] at this
        rw [Nat.testBit_or, Nat.testBit_xor]
        revert this
        generalize (2 ^ 22 * 1).testBit i = p
        generalize (n * 2 - 4194304).testBit i = q
        cases p <;> cases q <;> decide
      rw [h6] at h4
      have h7 : 4194304 ^^^ (n * 2 - 4194304) = 4194304 + (n * 2 - 4194304) := h4.symm
      omega
    have e2 : (6291471 : Nat) = 4194304 ^^^ 2097167 := by decide
    rw [e2]
    generalize hm : n * 2 - 4194304 = m at e ⊢
    rw [e]
    rw [Nat.xor_assoc m, Nat.xor_comm 4194304 b, ← Nat.xor_assoc m, Nat.xor_assoc (m ^^^ b), ← Nat.xor_assoc 4194304, Nat.xor_self, Nat.zero_xor, Nat.xor_assoc, Nat.xor_comm b, ← Nat.xor_assoc]
  · rw [if_neg (by omega), if_neg h, add_bit hb, Nat.xor_zero, show n * 2 % 4194304 = n * 2 by omega]
theorem refStep_lt {n b : Nat} (hn : n < 4194304) (hb : b < 2) : refStep n b < 4194304 := by
  rw [refStep_eq hn hb]; exact Nat.xor_lt_two_pow (n := 22) zst_lt (by omega)
theorem bitStep_eq2 {n b : Nat} (hn : n < 4194304) (hb : b < 2) : bitStep n b = zst n ^^^ (if b = 1 then 2097167 else 0) := by
  unfold bitStep zst
  have : b = 0 ∨ b = 1 := by omega
  by_cases h : 2097152 ≤ n <;> rcases this with rfl | rfl <;> simp [h, Nat.xor_assoc]
/-- 22 zero bits behind: the one register against the other. -/
theorem step_22 {r b : Nat} (hr : r < 4194304) (hb : b < 2) : zs 22 (refStep r b) = bitStep (zs 22 r) b := by
  rw [refStep_eq hr hb, zs_xor zst_lt (by omega), zs_succ, bitStep_eq2 (zs_lt hr 22) hb]
  have : b = 0 ∨ b = 1 := by omega
  rcases this with rfl | rfl
  · rw [zs_zero]; simp
  · rw [zs_one]; simp
def bitN (f : List Nat) (i : Nat) : Nat := if i < 744 then wd f (i / 12) / 2 ^ (11 - i % 12) % 2 else 0
def refTo (f : List Nat) : Nat → Nat
  | 0 => 0
  | i + 1 => refStep (refTo f i) (bitN f i)
theorem bitN_lt (f : List Nat) (i : Nat) : bitN f i < 2 := by unfold bitN; split <;> omega
theorem refTo_lt (f : List Nat) : ∀ i, refTo f i < 4194304
  | 0 => by show 0 < 4194304; decide
  | i + 1 => refStep_lt (refTo_lt f i) (bitN_lt f i)
theorem ref_word (f : List Nat) (k : Nat) (hk : k < 62) (h : zs 22 (refTo f (12 * k)) = crcTo f k) : ∀ j, j ≤ 12 → zs 22 (refTo f (12 * k + j)) = crcBits (crcTo f k) (wd f k) j
  | 0, _ => h
  | j + 1, hj => by
    have ih := ref_word f k hk h j (by omega)
    show zs 22 (refStep (refTo f (12 * k + j)) (bitN f (12 * k + j))) = bitStep (crcBits (crcTo f k) (wd f k) j) (wd f k / 2 ^ (11 - j) % 2)
    rw [step_22 (refTo_lt f _) (bitN_lt f _), ih]
    congr 1
    unfold bitN
    rw [if_pos (by omega), show (12 * k + j) / 12 = k by omega, show (12 * k + j) % 12 = j by omega]
theorem ref_crc (f : List Nat) : ∀ k, k ≤ 62 → zs 22 (refTo f (12 * k)) = crcTo f k
  | 0, _ => zs_zero 22
  | k + 1, hk => ref_word f k (by omega) (ref_crc f k (by omega)) 12 (Nat.le_refl _)
theorem ref_tail (f : List Nat) : ∀ j, refTo f (744 + j) = zs j (refTo f 744)
  | 0 => rfl
  | j + 1 => by
    have ih := ref_tail f j
    show refStep (refTo f (744 + j)) (bitN f (744 + j)) = zst (zs j (refTo f 744))
    have hb : bitN f (744 + j) = 0 := by unfold bitN; rw [if_neg (by omega)]
    rw [hb, refStep_eq (refTo_lt f _) (by decide), Nat.xor_zero, ih]
theorem ref_check {f : List Nat} {k : Nat} (hk : k = 766) : refTo f k = checkN f := by
  subst hk
  rw [show 766 = 744 + 22 from rfl, ref_tail f 22, show 744 = 12 * 62 from rfl, ref_crc f 62 (Nat.le_refl _)]
  rfl
end Go.Fr1
