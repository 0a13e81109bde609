/- The frame of the laws' common trial, reckoned. -/
import Derived.Test.YtafgmocdnjdmoaaDoorFpure
namespace Go.Fr1
def dat : List Int := 5 :: List.replicate 57 0
def FR : List Nat := [2631, 2, 1, 2053, 2048, 2048, 2048, 2048, 2048, 2048, 2048, 2048, 2048, 2048, 2048, 2048, 2048, 2048, 2048, 2048, 2048, 2048, 2048, 2048, 2048, 2048, 2048, 2048, 2048, 2048, 2048, 2048, 2048, 2048, 2048, 2048, 2048, 2048, 2048, 2048, 2048, 2048, 2048, 2048, 2048, 2048, 2048, 2048, 2048, 2048, 2048, 2048, 2048, 2048, 2048, 2048, 2048, 2048, 2048, 2048, 2048, 2054, 949, 3641]
def BR : List Nat := [0, 164, 112, 2, 0, 24, 5, 128, 8, 0, 128, 8, 0, 128, 8, 0, 128, 8, 0, 128, 8, 0, 128, 8, 0, 128, 8, 0, 128, 8, 0, 128, 8, 0, 128, 8, 0, 128, 8, 0, 128, 8, 0, 128, 8, 0, 128, 8, 0, 128, 8, 0, 128, 8, 0, 128, 8, 0, 128, 8, 0, 128, 8, 0, 128, 8, 0, 128, 8, 0, 128, 8, 0, 128, 8, 0, 128, 8, 0, 128, 8, 0, 128, 8, 0, 128, 8, 0, 128, 8, 0, 128, 8, 6, 59, 94, 57, 0]
/-- The number first, then what is done with it. -/
def force {a : Type} (n : Nat) (F : Nat → a) : a := match n with
  | 0 => F 0
  | m + 1 => F (m + 1)
theorem force_eq {a : Type} (n : Nat) (F : Nat → a) : force n F = F n := by cases n <;> rfl
def crcBitsS (n w : Nat) : Nat → Nat
  | 0 => n
  | j + 1 => force (crcBitsS n w j) fun m => bitStep m (w / 2 ^ (11 - j) % 2)
def crcToS (f : List Nat) : Nat → Nat
  | 0 => 0
  | k + 1 => force (crcToS f k) fun m => force (wd f k) fun w => crcBitsS m w 12
theorem crcBitsS_eq (n w : Nat) : ∀ j, crcBitsS n w j = crcBits n w j
  | 0 => rfl
  | j + 1 => by unfold crcBitsS crcBits; rw [force_eq, crcBitsS_eq n w j]
theorem crcToS_eq (f : List Nat) : ∀ k, crcToS f k = crcTo f k
  | 0 => rfl
  | k + 1 => by unfold crcToS crcTo; rw [force_eq, force_eq, crcBitsS_eq, crcToS_eq f k]
theorem checkN_S (f : List Nat) : checkN f = crcToS f 62 := (crcToS_eq f 62).symm
def L1 : List Nat := [0, 2, 1, 2053, 2048, 2048, 2048, 2048, 2048, 2048, 2048, 2048, 2048, 2048, 2048, 2048, 2048, 2048, 2048, 2048, 2048, 2048, 2048, 2048, 2048, 2048, 2048, 2048, 2048, 2048, 2048, 2048, 2048, 2048, 2048, 2048, 2048, 2048, 2048, 2048, 2048, 2048, 2048, 2048, 2048, 2048, 2048, 2048, 2048, 2048, 2048, 2048, 2048, 2048, 2048, 2048, 2048, 2048, 2048, 2048, 2048, 0, 0, 0]
def L2 : List Nat := [2631, 2, 1, 2053, 2048, 2048, 2048, 2048, 2048, 2048, 2048, 2048, 2048, 2048, 2048, 2048, 2048, 2048, 2048, 2048, 2048, 2048, 2048, 2048, 2048, 2048, 2048, 2048, 2048, 2048, 2048, 2048, 2048, 2048, 2048, 2048, 2048, 2048, 2048, 2048, 2048, 2048, 2048, 2048, 2048, 2048, 2048, 2048, 2048, 2048, 2048, 2048, 2048, 2048, 2048, 2048, 2048, 2048, 2048, 2048, 2048, 2054, 0, 0]
theorem newF_c : newF 2050 (dat.map Int.toNat) = L1 := by decide +kernel
theorem fin2_c : fin2 L1 = L2 := by decide +kernel
theorem check_c2 : checkN L2 = 1945145 := by rw [checkN_S]; decide +kernel
theorem check_c3 : checkN FR = 1945145 := by rw [checkN_S]; decide +kernel
theorem newR_c : newR 2050 dat = (FR, 0) := by
  rw [newR_4 (by decide) (by decide) (by decide +kernel)]
  have : newN (Int.toNat 2050) (dat.map Int.toNat) = FR := by
    show finN (newF 2050 (dat.map Int.toNat)) = FR
    rw [newF_c]; unfold finN fin3; rw [fin2_c, check_c2]; decide +kernel
  rw [this]
theorem putL_c : putL (List.replicate 98 0) 0 98 1 FR = BR := by decide +kernel
theorem putE_c : putE 98 1 FR = 0 := by decide +kernel
theorem flaws_c : flawsN FR = [] := by
  rw [flawsN_f (by decide +kernel), fl4_t (by rw [check_c3]; decide +kernel), fl3_t (by decide +kernel)]
  decide +kernel
theorem getR_c : getR BR 98 1 = FR := by decide +kernel
theorem FR_len : FR.length = 64 := by decide +kernel
theorem FR_at : wd FR 0 = 2631 ∧ wd FR 1 = 2 ∧ wd FR 2 = 1 ∧ wd FR 3 = 2053 := by decide +kernel
theorem BR_at : wd BR 0 = 0 ∧ wd BR 97 = 0 ∧ BR.length = 98 := by decide +kernel
theorem all_small {f : List Nat} {m : Nat} (hm : 0 < m) (h : (f.all fun n => Nat.blt n m) = true) : ∀ i, wd f i < m := by
  intro i
  unfold wd
  rw [List.getD_eq_getElem?_getD]
  cases hi : f[i]? with
  | none => simpa using hm
  | some n =>
    have := List.all_eq_true.1 h n (List.mem_of_getElem? hi)
    simp [Nat.blt] at this
    simp; omega
theorem FR_small : Small FR := all_small (by decide) (by decide +kernel)
theorem BR_byte : Byte BR := all_small (by decide) (by decide +kernel)
theorem Z98 : Byte (List.replicate 98 0) := all_small (by decide) (by decide +kernel)
/-- A number of ones, halved. -/
theorem pop_half {m : Nat} (h : m < 65536) : pop m = m % 2 + pop (m / 2) := by
  have h1 := popF_split 15 1 (m / 2)
  have e1 : m / 2 % 2 ^ 15 = m / 2 := Nat.mod_eq_of_lt (by omega)
  have e2 : m / 2 / 2 ^ 15 = 0 := Nat.div_eq_of_lt (by omega)
  rw [e1, e2, popF_zero] at h1
  show m % 2 + popF 15 (m / 2) = m % 2 + popF 16 (m / 2)
  have e3 : popF 16 (m / 2) = popF (15 + 1) (m / 2) := rfl
  rw [e3, h1]; omega
theorem pop_zero : pop 0 = 0 := popF_zero 16
theorem pop_le (m : Nat) : pop m ≤ 16 := popF_le 16 m
def wordR (d : Int) : Int × Int := if d < 0 ∨ 2047 < d then (0, 9) else (((wordN d.toNat : Nat) : Int), 0)
def dataR (w : Int) : Int × Bool × Int := if w < 0 ∨ 4095 < w then (0, false, 9) else (w % 2048, decide (oddN w.toNat), 0)
def syncR (n : Int) : Int × Int := if n < 0 ∨ 4194304 ≤ n then (0, 9) else (((wd tab (n.toNat % 4) : Nat) : Int), 0)
theorem wordR_1 {d : Int} (h : d < 0 ∨ 2047 < d) : wordR d = (0, 9) := by unfold wordR; rw [if_pos h]
theorem wordR_2 {d : Int} (h : ¬ (d < 0 ∨ 2047 < d)) : wordR d = (((wordN d.toNat : Nat) : Int), 0) := by unfold wordR; rw [if_neg h]
theorem dataR_1 {d : Int} (h : d < 0 ∨ 4095 < d) : dataR d = (0, false, 9) := by unfold dataR; rw [if_pos h]
theorem dataR_2 {d : Int} (h : ¬ (d < 0 ∨ 4095 < d)) : dataR d = (d % 2048, decide (oddN d.toNat), 0) := by unfold dataR; rw [if_neg h]
theorem syncR_1 {n : Int} (h : n < 0 ∨ 4194304 ≤ n) : syncR n = (0, 9) := by unfold syncR; rw [if_pos h]
theorem syncR_2 {n : Int} (h : ¬ (n < 0 ∨ 4194304 ≤ n)) : syncR n = (((wd tab (n.toNat % 4) : Nat) : Int), 0) := by unfold syncR; rw [if_neg h]
end Go.Fr1
