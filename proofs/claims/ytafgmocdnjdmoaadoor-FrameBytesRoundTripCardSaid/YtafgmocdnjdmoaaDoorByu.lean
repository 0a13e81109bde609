/- Words set in bytes; halves of bytes: plain laws. -/
import Derived.Test.YtafgmocdnjdmoaaDoorByt
namespace Go.Fr1
theorem getW_e {L : List Nat} {o i : Nat} (h : i % 2 = 0) : getW L o i = wd L (o + i / 2 * 3) * 16 + wd L (o + (i / 2 * 3 + 1)) / 16 := by unfold getW; rw [if_pos h]
theorem getW_o {L : List Nat} {o i : Nat} (h : ¬ i % 2 = 0) : getW L o i = wd L (o + (i / 2 * 3 + 1)) % 16 * 256 + wd L (o + (i / 2 * 3 + 2)) := by unfold getW; rw [if_neg h]
theorem wd_drp (xs : List Nat) (q i : Nat) : wd (xs.drop q) i = wd xs (q + i) := by unfold wd; simp [List.getD_eq_getElem?_getD, List.getElem?_drop]
/-- What Put makes of a frame that was loaded there, one word turned. -/
theorem set_lay {X : List Nat} {a i x : Nat} (hX : Byte X) (hi : i < 64) (hl : a + 96 ≤ X.length) (hx : x < 4096) : setW X a i x = lay X a (bytesN ((loadN (X.drop a) 0).set i x)) := by
  have hb := bytesN_len ((loadN (X.drop a) 0).set i x)
  apply wd_ext (by rw [setW_len, lay_len (by omega)])
  intro j hj
  rw [lay_wd (by omega), hb]
  by_cases h : a ≤ j ∧ j < a + 96
  · rw [if_pos h]
    obtain ⟨k, r, hk, hr, rfl⟩ : ∃ k r, k < 32 ∧ r < 3 ∧ j = a + (3 * k + r) := ⟨(j - a) / 3, (j - a) % 3, by omega, by omega, by omega⟩
    rw [show a + (3 * k + r) - a = 3 * k + r by omega, bytesN_wd, if_pos (by omega)]
    have x0 := hX (a + (3 * k))
    have x1 := hX (a + (3 * k + 1))
    have x2 := hX (a + (3 * k + 2))
    have gl := loadN_len (X.drop a) 0
    have g0 : wd (loadN (X.drop a) 0) (2 * k) = wd X (a + 3 * k) * 16 + wd X (a + (3 * k + 1)) / 16 := by
      rw [loadN_wd, if_pos (by omega), getW_e (by omega), wd_drp, wd_drp]
      rw [show 0 + 2 * k / 2 * 3 = 3 * k by omega, show 0 + (2 * k / 2 * 3 + 1) = 3 * k + 1 by omega]
    have g1 : wd (loadN (X.drop a) 0) (2 * k + 1) = wd X (a + (3 * k + 1)) % 16 * 256 + wd X (a + (3 * k + 2)) := by
      rw [loadN_wd, if_pos (by omega), getW_o (by omega), wd_drp, wd_drp]
      rw [show 0 + ((2 * k + 1) / 2 * 3 + 1) = 3 * k + 1 by omega, show 0 + ((2 * k + 1) / 2 * 3 + 2) = 3 * k + 2 by omega]
    generalize hG : (loadN (X.drop a) 0).set i x = G
    have w0 : wd G (2 * k) = if i = 2 * k then x else wd X (a + 3 * k) * 16 + wd X (a + (3 * k + 1)) / 16 := by
      rw [← hG, wd_set, gl, g0]
      by_cases q : i = 2 * k
      · rw [if_pos ⟨q, by omega⟩, if_pos q]
      · rw [if_neg (fun h => q h.1), if_neg q]
    have w1 : wd G (2 * k + 1) = if i = 2 * k + 1 then x else wd X (a + (3 * k + 1)) % 16 * 256 + wd X (a + (3 * k + 2)) := by
      rw [← hG, wd_set, gl, g1]
      by_cases q : i = 2 * k + 1
      · rw [if_pos ⟨q, by omega⟩, if_pos q]
      · rw [if_neg (fun h => q h.1), if_neg q]
    have l0 : wd G (2 * k) < 4096 := by rw [w0]; split <;> omega
    have l1 : wd G (2 * k + 1) < 4096 := by rw [w1]; split <;> omega
    have b0 := byteN_0 k l0
    have b1 := byteN_1 k l1
    have b2 := byteN_2 (f := G) k
    rw [w0] at b0
    rw [w0, w1] at b1
    rw [w1] at b2
    unfold setW
    rcases Nat.mod_two_eq_zero_or_one i with he | he
    · rw [if_pos he]
      obtain ⟨p, rfl⟩ : ∃ p, i = 2 * p := ⟨i / 2, by omega⟩
      rw [show 2 * p / 2 * 3 = 3 * p by omega]
      simp only [wd_set, List.length_set]
      have r3 : r = 0 ∨ r = 1 ∨ r = 2 := by omega
      rcases r3 with rfl | rfl | rfl
      · simp only [Nat.add_zero]; rw [b0]; repeat' split
        all_goals first | omega | ((obtain rfl : p = k := by omega); omega)
      · rw [b1]; repeat' split
        all_goals first | omega | ((obtain rfl : p = k := by omega); omega)
      · rw [b2]; repeat' split
        all_goals first | omega | ((obtain rfl : p = k := by omega); omega)
    · rw [if_neg (by omega)]
      obtain ⟨p, rfl⟩ : ∃ p, i = 2 * p + 1 := ⟨i / 2, by omega⟩
      rw [show (2 * p + 1) / 2 * 3 = 3 * p by omega]
      simp only [wd_set, List.length_set]
      have r3 : r = 0 ∨ r = 1 ∨ r = 2 := by omega
      rcases r3 with rfl | rfl | rfl
      · simp only [Nat.add_zero]; rw [b0]; repeat' split
        all_goals first | omega | ((obtain rfl : p = k := by omega); omega)
      · rw [b1]; repeat' split
        all_goals first | omega | ((obtain rfl : p = k := by omega); omega)
      · rw [b2]; repeat' split
        all_goals first | omega | ((obtain rfl : p = k := by omega); omega)
  · rw [if_neg h]
    unfold setW
    split
    · rw [wd_set, wd_set, if_neg (by omega), if_neg (by omega)]
    · rw [wd_set, wd_set, if_neg (by omega), if_neg (by omega)]
/-- A half of a byte. -/
def hb (X : List Nat) (n : Nat) : Nat := if n % 2 = 0 then wd X (n / 2) / 16 else wd X (n / 2) % 16
def acc (X : List Nat) (i : Nat) : Nat → Nat
  | 0 => 0
  | j + 1 => acc X i j * 16 + hb X (3 * i + j)
theorem hb_lt {X : List Nat} (h : Byte X) (n : Nat) : hb X n < 16 := by have := h (n / 2); unfold hb; split <;> omega
theorem acc_1 {X : List Nat} (h : Byte X) (i : Nat) : acc X i 1 < 16 := by
  have q := hb_lt h (3 * i + 0)
  show 0 * 16 + hb X (3 * i + 0) < 16
  omega
theorem acc_2 {X : List Nat} (h : Byte X) (i : Nat) : acc X i 2 < 256 := by
  have q := acc_1 h i
  have p := hb_lt h (3 * i + 1)
  show acc X i 1 * 16 + hb X (3 * i + 1) < 256
  omega
theorem acc_lt {X : List Nat} (h : Byte X) (i j : Nat) (hj : j < 3) : acc X i j < 256 := by
  have j3 : j = 0 ∨ j = 1 ∨ j = 2 := by omega
  rcases j3 with rfl | rfl | rfl
  · show 0 < 256; decide
  · have := acc_1 h i; omega
  · exact acc_2 h i
theorem acc_get {X : List Nat} (h : Byte X) (i : Nat) : acc X i 3 = getW X 0 i := by
  have e : acc X i 3 = ((0 * 16 + hb X (3 * i + 0)) * 16 + hb X (3 * i + 1)) * 16 + hb X (3 * i + 2) := rfl
  rw [e]
  have x1 := h (i / 2 * 3 + 1)
  rcases Nat.mod_two_eq_zero_or_one i with he | he
  · obtain ⟨k, rfl⟩ : ∃ k, i = 2 * k := ⟨i / 2, by omega⟩
    have a0 : hb X (3 * (2 * k) + 0) = wd X (3 * k) / 16 := by unfold hb; rw [if_pos (by omega), show (3 * (2 * k) + 0) / 2 = 3 * k by omega]
    have a1 : hb X (3 * (2 * k) + 1) = wd X (3 * k) % 16 := by unfold hb; rw [if_neg (by omega), show (3 * (2 * k) + 1) / 2 = 3 * k by omega]
    have a2 : hb X (3 * (2 * k) + 2) = wd X (3 * k + 1) / 16 := by unfold hb; rw [if_pos (by omega), show (3 * (2 * k) + 2) / 2 = 3 * k + 1 by omega]
    rw [a0, a1, a2, getW_e he, show 0 + 2 * k / 2 * 3 = 3 * k by omega, show 0 + (2 * k / 2 * 3 + 1) = 3 * k + 1 by omega]
    omega
  · obtain ⟨k, rfl⟩ : ∃ k, i = 2 * k + 1 := ⟨i / 2, by omega⟩
    have a0 : hb X (3 * (2 * k + 1) + 0) = wd X (3 * k + 1) % 16 := by unfold hb; rw [if_neg (by omega), show (3 * (2 * k + 1) + 0) / 2 = 3 * k + 1 by omega]
    have a1 : hb X (3 * (2 * k + 1) + 1) = wd X (3 * k + 2) / 16 := by unfold hb; rw [if_pos (by omega), show (3 * (2 * k + 1) + 1) / 2 = 3 * k + 2 by omega]
    have a2 : hb X (3 * (2 * k + 1) + 2) = wd X (3 * k + 2) % 16 := by unfold hb; rw [if_neg (by omega), show (3 * (2 * k + 1) + 2) / 2 = 3 * k + 2 by omega]
    rw [a0, a1, a2, getW_o (by omega), show 0 + ((2 * k + 1) / 2 * 3 + 1) = 3 * k + 1 by omega, show 0 + ((2 * k + 1) / 2 * 3 + 2) = 3 * k + 2 by omega]
    omega
/-- The first i words, and j halves of the next. -/
def frL (X : List Nat) (i j : Nat) : List Nat := (loadTo X 0 i).set i (acc X i j)
theorem frL_len (X : List Nat) (i j : Nat) : (frL X i j).length = 64 := by simp [frL, loadTo_len]
theorem frL_0 {X : List Nat} {i : Nat} : frL X i 0 = loadTo X 0 i := by
  apply wd_ext (by rw [frL_len, loadTo_len])
  intro j hj
  unfold frL
  rw [wd_set]
  split
  · rename_i h; obtain ⟨rfl, _⟩ := h; rw [loadTo_wd, if_neg (by omega)]; rfl
  · rfl
theorem frL_3 {X : List Nat} (h : Byte X) (i : Nat) : frL X i 3 = loadTo X 0 (i + 1) := by unfold frL; rw [acc_get h]; rfl
theorem frL_at {X : List Nat} {i j : Nat} (hi : i < 64) : wd (frL X i j) i = acc X i j := by unfold frL; rw [wd_set, if_pos ⟨rfl, by rw [loadTo_len]; exact hi⟩]
theorem frL_set {X : List Nat} (i j : Nat) : (frL X i j).set i (acc X i (j + 1)) = frL X i (j + 1) := by unfold frL; rw [List.set_set]
def setE (m : Nat) (a i x : Int) : Int := if placeN m a 96 ≠ 0 then placeN m a 96 else if i < 0 ∨ 63 < i ∨ x < 0 ∨ 4095 < x then 9 else 0
def setX (xs : List Nat) (m : Nat) (a i x : Int) : List Nat := if setE m a i x = 0 then lay xs a.toNat (bytesN ((loadN (xs.drop a.toNat) 0).set i.toNat x.toNat)) else xs
theorem setE_1 {m : Nat} {a i x : Int} (h : placeN m a 96 ≠ 0) : setE m a i x = placeN m a 96 := by unfold setE; rw [if_pos h]
theorem setE_2 {m : Nat} {a i x : Int} (h : ¬ placeN m a 96 ≠ 0) (h2 : i < 0 ∨ 63 < i ∨ x < 0 ∨ 4095 < x) : setE m a i x = 9 := by unfold setE; rw [if_neg h, if_pos h2]
theorem setE_3 {m : Nat} {a i x : Int} (h : ¬ placeN m a 96 ≠ 0) (h2 : ¬ (i < 0 ∨ 63 < i ∨ x < 0 ∨ 4095 < x)) : setE m a i x = 0 := by unfold setE; rw [if_neg h, if_neg h2]
theorem setX_1 {xs : List Nat} {m : Nat} {a i x : Int} (h : setE m a i x ≠ 0) : setX xs m a i x = xs := by unfold setX; rw [if_neg h]
theorem setX_2 {xs : List Nat} {m : Nat} {a i x : Int} (h : setE m a i x = 0) : setX xs m a i x = lay xs a.toNat (bytesN ((loadN (xs.drop a.toNat) 0).set i.toNat x.toNat)) := by unfold setX; rw [if_pos h]
theorem setE_ok {m : Nat} {a i x : Int} (h : setE m a i x = 0) : 0 ≤ a ∧ a + 96 ≤ m ∧ 0 ≤ i ∧ i ≤ 63 ∧ 0 ≤ x ∧ x ≤ 4095 := by
  by_cases h1 : placeN m a 96 ≠ 0
  · rw [setE_1 h1] at h; exact absurd h h1
  · by_cases h2 : i < 0 ∨ 63 < i ∨ x < 0 ∨ 4095 < x
    · rw [setE_2 h1 h2] at h; omega
    · have := placeN_0 (show placeN m a 96 = 0 by omega); omega
theorem setX_len {xs : List Nat} {m : Nat} {a i x : Int} (hm : xs.length = m) : (setX xs m a i x).length = m := by
  by_cases h : setE m a i x = 0
  · have := setE_ok h
    have hb := bytesN_len ((loadN (xs.drop a.toNat) 0).set i.toNat x.toNat)
    rw [setX_2 h, lay_len (by omega), hm]
  · rw [setX_1 h]; exact hm
theorem setX_byte {xs : List Nat} {m : Nat} {a i x : Int} (hm : xs.length = m) (hx : Byte xs) : Byte (setX xs m a i x) := by
  by_cases h : setE m a i x = 0
  · have := setE_ok h
    have hb := bytesN_len ((loadN (xs.drop a.toNat) 0).set i.toNat x.toNat)
    rw [setX_2 h]
    exact lay_byte hx (bytesN_byte _) (by omega)
  · rw [setX_1 h]; exact hx
theorem setW_ins {xs : List Nat} {m : Nat} {a i x : Int} (hm : xs.length = m) (hx : Byte xs) (h : setE m a i x = 0) : setW (ins xs) (5 + a.toNat) i.toNat x.toNat = ins (setX xs m a i x) := by
  have := setE_ok h
  have hb := bytesN_len ((loadN (xs.drop a.toNat) 0).set i.toNat x.toNat)
  rw [set_lay (ins_byte hx) (by omega) (by rw [ins_len]; omega) (by omega), setX_2 h]
  have e : (loadN ((ins xs).drop (5 + a.toNat)) 0) = loadN (xs.drop a.toNat) 0 := by
    apply wd_ext (by rw [loadN_len, loadN_len])
    intro j hj
    rw [loadN_len] at hj
    rw [loadN_wd, loadN_wd, if_pos hj, if_pos hj]
    have f : ∀ q, q < 96 → wd ((ins xs).drop (5 + a.toNat)) q = wd (xs.drop a.toNat) q := by
      intro q hq
      rw [wd_drp, wd_drp]
      unfold ins
      rw [app_m (by simp [pre5]; omega) (by simp [pre5]; omega)]
      congr 1; simp [pre5]; omega
    unfold getW
    split
    · rw [f _ (by omega), f _ (by omega)]
    · rw [f _ (by omega), f _ (by omega)]
  rw [e]
  exact lay_in (A := pre5) (by omega)
theorem ite_ins {xs : List Nat} {m : Nat} {a i x : Int} (hm : xs.length = m) (hx : Byte xs) : (if setE m a i x = 0 then setW (ins xs) (5 + a.toNat) i.toNat x.toNat else ins xs) = ins (setX xs m a i x) := by
  split
  · rename_i h; exact setW_ins hm hx h
  · rename_i h; rw [setX_1 h]
end Go.Fr1
