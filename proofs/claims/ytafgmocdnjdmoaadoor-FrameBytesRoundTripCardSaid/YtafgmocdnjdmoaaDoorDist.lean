/- The distance of two frames: plain laws. -/
import Derived.Test.YtafgmocdnjdmoaaDoorFrC
namespace Go.Fr1
theorem popF_xor : ∀ (n x y : Nat), popF n (x ^^^ y) ≤ popF n x + popF n y
  | 0, _, _ => Nat.le_refl _
  | n + 1, x, y => by
    have ih := popF_xor n (x / 2) (y / 2)
    unfold popF
    rw [Nat.xor_div_two]
    have h : (x ^^^ y) % 2 ≤ x % 2 + y % 2 := by
      have e := Nat.xor_mod_two_pow (a := x) (b := y) (n := 1)
      simp only [Nat.pow_one] at e
      rw [e]
      rcases Nat.mod_two_eq_zero_or_one x with hx | hx <;> rcases Nat.mod_two_eq_zero_or_one y with hy | hy <;> rw [hx, hy] <;> decide
    omega
theorem popF_zero_iff : ∀ (n x : Nat), x < 2 ^ n → popF n x = 0 → x = 0
  | 0, x, h, _ => by simp at h; exact h
  | n + 1, x, h, h0 => by
    unfold popF at h0
    have h2 : x / 2 = 0 := popF_zero_iff n (x / 2) (by rw [Nat.pow_succ] at h; omega) (by omega)
    omega
theorem xor_self_eq {x y : Nat} (h : x ^^^ y = 0) : x = y := by
  have := congrArg (· ^^^ y) h
  simpa [Nat.xor_assoc] using this
/-- The distance of the first k words. -/
def distTo (f g : List Nat) : Nat → Nat
  | 0 => 0
  | k + 1 => distTo f g k + pop (wd f k ^^^ wd g k)
@[irreducible] def distN (f g : List Nat) : Nat := distTo f g 64
theorem distN_eq {f g : List Nat} {k : Nat} (h : k = 64) : distTo f g k = distN f g := by subst h; unfold distN; rfl
theorem distTo_le (f g : List Nat) : ∀ k, distTo f g k ≤ 16 * k
  | 0 => Nat.le_refl _
  | k + 1 => by have := distTo_le f g k; have := popF_le 16 (wd f k ^^^ wd g k); unfold distTo pop; omega
theorem distTo_comm (f g : List Nat) : ∀ k, distTo f g k = distTo g f k
  | 0 => rfl
  | k + 1 => by unfold distTo; rw [distTo_comm f g k, Nat.xor_comm]
theorem distTo_tri (f g h : List Nat) : ∀ k, distTo f g k ≤ distTo f h k + distTo h g k
  | 0 => Nat.le_refl _
  | k + 1 => by
    have ih := distTo_tri f g h k
    have e : wd f k ^^^ wd g k = (wd f k ^^^ wd h k) ^^^ (wd h k ^^^ wd g k) := by
      rw [Nat.xor_assoc, ← Nat.xor_assoc (wd h k), Nat.xor_self, Nat.zero_xor]
    have := popF_xor 16 (wd f k ^^^ wd h k) (wd h k ^^^ wd g k)
    unfold distTo pop
    rw [e]; omega
theorem distTo_zero {f g : List Nat} (hf : Small f) (hg : Small g) : ∀ k, distTo f g k = 0 ↔ ∀ i, i < k → wd f i = wd g i
  | 0 => by simp [distTo]
  | k + 1 => by
    have ih := distTo_zero hf hg k
    unfold distTo
    constructor
    · intro h i hi
      rcases Nat.lt_succ_iff_lt_or_eq.1 hi with h1 | h1
      · exact ih.1 (by omega) i h1
      · subst h1
        exact xor_self_eq (popF_zero_iff 16 _ (Nat.xor_lt_two_pow (n := 16) (hf i) (hg i)) (by unfold pop at h; omega))
    · intro h
      have h1 := ih.2 (fun i hi => h i (by omega))
      rw [h1, h k (by omega), Nat.xor_self, pop_zero]
theorem distN_le (f g : List Nat) : distN f g ≤ 1024 := by rw [← distN_eq rfl]; exact distTo_le f g 64
theorem distN_comm (f g : List Nat) : distN f g = distN g f := by rw [← distN_eq rfl, ← distN_eq rfl]; exact distTo_comm f g 64
theorem distN_tri (f g h : List Nat) : distN f g ≤ distN f h + distN h g := by rw [← distN_eq rfl, ← distN_eq rfl, ← distN_eq rfl]; exact distTo_tri f g h 64
theorem wd_ext {f g : List Nat} (hl : f.length = g.length) (h : ∀ i, i < f.length → wd f i = wd g i) : f = g := by
  apply List.ext_getElem hl
  intro i h1 h2
  have := h i h1
  simpa [wd, List.getD, List.getElem?_eq_getElem h1, List.getElem?_eq_getElem h2] using this
theorem distN_zero {f g : List Nat} (hf : f.length = 64) (hg : g.length = 64) (sf : Small f) (sg : Small g) : distN f g = 0 ↔ f = g := by
  rw [← distN_eq rfl, distTo_zero sf sg 64]
  constructor
  · intro h; exact wd_ext (hf.trans hg.symm) (fun i hi => h i (by omega))
  · rintro rfl i _; rfl
end Go.Fr1
