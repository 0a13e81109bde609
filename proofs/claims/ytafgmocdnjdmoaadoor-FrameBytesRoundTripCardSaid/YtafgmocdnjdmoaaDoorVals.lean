/- A frame's values: plain laws. -/
import Derived.Test.YtafgmocdnjdmoaaDoorSeal
namespace Go.Fr1
/-- The values and which of them are right, the first k. -/
def valTo (f : List Nat) : Nat → List Nat
  | 0 => []
  | k + 1 => valTo f k ++ [if wd f (3 + k) ≤ 4095 then wd f (3 + k) % 2048 else 0]
def rightTo (f : List Nat) : Nat → List Bool
  | 0 => []
  | k + 1 => rightTo f k ++ [decide (goodW (wd f (3 + k)))]
@[irreducible] def valF (f : List Nat) : List Nat := valTo f 58
@[irreducible] def rightF (f : List Nat) : List Bool := rightTo f 58
theorem valF_eq {f : List Nat} {k : Nat} (h : k = 58) : valTo f k = valF f := by subst h; unfold valF; rfl
theorem rightF_eq {f : List Nat} {k : Nat} (h : k = 58) : rightTo f k = rightF f := by subst h; unfold rightF; rfl
theorem valTo_len (f : List Nat) : ∀ k, (valTo f k).length = k
  | 0 => rfl
  | k + 1 => by simp [valTo, valTo_len f k]
theorem rightTo_len (f : List Nat) : ∀ k, (rightTo f k).length = k
  | 0 => rfl
  | k + 1 => by simp [rightTo, rightTo_len f k]
theorem valF_len (f : List Nat) : (valF f).length = 58 := by rw [← valF_eq rfl]; exact valTo_len f 58
theorem rightF_len (f : List Nat) : (rightF f).length = 58 := by rw [← rightF_eq rfl]; exact rightTo_len f 58
theorem valTo_t {f : List Nat} {k : Nat} (h : wd f (3 + k) ≤ 4095) : valTo f (k + 1) = valTo f k ++ [wd f (3 + k) % 2048] := by
  show valTo f k ++ [if _ then _ else _] = _
  rw [if_pos h]
theorem valTo_f {f : List Nat} {k : Nat} (h : ¬ wd f (3 + k) ≤ 4095) : valTo f (k + 1) = valTo f k ++ [0] := by
  show valTo f k ++ [if _ then _ else _] = _
  rw [if_neg h]
end Go.Fr1
namespace Go.Fr1
def numR (f : List Nat) : Int × Bool := if goodW (wd f 1) ∧ goodW (wd f 2) then ((numN f : Nat), true) else (0, false)
theorem numR_1 {f : List Nat} (h : ¬ (goodW (wd f 1) ∧ goodW (wd f 2))) : numR f = (0, false) := by unfold numR; rw [if_neg h]
theorem numR_2 {f : List Nat} (h1 : goodW (wd f 1)) (h2 : goodW (wd f 2)) : numR f = (((numN f : Nat) : Int), true) := by unfold numR; rw [if_pos ⟨h1, h2⟩]
end Go.Fr1
namespace Go.Fr1
theorem rightTo_s {f : List Nat} {k : Nat} {b : Bool} (h : b = decide (goodW (wd f (3 + k)))) : rightTo f k ++ [b] = rightTo f (k + 1) := by subst h; rfl
end Go.Fr1
