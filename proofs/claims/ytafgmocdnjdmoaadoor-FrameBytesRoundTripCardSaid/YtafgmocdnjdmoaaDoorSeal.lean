/- Frames sealed: plain laws. -/
import Derived.Test.YtafgmocdnjdmoaaDoorCrc
import Derived.Test.YtafgmocdnjdmoaaDoorDist
namespace Go.Fr1
def sealTo (f : List Nat) : Nat → List Nat
  | 0 => f
  | k + 1 => (sealTo f k).set (k + 1) (wordN (wd f (k + 1) % 2048))
@[irreducible] def sealF (f : List Nat) : List Nat := sealTo f 60
theorem sealF_eq {f : List Nat} {k : Nat} (h : k = 60) : sealTo f k = sealF f := by subst h; unfold sealF; rfl
theorem sealTo_len (f : List Nat) : ∀ k, (sealTo f k).length = f.length
  | 0 => rfl
  | k + 1 => by simp [sealTo, sealTo_len f k]
theorem sealF_len (f : List Nat) : (sealF f).length = f.length := by rw [← sealF_eq rfl]; exact sealTo_len f 60
theorem sealTo_wd {f : List Nat} (hl : f.length = 64) : ∀ k, k ≤ 60 → ∀ j, wd (sealTo f k) j = if 1 ≤ j ∧ j ≤ k then wordN (wd f j % 2048) else wd f j
  | 0, _, j => by rw [if_neg (by omega)]; rfl
  | k + 1, hk, j => by
    have ih := sealTo_wd hl k (by omega) j
    have hl2 := sealTo_len f k
    show wd ((sealTo f k).set (k + 1) (wordN (wd f (k + 1) % 2048))) j = _
    rw [wd_set, hl2, hl, ih]
    by_cases h : k + 1 = j ∧ j < 64
    · obtain ⟨rfl, _⟩ := h; rw [if_pos ⟨rfl, by omega⟩, if_pos (by omega)]
    · rw [if_neg h]
      by_cases h2 : 1 ≤ j ∧ j ≤ k
      · rw [if_pos h2, if_pos (by omega)]
      · rw [if_neg h2, if_neg (by omega)]
theorem sealTo_small {f : List Nat} (h : Small f) : ∀ k, Small (sealTo f k)
  | 0 => h
  | k + 1 => (sealTo_small h k).set _ (by have := wordN_lt (d := wd f (k + 1) % 2048) (by omega); omega)
theorem sealF_small {f : List Nat} (h : Small f) : Small (sealF f) := by rw [← sealF_eq rfl]; exact sealTo_small h 60
/-- The reference's new frame, before it is sealed. -/
def raw0 (n : Nat) : List Nat := ((List.replicate 64 0).set 1 (n % 2048)).set 2 (n / 2048)
def rawTo (n : Nat) (d : List Nat) : Nat → List Nat
  | 0 => raw0 n
  | k + 1 => (rawTo n d k).set (3 + k) (wd d k)
@[irreducible] def rawF (n : Nat) (d : List Nat) : List Nat := rawTo n d 58
theorem rawF_eq {n : Nat} {d : List Nat} {k : Nat} (h : k = 58) : rawTo n d k = rawF n d := by subst h; unfold rawF; rfl
theorem rawTo_len (n : Nat) (d : List Nat) : ∀ k, (rawTo n d k).length = 64
  | 0 => by simp [rawTo, raw0]
  | k + 1 => by simp [rawTo, rawTo_len n d k]
theorem rawF_len (n : Nat) (d : List Nat) : (rawF n d).length = 64 := by rw [← rawF_eq rfl]; exact rawTo_len _ _ _
theorem wd_zero (j : Nat) : wd (List.replicate 64 0) j = 0 := by unfold wd; rw [List.getD_eq_getElem?_getD, List.getElem?_replicate]; split <;> simp
theorem rawTo_wd (n : Nat) (d : List Nat) : ∀ k, k ≤ 58 → ∀ j, wd (rawTo n d k) j = if j = 1 then n % 2048 else if j = 2 then n / 2048 else if 3 ≤ j ∧ j < 3 + k then wd d (j - 3) else 0
  | 0, _, j => by
    show wd (((List.replicate 64 0).set 1 (n % 2048)).set 2 (n / 2048)) j = _
    rw [wd_set, wd_set, wd_zero]
    simp only [List.length_set, List.length_replicate]
    repeat' split
    all_goals first | omega | rfl
  | k + 1, hk, j => by
    have ih := rawTo_wd n d k (by omega) j
    have hl := rawTo_len n d k
    show wd ((rawTo n d k).set (3 + k) (wd d k)) j = _
    rw [wd_set, hl, ih]
    by_cases h : 3 + k = j ∧ j < 64
    · obtain ⟨rfl, _⟩ := h
      rw [if_pos ⟨rfl, by omega⟩, if_neg (by omega), if_neg (by omega), if_pos (by omega), show 3 + k - 3 = k by omega]
    · rw [if_neg h]
      by_cases h1 : j = 1
      · rw [if_pos h1, if_pos h1]
      · rw [if_neg h1, if_neg h1]
        by_cases h2 : j = 2
        · rw [if_pos h2, if_pos h2]
        · rw [if_neg h2, if_neg h2]
          by_cases h3 : 3 ≤ j ∧ j < 3 + k
          · rw [if_pos h3, if_pos (by omega)]
          · rw [if_neg h3, if_neg (by omega)]
theorem newTo_wd (n : Nat) (d : List Nat) : ∀ k, k ≤ 58 → ∀ j, wd (newTo n d k) j = if j = 1 then wordN (n % 2048) else if j = 2 then wordN (n / 2048) else if 3 ≤ j ∧ j < 3 + k then wordN (wd d (j - 3)) else 0
  | 0, _, j => by
    show wd (((List.replicate 64 0).set 1 (wordN (n % 2048))).set 2 (wordN (n / 2048))) j = _
    rw [wd_set, wd_set, wd_zero]
    simp only [List.length_set, List.length_replicate]
    repeat' split
    all_goals first | omega | rfl
  | k + 1, hk, j => by
    have ih := newTo_wd n d k (by omega) j
    have hl := newTo_len n d k
    show wd ((newTo n d k).set (3 + k) (wordN (wd d k))) j = _
    rw [wd_set, hl, ih]
    by_cases h : 3 + k = j ∧ j < 64
    · obtain ⟨rfl, _⟩ := h
      rw [if_pos ⟨rfl, by omega⟩, if_neg (by omega), if_neg (by omega), if_pos (by omega), show 3 + k - 3 = k by omega]
    · rw [if_neg h]
      by_cases h1 : j = 1
      · rw [if_pos h1, if_pos h1]
      · rw [if_neg h1, if_neg h1]
        by_cases h2 : j = 2
        · rw [if_pos h2, if_pos h2]
        · rw [if_neg h2, if_neg h2]
          by_cases h3 : 3 ≤ j ∧ j < 3 + k
          · rw [if_pos h3, if_pos (by omega)]
          · rw [if_neg h3, if_neg (by omega)]
theorem new_raw {n : Nat} {d : List Nat} (hn : n < 4194304) (hd : ∀ i, i < 58 → wd d i < 2048) : newF n d = sealF (rawF n d) := by
  apply wd_ext (by rw [newF_len, sealF_len, rawF_len])
  intro j hj
  rw [← newF_eq rfl, ← sealF_eq rfl, ← rawF_eq rfl, newTo_wd n d 58 (by omega) j, sealTo_wd (rawTo_len _ _ _) 60 (by omega) j, rawTo_wd n d 58 (by omega) j]
  by_cases h1 : j = 1
  · subst h1; rw [if_pos rfl, if_pos rfl, if_pos (by omega), Nat.mod_mod]
  · rw [if_neg h1, if_neg h1]
    by_cases h2 : j = 2
    · subst h2; rw [if_pos rfl, if_pos rfl, if_pos (by omega), Nat.mod_eq_of_lt (show n / 2048 < 2048 by omega)]
    · rw [if_neg h2, if_neg h2]
      by_cases h3 : 3 ≤ j ∧ j < 3 + 58
      · rw [if_pos h3, if_pos h3, if_pos (by omega), Nat.mod_eq_of_lt (hd _ (by omega))]
      · rw [if_neg h3, if_neg h3, if_neg (by omega)]
end Go.Fr1
namespace Go.Fr1
theorem raw_small {n : Nat} {d : List Nat} (hn : n < 4194304) (hd : ∀ i, i < 58 → wd d i < 2048) : Small (rawF n d) := by
  intro j
  rw [← rawF_eq rfl, rawTo_wd n d 58 (by omega) j]
  split
  · omega
  · split
    · omega
    · split
      · rename_i h; have := hd (j - 3) (by omega); omega
      · omega
end Go.Fr1
