/- Frames exchanged and cleared in bytes: plain laws. -/
import Derived.Test.YtafgmocdnjdmoaaDoorByu
namespace Go.Fr1
def cut (xs : List Nat) (a n : Nat) : List Nat := (xs.drop a).take n
theorem cut_len {xs : List Nat} {a n : Nat} (h : a + n ≤ xs.length) : (cut xs a n).length = n := by simp [cut]; omega
theorem cut_wd {xs : List Nat} {a n : Nat} (j : Nat) : wd (cut xs a n) j = if j < n then wd xs (a + j) else 0 := by
  unfold cut wd
  simp only [List.getD_eq_getElem?_getD, List.getElem?_take, List.getElem?_drop]
  split
  · rfl
  · rfl
theorem cut_byte {xs : List Nat} {a n : Nat} (h : Byte xs) : Byte (cut xs a n) := by
  intro j; rw [cut_wd]; split
  · exact h _
  · decide
theorem ins_cut {xs : List Nat} {a : Nat} (h : a + 96 ≤ xs.length) : cut (ins xs) (5 + a) 96 = cut xs a 96 := by
  apply wd_ext (by rw [cut_len (by rw [ins_len]; omega), cut_len h])
  intro j hj
  rw [cut_len (by rw [ins_len]; omega)] at hj
  rw [cut_wd, cut_wd, if_pos hj, if_pos hj]
  unfold ins
  rw [app_m (by simp [pre5]; omega) (by simp [pre5]; omega)]
  congr 1; simp [pre5]; omega
def swapE (m : Nat) (a t : Int) : Int := if placeN m a 96 ≠ 0 then placeN m a 96 else if placeN m t 96 ≠ 0 then placeN m t 96 else if a - t < 96 ∧ t - a < 96 then 2 else 0
theorem swapE_1 {m : Nat} {a t : Int} (h : placeN m a 96 ≠ 0) : swapE m a t = placeN m a 96 := by unfold swapE; rw [if_pos h]
theorem swapE_2 {m : Nat} {a t : Int} (h : ¬ placeN m a 96 ≠ 0) (h2 : placeN m t 96 ≠ 0) : swapE m a t = placeN m t 96 := by unfold swapE; rw [if_neg h, if_pos h2]
theorem swapE_3 {m : Nat} {a t : Int} (h : ¬ placeN m a 96 ≠ 0) (h2 : ¬ placeN m t 96 ≠ 0) (h3 : a - t < 96 ∧ t - a < 96) : swapE m a t = 2 := by unfold swapE; rw [if_neg h, if_neg h2, if_pos h3]
theorem swapE_4 {m : Nat} {a t : Int} (h : ¬ placeN m a 96 ≠ 0) (h2 : ¬ placeN m t 96 ≠ 0) (h3 : ¬ (a - t < 96 ∧ t - a < 96)) : swapE m a t = 0 := by unfold swapE; rw [if_neg h, if_neg h2, if_neg h3]
theorem swapE_ok {m : Nat} {a t : Int} (h : swapE m a t = 0) : 0 ≤ a ∧ a + 96 ≤ m ∧ 0 ≤ t ∧ t + 96 ≤ m ∧ ¬ (a - t < 96 ∧ t - a < 96) := by
  by_cases h1 : placeN m a 96 ≠ 0
  · rw [swapE_1 h1] at h; exact absurd h h1
  · by_cases h2 : placeN m t 96 ≠ 0
    · rw [swapE_2 h1 h2] at h; exact absurd h h2
    · by_cases h3 : a - t < 96 ∧ t - a < 96
      · rw [swapE_3 h1 h2 h3] at h; omega
      · have := placeN_0 (show placeN m a 96 = 0 by omega)
        have := placeN_0 (show placeN m t 96 = 0 by omega)
        exact ⟨by omega, by omega, by omega, by omega, h3⟩
def swp (xs : List Nat) (a t : Nat) : List Nat := lay (lay xs a (cut xs t 96)) t (cut xs a 96)
def swapX (xs : List Nat) (m : Nat) (a t : Int) : List Nat := if swapE m a t = 0 then swp xs a.toNat t.toNat else xs
theorem swapX_1 {xs : List Nat} {m : Nat} {a t : Int} (h : swapE m a t ≠ 0) : swapX xs m a t = xs := by unfold swapX; rw [if_neg h]
theorem swapX_2 {xs : List Nat} {m : Nat} {a t : Int} (h : swapE m a t = 0) : swapX xs m a t = swp xs a.toNat t.toNat := by unfold swapX; rw [if_pos h]
theorem swp_len {xs : List Nat} {a t : Nat} (ha : a + 96 ≤ xs.length) (ht : t + 96 ≤ xs.length) : (swp xs a t).length = xs.length := by
  have c1 := cut_len ha
  have c2 := cut_len ht
  unfold swp
  rw [lay_len (by rw [lay_len (by omega)]; omega), lay_len (by omega)]
theorem swapX_len {xs : List Nat} {m : Nat} {a t : Int} (hm : xs.length = m) : (swapX xs m a t).length = m := by
  by_cases h : swapE m a t = 0
  · have := swapE_ok h
    rw [swapX_2 h, swp_len (by omega) (by omega), hm]
  · rw [swapX_1 h]; exact hm
theorem swapX_byte {xs : List Nat} {m : Nat} {a t : Int} (hm : xs.length = m) (hx : Byte xs) : Byte (swapX xs m a t) := by
  by_cases h : swapE m a t = 0
  · have := swapE_ok h
    have c1 : (cut xs a.toNat 96).length = 96 := cut_len (by omega)
    have c2 : (cut xs t.toNat 96).length = 96 := cut_len (by omega)
    rw [swapX_2 h]
    exact lay_byte (lay_byte hx (cut_byte hx) (by omega)) (cut_byte hx) (by rw [lay_len (by omega)]; omega)
  · rw [swapX_1 h]; exact hx
theorem swp_ins {xs : List Nat} {m : Nat} {a t : Int} (hm : xs.length = m) : (if swapE m a t = 0 then swp (ins xs) (5 + a.toNat) (5 + t.toNat) else ins xs) = ins (swapX xs m a t) := by
  split
  · rename_i h
    have := swapE_ok h
    have c1 : (cut xs a.toNat 96).length = 96 := cut_len (by omega)
    have c2 : (cut xs t.toNat 96).length = 96 := cut_len (by omega)
    rw [swapX_2 h]
    unfold swp
    rw [ins_cut (by omega), ins_cut (by omega)]
    have e1 : lay (ins xs) (5 + a.toNat) (cut xs t.toNat 96) = ins (lay xs a.toNat (cut xs t.toNat 96)) := lay_in (A := pre5) (by omega)
    rw [e1]
    exact lay_in (A := pre5) (by rw [lay_len (by omega)]; omega)
  · rename_i h; rw [swapX_1 h]
/-- The first k bytes from o on are 255. -/
def clTo (L : List Nat) (o : Nat) : Nat → List Nat
  | 0 => L
  | k + 1 => (clTo L o k).set (o + k) 255
def FFs : List Nat := List.replicate 96 255
theorem FFs_len : FFs.length = 96 := by simp [FFs]
theorem FFs_byte : Byte FFs := all_small (by decide) (by decide +kernel)
theorem clTo_len (L : List Nat) (o : Nat) : ∀ k, (clTo L o k).length = L.length
  | 0 => rfl
  | k + 1 => by simp [clTo, clTo_len L o k]
theorem clTo_wd {L : List Nat} {o : Nat} : ∀ k, o + k ≤ L.length → ∀ j, wd (clTo L o k) j = if o ≤ j ∧ j < o + k then 255 else wd L j
  | 0, _, j => by rw [if_neg (by omega)]; rfl
  | k + 1, h, j => by
    have ih := clTo_wd (L := L) (o := o) k (by omega) j
    have hl := clTo_len L o k
    show wd ((clTo L o k).set (o + k) 255) j = _
    rw [wd_set, hl, ih]
    by_cases h1 : o + k = j ∧ j < L.length
    · rw [if_pos h1, if_pos (by omega)]
    · rw [if_neg h1]
      by_cases h2 : o ≤ j ∧ j < o + k
      · rw [if_pos h2, if_pos (by omega)]
      · rw [if_neg h2, if_neg (by omega)]
theorem clTo_eq {L : List Nat} {o k : Nat} (hk : k = 96) (h : o + 96 ≤ L.length) : clTo L o k = lay L o FFs := by
  subst hk
  have hf := FFs_len
  apply wd_ext (by rw [clTo_len, lay_len (by omega)])
  intro j _
  rw [clTo_wd 96 h, lay_wd (by omega), hf]
  by_cases h2 : o ≤ j ∧ j < o + 96
  · rw [if_pos h2, if_pos h2]
    unfold FFs wd
    rw [List.getD_eq_getElem?_getD, List.getElem?_replicate, if_pos (by omega)]; rfl
  · rw [if_neg h2, if_neg h2]
def clX (xs : List Nat) (m : Nat) (a : Int) : List Nat := if placeN m a 96 = 0 then lay xs a.toNat FFs else xs
theorem clX_1 {xs : List Nat} {m : Nat} {a : Int} (h : placeN m a 96 ≠ 0) : clX xs m a = xs := by unfold clX; rw [if_neg h]
theorem clX_2 {xs : List Nat} {m : Nat} {a : Int} (h : placeN m a 96 = 0) : clX xs m a = lay xs a.toNat FFs := by unfold clX; rw [if_pos h]
theorem clX_len {xs : List Nat} {m : Nat} {a : Int} (hm : xs.length = m) : (clX xs m a).length = m := by
  have hf := FFs_len
  by_cases h : placeN m a 96 = 0
  · have := placeN_0 h; rw [clX_2 h, lay_len (by omega), hm]
  · rw [clX_1 h]; exact hm
theorem clX_byte {xs : List Nat} {m : Nat} {a : Int} (hm : xs.length = m) (hx : Byte xs) : Byte (clX xs m a) := by
  have hf := FFs_len
  by_cases h : placeN m a 96 = 0
  · have := placeN_0 h; rw [clX_2 h]; exact lay_byte hx FFs_byte (by omega)
  · rw [clX_1 h]; exact hx
theorem cl_ins {xs : List Nat} {m : Nat} {a : Int} (hm : xs.length = m) : (if placeN m a 96 = 0 then lay (ins xs) (5 + a.toNat) FFs else ins xs) = ins (clX xs m a) := by
  have hf := FFs_len
  split
  · rename_i h; have := placeN_0 h; rw [clX_2 h]; exact lay_in (A := pre5) (by omega)
  · rename_i h; rw [clX_1 h]
theorem clTo_all {k : Nat} (hk : k = 96) : clTo (List.replicate 96 0) 0 k = FFs := by
  rw [clTo_eq hk (by simp)]
  simp [lay, FFs]
def pick2 (a t : Int) (k : Nat) : Int := if k = 0 then a else t
theorem swap_inv {m : Nat} {a t : Int} {k : Nat} (hk : k < 2) (ha : 0 < k → placeN m a 96 = 0) (pz : placeN m (pick2 a t k) 96 = 0) : (0 < k + 1 → placeN m a 96 = 0) ∧ (1 < k + 1 → placeN m t 96 = 0) := by
  rcases k with _ | _ | k
  · exact ⟨fun _ => pz, fun h => by omega⟩
  · exact ⟨fun _ => ha (by omega), fun _ => pz⟩
  · omega
theorem swapE_at {m : Nat} {a t : Int} {k : Nat} (hk : k < 2) (ha : 0 < k → placeN m a 96 = 0) (pz : placeN m (pick2 a t k) 96 ≠ 0) : swapE m a t = placeN m (pick2 a t k) 96 := by
  rcases k with _ | _ | k
  · exact swapE_1 pz
  · have := ha (by omega)
    exact swapE_2 (by omega) pz
  · omega
end Go.Fr1
