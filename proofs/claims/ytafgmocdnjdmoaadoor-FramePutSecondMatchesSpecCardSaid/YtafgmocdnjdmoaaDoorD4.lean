/- Eight frames: plain laws. -/
import Derived.Test.YtafgmocdnjdmoaaDoorByt
import Derived.Test.YtafgmocdnjdmoaaDoorFrm2
import Derived.Test.YtafgmocdnjdmoaaDoorD2
namespace Go.Fr1
open Go.RowKit Go.OB
def fr (G : List Nat) (k : Nat) : List Nat := (G.drop (64 * k)).take 64
theorem fr_len {G : List Nat} (hG : G.length = 512) {k : Nat} (hk : k < 8) : (fr G k).length = 64 := by simp [fr]; omega
theorem fr_wd (G : List Nat) (k i : Nat) : wd (fr G k) i = if i < 64 then wd G (64 * k + i) else 0 := by
  unfold fr wd
  rw [List.getD_eq_getElem?_getD, List.getD_eq_getElem?_getD, List.getElem?_take]
  split
  · rw [List.getElem?_drop]
  · rfl
theorem fr_small {G : List Nat} (h : Small G) (k : Nat) : Small (fr G k) := by
  intro i; rw [fr_wd]; split
  · exact h _
  · decide
theorem fr_cells {w : World} {b : Nat} {G : List Nat} (h : Cells w ⟨b, 0, none⟩ (wds G)) (k : Nat) : Cells w ⟨b, 64 * k, none⟩ (wds (fr G k)) := by
  intro i v hv
  have h2 := (List.getElem?_eq_some_iff.1 hv).1
  have hi : i < 64 := by simp [wds, fr] at h2; omega
  have q := h (64 * k + i) v (by
    rw [← hv]
    simp only [wds, fr, List.getElem?_map, List.getElem?_take, if_pos hi, List.getElem?_drop])
  rw [Addr.add_none] at q ⊢
  rwa [Nat.zero_add] at q
theorem fr_agg (G : List Nat) {k j : Nat} (h : j = k * 64) : ((wds G).drop j).take 64 = wds (fr G k) := by
  subst h
  simp only [wds, fr, List.map_take, List.map_drop, Nat.mul_comm]
def secN (G : List Nat) : Nat → List Nat
  | 0 => []
  | k + 1 => secN G k ++ bytesN (fr G k)
theorem secN_len (G : List Nat) : ∀ k, (secN G k).length = 96 * k
  | 0 => rfl
  | k + 1 => by simp only [secN, List.length_append, secN_len G k, bytesN_len]; omega
theorem secN_byte (G : List Nat) : ∀ k, Byte (secN G k)
  | 0 => byte_nil
  | k + 1 => byte_app (secN_byte G k) (bytesN_byte _)
def save8 (L : List Nat) (o : Nat) (G : List Nat) : Nat → List Nat
  | 0 => L
  | k + 1 => saveN (save8 L o G k) (o + 96 * k) (fr G k)
theorem save8_len (L : List Nat) (o : Nat) (G : List Nat) : ∀ k, (save8 L o G k).length = L.length
  | 0 => rfl
  | k + 1 => by simp only [save8, saveN_len, save8_len L o G k]
def noW (G : List Nat) (k : Nat) : Prop := ∀ j, j < k → ¬ wideN (fr G j)
instance (G : List Nat) (k : Nat) : Decidable (noW G k) := by unfold noW; exact inferInstance
theorem nw {G : List Nat} (hG : G.length = 512) (h : noW G 8) {j : Nat} (hj : j < 8) : ∀ i, wd (fr G j) i < 4096 := notwide (fr_len hG hj) (h j hj)
theorem save8_byte {L G : List Nat} {o : Nat} (hL : Byte L) (hG : G.length = 512) (h : noW G 8) : ∀ k, k ≤ 8 → Byte (save8 L o G k)
  | 0, _ => hL
  | k + 1, hk => saveN_byte (save8_byte hL hG h k (by omega)) _ (nw hG h (by omega))
theorem wd_app (A B : List Nat) (i : Nat) : wd (A ++ B) i = if i < A.length then wd A i else wd B (i - A.length) := by
  unfold wd
  rw [List.getD_eq_getElem?_getD, List.getD_eq_getElem?_getD, List.getD_eq_getElem?_getD]
  split
  · rename_i h; rw [List.getElem?_append_left h]
  · rename_i h; rw [List.getElem?_append_right (by omega)]
theorem save8_lay {L G : List Nat} {o : Nat} (hL : Byte L) (hG : G.length = 512) (h : noW G 8) : ∀ k, k ≤ 8 → o + 96 * k ≤ L.length → save8 L o G k = lay L o (secN G k)
  | 0, _, _ => by simp [save8, secN, lay]
  | k + 1, hk, hl => by
    have ih := save8_lay (o := o) hL hG h k (by omega) (by omega)
    have h1 := secN_len G k
    have h2 := bytesN_len (fr G k)
    have h3 := secN_len G (k + 1)
    show saveN (save8 L o G k) (o + 96 * k) (fr G k) = _
    rw [saveN_lay (save8_byte hL hG h k (by omega)) (nw hG h (by omega)) (by rw [save8_len]; omega), ih]
    have e1 : (lay L o (secN G k)).length = L.length := lay_len (by omega)
    apply wd_ext (by rw [lay_len (by omega), e1, lay_len (by omega)])
    intro j _
    rw [lay_wd (by omega), lay_wd (by omega), lay_wd (by omega)]
    show _ = if _ then wd (secN G k ++ bytesN (fr G k)) (j - o) else _
    rw [wd_app, h1, h2, h3]
    by_cases c1 : o + 96 * k ≤ j ∧ j < o + 96 * k + 96
    · rw [if_pos c1, if_pos (by omega), if_neg (by omega)]
      congr 1; omega
    · rw [if_neg c1]
      by_cases c2 : o ≤ j ∧ j < o + 96 * k
      · rw [if_pos c2, if_pos (by omega), if_pos (by omega)]
      · rw [if_neg c2, if_neg (by omega)]
def sec (m : Nat) (a : Int) (G : List Nat) : Prop := placeN m a 768 = 0 ∧ noW G 8
instance (m : Nat) (a : Int) (G : List Nat) : Decidable (sec m a G) := by unfold sec; exact inferInstance
def put2E (m : Nat) (a : Int) (G : List Nat) : Int := if placeN m a 768 ≠ 0 then placeN m a 768 else if noW G 8 then 0 else 9
def put2L (L : List Nat) (o m : Nat) (a : Int) (G : List Nat) : List Nat := if sec m a G then save8 L (o + a.toNat) G 8 else L
def put2X (xs : List Nat) (m : Nat) (a : Int) (G : List Nat) : List Nat := if sec m a G then lay xs a.toNat (secN G 8) else xs
theorem p2_1 {m : Nat} {a : Int} {G : List Nat} (h : placeN m a 768 ≠ 0) : put2E m a G = placeN m a 768 ∧ ∀ L o, put2L L o m a G = L ∧ put2X L m a G = L :=
  ⟨by unfold put2E; rw [if_pos h], fun L o => ⟨by unfold put2L; rw [if_neg (fun q => h q.1)], by unfold put2X; rw [if_neg (fun q => h q.1)]⟩⟩
theorem p2_2 {m : Nat} {a : Int} {G : List Nat} (h : ¬ placeN m a 768 ≠ 0) (h2 : ¬ noW G 8) : put2E m a G = 9 ∧ ∀ L o, put2L L o m a G = L ∧ put2X L m a G = L :=
  ⟨by unfold put2E; rw [if_neg h, if_neg h2], fun L o => ⟨by unfold put2L; rw [if_neg (fun q => h2 q.2)], by unfold put2X; rw [if_neg (fun q => h2 q.2)]⟩⟩
theorem p2_3 {m : Nat} {a : Int} {G : List Nat} (h : ¬ placeN m a 768 ≠ 0) (h2 : noW G 8) : put2E m a G = 0 ∧ ∀ L o, put2L L o m a G = save8 L (o + a.toNat) G 8 ∧ put2X L m a G = lay L a.toNat (secN G 8) :=
  ⟨by unfold put2E; rw [if_neg h, if_pos h2], fun L o => ⟨by unfold put2L; rw [if_pos ⟨by omega, h2⟩], by unfold put2X; rw [if_pos ⟨by omega, h2⟩]⟩⟩
theorem put2X_len {xs G : List Nat} {m : Nat} {a : Int} (hm : xs.length = m) : (put2X xs m a G).length = m := by
  unfold put2X; split
  · rename_i h; have := placeN_0 h.1; have := secN_len G 8; rw [lay_len (by omega), hm]
  · exact hm
theorem put2X_byte {xs G : List Nat} {m : Nat} {a : Int} (hm : xs.length = m) (hx : Byte xs) : Byte (put2X xs m a G) := by
  unfold put2X; split
  · rename_i h; have := placeN_0 h.1; have := secN_len G 8; exact lay_byte hx (secN_byte G 8) (by omega)
  · exact hx
theorem put2L_ins {xs G : List Nat} {m : Nat} {a : Int} (hm : xs.length = m) (hx : Byte xs) (hG : G.length = 512) : put2L (ins xs) 5 m a G = ins (put2X xs m a G) := by
  unfold put2L put2X; split
  · rename_i h
    have h0 := placeN_0 h.1
    have hb := secN_len G 8
    rw [save8_lay (ins_byte hx) hG h.2 8 (by decide) (by rw [ins_len]; omega)]
    exact lay_in (A := pre5) (by omega)
  · rfl
end Go.Fr1
