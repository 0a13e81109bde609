/- A frame's bytes: plain laws. -/
import Derived.Test.YtafgmocdnjdmoaaDoorDist
namespace Go.Fr1
def nibN (f : List Nat) (j : Nat) : Nat := wd f (j / 3) / 16 ^ (2 - j % 3) % 16
def byteN (f : List Nat) (i : Nat) : Nat := 16 * nibN f (2 * i) + nibN f (2 * i + 1)
@[irreducible] def bytesN (f : List Nat) : List Nat := (List.range 96).map (byteN f)
theorem bytesN_len (f : List Nat) : (bytesN f).length = 96 := by unfold bytesN; simp
theorem bytesN_wd (f : List Nat) (i : Nat) : wd (bytesN f) i = if i < 96 then byteN f i else 0 := by
  unfold bytesN wd
  simp only [List.getD_eq_getElem?_getD, List.getElem?_map]
  by_cases h : i < 96
  · simp [h]
  · simp [h]
theorem byteN_lt (f : List Nat) (i : Nat) : byteN f i < 256 := by unfold byteN nibN; omega
theorem byteN_0 {f : List Nat} (k : Nat) (h : wd f (2 * k) < 4096) : byteN f (3 * k) = wd f (2 * k) / 16 := by
  unfold byteN nibN
  rw [show 2 * (3 * k) / 3 = 2 * k by omega, show 2 * (3 * k) % 3 = 0 by omega, show (2 * (3 * k) + 1) / 3 = 2 * k by omega, show (2 * (3 * k) + 1) % 3 = 1 by omega]
  simp only [Nat.reduceSub, Nat.reducePow]
  omega
theorem byteN_1 {f : List Nat} (k : Nat) (h : wd f (2 * k + 1) < 4096) : byteN f (3 * k + 1) = wd f (2 * k) % 16 * 16 + wd f (2 * k + 1) / 256 := by
  unfold byteN nibN
  rw [show 2 * (3 * k + 1) / 3 = 2 * k by omega, show 2 * (3 * k + 1) % 3 = 2 by omega, show (2 * (3 * k + 1) + 1) / 3 = 2 * k + 1 by omega, show (2 * (3 * k + 1) + 1) % 3 = 0 by omega]
  simp only [Nat.reduceSub, Nat.reducePow]
  omega
theorem byteN_2 {f : List Nat} (k : Nat) : byteN f (3 * k + 2) = wd f (2 * k + 1) % 256 := by
  unfold byteN nibN
  rw [show 2 * (3 * k + 2) / 3 = 2 * k + 1 by omega, show 2 * (3 * k + 2) % 3 = 1 by omega, show (2 * (3 * k + 2) + 1) / 3 = 2 * k + 1 by omega, show (2 * (3 * k + 2) + 1) % 3 = 2 by omega]
  simp only [Nat.reduceSub, Nat.reducePow]
  omega
theorem saveTo_wd {L f : List Nat} {o : Nat} (hL : Byte L) (hf : ∀ i, wd f i < 4096) : ∀ k, o + 3 * k ≤ L.length → ∀ j, wd (saveTo L o f (2 * k)) j = if o ≤ j ∧ j < o + 3 * k then byteN f (j - o) else wd L j
  | 0, _, j => by simp [saveTo]; omega
  | k + 1, hl, j => by
    have ih := saveTo_wd (o := o) hL hf k (by omega)
    have hX := saveTo_byte hL o hf (2 * k) (o + (3 * k + 1))
    have hlX := saveTo_len L o f (2 * k)
    have w0 := hf (2 * k)
    have w1 := hf (2 * k + 1)
    have e1 : saveTo L o f (2 * (k + 1)) = setW (setW (saveTo L o f (2 * k)) o (2 * k) (wd f (2 * k))) o (2 * k + 1) (wd f (2 * k + 1)) := rfl
    rw [e1]
    generalize saveTo L o f (2 * k) = X at *
    unfold setW
    rw [if_pos (show 2 * k % 2 = 0 by omega), if_neg (show ¬ (2 * k + 1) % 2 = 0 by omega), show 2 * k / 2 * 3 = 3 * k by omega, show (2 * k + 1) / 2 * 3 = 3 * k by omega]
    simp only [wd_set, List.length_set, true_and]
    have b0 := byteN_0 (f := f) k w0
    have b1 := byteN_1 (f := f) k w1
    have b2 := byteN_2 (f := f) k
    by_cases h0 : j = o + 3 * k
    · subst h0
      have e0 : o + 3 * k - o = 3 * k := by omega
      rw [e0, b0]
      repeat' split
      all_goals omega
    · by_cases h1 : j = o + (3 * k + 1)
      · subst h1
        have e0 : o + (3 * k + 1) - o = 3 * k + 1 := by omega
        rw [e0, b1]
        repeat' split
        all_goals omega
      · by_cases h2 : j = o + (3 * k + 2)
        · subst h2
          have e0 : o + (3 * k + 2) - o = 3 * k + 2 := by omega
          rw [e0, b2]
          repeat' split
          all_goals omega
        · rw [if_neg (by omega), if_neg (by omega), if_neg (by omega), if_neg (by omega), ih j]
          by_cases h3 : o ≤ j ∧ j < o + 3 * k
          · rw [if_pos h3, if_pos (by omega)]
          · rw [if_neg h3, if_neg (by omega)]
/-- l lies in L from o on. -/
def lay (L : List Nat) (o : Nat) (l : List Nat) : List Nat := L.take o ++ l ++ L.drop (o + l.length)
theorem lay_len {L l : List Nat} {o : Nat} (h : o + l.length ≤ L.length) : (lay L o l).length = L.length := by simp [lay]; omega
theorem lay_wd {L l : List Nat} {o : Nat} (h : o + l.length ≤ L.length) (j : Nat) : wd (lay L o l) j = if o ≤ j ∧ j < o + l.length then wd l (j - o) else wd L j := by
  unfold wd lay
  simp only [List.getD_eq_getElem?_getD]
  have hto : (L.take o).length = o := by simp; omega
  by_cases h1 : j < o
  · rw [List.append_assoc, List.getElem?_append_left (by omega), if_neg (by omega), List.getElem?_take, if_pos h1]
  · by_cases h2 : j < o + l.length
    · rw [List.append_assoc, List.getElem?_append_right (by omega), hto, List.getElem?_append_left (by omega), if_pos (by omega)]
    · rw [List.append_assoc, List.getElem?_append_right (by omega), hto, List.getElem?_append_right (by omega), List.getElem?_drop, if_neg (by omega)]
      congr 2; omega
theorem saveN_lay {L f : List Nat} {o : Nat} (hL : Byte L) (hf : ∀ i, wd f i < 4096) (hl : o + 96 ≤ L.length) : saveN L o f = lay L o (bytesN f) := by
  have hb := bytesN_len f
  apply wd_ext (by rw [saveN_len, lay_len (by omega)])
  intro j hj
  rw [← saveN_eq rfl, show 64 = 2 * 32 from rfl, saveTo_wd hL hf 32 (by omega) j, lay_wd (by omega), hb]
  by_cases h : o ≤ j ∧ j < o + 96
  · rw [if_pos (by omega), if_pos h, bytesN_wd, if_pos (by omega)]
  · rw [if_neg (by omega), if_neg h]
theorem app_l {A M B : List Nat} {j : Nat} (h : j < A.length) : wd (A ++ M ++ B) j = wd A j := by
  unfold wd; rw [List.getD_eq_getElem?_getD, List.getD_eq_getElem?_getD, List.append_assoc, List.getElem?_append_left h]
theorem app_m {A M B : List Nat} {j : Nat} (h : A.length ≤ j) (h2 : j < A.length + M.length) : wd (A ++ M ++ B) j = wd M (j - A.length) := by
  unfold wd; rw [List.getD_eq_getElem?_getD, List.getD_eq_getElem?_getD, List.append_assoc, List.getElem?_append_right h, List.getElem?_append_left (by omega)]
theorem app_r {A M B : List Nat} {j : Nat} (h2 : A.length + M.length ≤ j) : wd (A ++ M ++ B) j = wd B (j - A.length - M.length) := by
  unfold wd; rw [List.getD_eq_getElem?_getD, List.getD_eq_getElem?_getD, List.append_assoc, List.getElem?_append_right (by omega), List.getElem?_append_right (by omega)]
theorem lay_in {A xs B l : List Nat} {a : Nat} (h : a + l.length ≤ xs.length) : lay (A ++ xs ++ B) (A.length + a) l = A ++ lay xs a l ++ B := by
  have hl := lay_len h
  apply wd_ext
  · rw [lay_len (by simp; omega)]; simp [hl]
  · intro j _
    rw [lay_wd (by simp; omega)]
    by_cases h1 : j < A.length
    · rw [if_neg (by omega), app_l h1, app_l h1]
    · by_cases h2 : j < A.length + xs.length
      · rw [app_m (M := lay xs a l) (by omega) (by omega), lay_wd h]
        by_cases h4 : A.length + a ≤ j ∧ j < A.length + a + l.length
        · rw [if_pos h4, if_pos (by omega)]; congr 1; omega
        · rw [if_neg h4, if_neg (by omega), app_m (by omega) h2]
      · rw [if_neg (by omega), app_r (by omega), app_r (M := lay xs a l) (by omega), hl]
theorem loadTo_wd {L : List Nat} : ∀ k j, wd (loadTo L 0 k) j = if j < k ∧ j < 64 then getW L 0 j else 0
  | 0, j => by
    have : wd (loadTo L 0 0) j = 0 := by unfold loadTo wd; rw [List.getD_eq_getElem?_getD, List.getElem?_replicate]; split <;> simp
    rw [this]; simp
  | k + 1, j => by
    have ih := loadTo_wd (L := L) k j
    have hl := loadTo_len L 0 k
    show wd ((loadTo L 0 k).set k (getW L 0 k)) j = _
    rw [wd_set, hl, ih]
    by_cases h : k = j ∧ j < 64
    · obtain ⟨rfl, h⟩ := h; rw [if_pos ⟨rfl, h⟩, if_pos ⟨by omega, h⟩]
    · rw [if_neg h]
      by_cases h2 : j < k ∧ j < 64
      · rw [if_pos h2, if_pos (by omega)]
      · rw [if_neg h2, if_neg (by omega)]
theorem loadN_wd {L : List Nat} (j : Nat) : wd (loadN L 0) j = if j < 64 then getW L 0 j else 0 := by
  rw [← loadN_eq rfl, loadTo_wd]
  by_cases h : j < 64
  · rw [if_pos ⟨h, h⟩, if_pos h]
  · rw [if_neg (fun q => h q.2), if_neg h]
/-- What was saved is loaded. -/
theorem load_bytes {f L : List Nat} (hl : f.length = 64) (hf : ∀ i, wd f i < 4096) (hL : ∀ i, i < 96 → wd L i = byteN f i) : loadN L 0 = f := by
  apply wd_ext (by rw [loadN_len, hl])
  intro i hi
  rw [loadN_len] at hi
  rw [loadN_wd, if_pos hi]
  unfold getW
  have w := hf i
  by_cases h : i % 2 = 0
  · obtain ⟨k, rfl⟩ : ∃ k, i = 2 * k := ⟨i / 2, by omega⟩
    have w1 := hf (2 * k + 1)
    rw [if_pos h, hL _ (by omega), hL _ (by omega), show 0 + 2 * k / 2 * 3 = 3 * k by omega, show 0 + (2 * k / 2 * 3 + 1) = 3 * k + 1 by omega, byteN_0 k w, byteN_1 k w1]
    omega
  · obtain ⟨k, rfl⟩ : ∃ k, i = 2 * k + 1 := ⟨i / 2, by omega⟩
    rw [if_neg h, hL _ (by omega), hL _ (by omega), show 0 + ((2 * k + 1) / 2 * 3 + 1) = 3 * k + 1 by omega, show 0 + ((2 * k + 1) / 2 * 3 + 2) = 3 * k + 2 by omega, byteN_1 k w, byteN_2 k]
    omega
/-- The first k bytes. -/
def byTo (f : List Nat) : Nat → List Nat
  | 0 => List.replicate 96 0
  | k + 1 => (byTo f k).set k (byteN f k)
theorem byTo_len (f : List Nat) : ∀ k, (byTo f k).length = 96
  | 0 => by simp [byTo]
  | k + 1 => by simp [byTo, byTo_len f k]
theorem byTo_wd (f : List Nat) : ∀ k j, wd (byTo f k) j = if j < k ∧ j < 96 then byteN f j else 0
  | 0, j => by
    have : wd (byTo f 0) j = 0 := by unfold byTo wd; rw [List.getD_eq_getElem?_getD, List.getElem?_replicate]; split <;> simp
    rw [this]; simp
  | k + 1, j => by
    have ih := byTo_wd f k j
    have hl := byTo_len f k
    show wd ((byTo f k).set k (byteN f k)) j = _
    rw [wd_set, hl, ih]
    by_cases h : k = j ∧ j < 96
    · obtain ⟨rfl, h⟩ := h; rw [if_pos ⟨rfl, h⟩, if_pos ⟨by omega, h⟩]
    · rw [if_neg h]
      by_cases h2 : j < k ∧ j < 96
      · rw [if_pos h2, if_pos (by omega)]
      · rw [if_neg h2, if_neg (by omega)]
theorem byTo_eq {f : List Nat} {k : Nat} (h : k = 96) : byTo f k = bytesN f := by
  subst h
  apply wd_ext (by rw [byTo_len, bytesN_len])
  intro j hj
  rw [byTo_len] at hj
  rw [byTo_wd, if_pos ⟨hj, hj⟩, bytesN_wd, if_pos hj]
theorem nib_pow (x r : Nat) (h : r < 3) : x / 2 ^ (8 - r * 4) = x / 16 ^ (2 - r) := by
  rcases r with _ | _ | _ | r
  · rfl
  · rfl
  · rfl
  · omega
def pre5 : List Nat := [1, 2, 3, 4, 5]
def post7 : List Nat := [9, 8, 7, 6, 5, 4, 3]
/-- Within a longer slice. -/
def ins (xs : List Nat) : List Nat := pre5 ++ xs ++ post7
theorem ins_len (xs : List Nat) : (ins xs).length = xs.length + 12 := by simp [ins, pre5, post7]
theorem ins_part (xs : List Nat) : ((ins xs).drop 5).take xs.length = xs := by simp [ins, pre5]
theorem ins_pre (xs : List Nat) : ((ins xs).drop 0).take 5 = pre5 := by simp [ins, pre5]
theorem ins_post (xs : List Nat) : ((ins xs).drop (xs.length + 5)).take 7 = post7 := by
  unfold ins
  rw [List.drop_append, List.drop_eq_nil_of_le (by simp [pre5])]
  simp [pre5, post7]
theorem byte_app {A B : List Nat} (hA : Byte A) (hB : Byte B) : Byte (A ++ B) := by
  intro i
  unfold wd
  rw [List.getD_eq_getElem?_getD]
  by_cases h : i < A.length
  · rw [List.getElem?_append_left h]; have := hA i; rwa [wd, List.getD_eq_getElem?_getD] at this
  · rw [List.getElem?_append_right (by omega)]; have := hB (i - A.length); rwa [wd, List.getD_eq_getElem?_getD] at this
theorem ins_byte {xs : List Nat} (h : Byte xs) : Byte (ins xs) := byte_app (byte_app (all_small (by decide) (by decide)) h) (all_small (by decide) (by decide))
theorem byte_mem {l : List Nat} (h : Byte l) : ∀ n ∈ l, n < 256 := by
  intro n hn
  obtain ⟨i, hi⟩ := List.getElem?_of_mem hn
  have := h i
  rw [wd, List.getD_eq_getElem?_getD, hi] at this
  simpa using this
theorem bytesN_byte (f : List Nat) : Byte (bytesN f) := by
  intro i; rw [bytesN_wd]; split
  · exact byteN_lt f i
  · decide
theorem lay_byte {L l : List Nat} {o : Nat} (hL : Byte L) (hl : Byte l) (h : o + l.length ≤ L.length) : Byte (lay L o l) := by
  intro i; rw [lay_wd h]; split
  · exact hl _
  · exact hL i
/-- What Put makes of some bytes. -/
def putX (xs : List Nat) (m : Nat) (a : Int) (f : List Nat) : List Nat := if placeN m a 96 = 0 ∧ ¬ wideN f then lay xs a.toNat (bytesN f) else xs
theorem putX_len {xs f : List Nat} {m : Nat} {a : Int} (hm : xs.length = m) : (putX xs m a f).length = m := by
  unfold putX; split
  · rename_i h; have := placeN_0 h.1; have := bytesN_len f; rw [lay_len (by omega), hm]
  · exact hm
theorem putX_byte {xs f : List Nat} {m : Nat} {a : Int} (hm : xs.length = m) (hx : Byte xs) : Byte (putX xs m a f) := by
  unfold putX; split
  · rename_i h; have := placeN_0 h.1; have := bytesN_len f; exact lay_byte hx (bytesN_byte f) (by omega)
  · exact hx
theorem putX_1 {xs f : List Nat} {m : Nat} {a : Int} (h : ¬ (placeN m a 96 = 0 ∧ ¬ wideN f)) : putX xs m a f = xs := by unfold putX; rw [if_neg h]
theorem putX_2 {xs f : List Nat} {m : Nat} {a : Int} (h : placeN m a 96 = 0) (h2 : ¬ wideN f) : putX xs m a f = lay xs a.toNat (bytesN f) := by unfold putX; rw [if_pos ⟨h, h2⟩]
theorem putL_ins {xs f : List Nat} {m : Nat} {a : Int} (hm : xs.length = m) (hx : Byte xs) (hf : f.length = 64) : putL (ins xs) 5 m a f = ins (putX xs m a f) := by
  unfold putL putX; split
  · rename_i h
    have h0 := placeN_0 h.1
    have hb := bytesN_len f
    rw [saveN_lay (ins_byte hx) (notwide hf h.2) (by rw [ins_len]; omega)]
    exact lay_in (A := pre5) (by omega)
  · rfl
end Go.Fr1
