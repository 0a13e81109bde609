/- Chapter 1 in plain Lean: words, frames, checks. No program in sight. -/
namespace Go.Fr1

/-- The number of ones among the low f bits. -/
def popF : Nat → Nat → Nat
  | 0, _ => 0
  | f + 1, n => n % 2 + popF f (n / 2)
def pop (n : Nat) : Nat := popF 16 n
def oddN (n : Nat) : Prop := pop n % 2 = 1
instance (n : Nat) : Decidable (oddN n) := by unfold oddN; exact inferInstance

theorem popF_le : ∀ (f n : Nat), popF f n ≤ f
  | 0, _ => Nat.le_refl _
  | f + 1, n => by have := popF_le f (n / 2); have := Nat.mod_lt n (show 0 < 2 by decide); unfold popF; omega
theorem popF_split : ∀ (a b n : Nat), popF (a + b) n = popF a (n % 2 ^ a) + popF b (n / 2 ^ a)
  | 0, b, n => by simp [popF]
  | a + 1, b, n => by
    have ih := popF_split a b (n / 2)
    rw [show a + 1 + b = (a + b) + 1 by omega, popF, popF, ih]
    have e1 : n / 2 % 2 ^ a = n % 2 ^ (a + 1) / 2 := by
      rw [Nat.pow_succ, Nat.mul_comm, Nat.mod_mul_right_div_self]
    have e2 : n / 2 / 2 ^ a = n / 2 ^ (a + 1) := by
      rw [Nat.div_div_eq_div_mul, Nat.pow_succ, Nat.mul_comm]
    have e3 : n % 2 ^ (a + 1) % 2 = n % 2 := Nat.mod_mod_of_dvd _ ⟨2 ^ a, by rw [Nat.pow_succ, Nat.mul_comm]⟩
    rw [e1, e2, e3]; omega
theorem popF_zero : ∀ f, popF f 0 = 0
  | 0 => rfl
  | f + 1 => by simp [popF, popF_zero f]

def popTab : ByteArray := ⟨(List.range 256).map (fun i => (popF 8 i).toUInt8) |>.toArray⟩
theorem popTab_get : ∀ i : Fin 256, popTab[i.val]? = some ((popF 8 i.val).toUInt8) ∧ ((popF 8 i.val).toUInt8).toNat = popF 8 i.val := by decide +kernel
theorem popTab_at {i : Nat} (h : i < 256) : popTab[i]? = some ((popF 8 i).toUInt8) := (popTab_get ⟨i, h⟩).1
theorem popTab_nat {i : Nat} (h : i < 256) : ((popF 8 i).toUInt8).toNat = popF 8 i := (popTab_get ⟨i, h⟩).2
theorem pop_eq {n : Nat} : popF 8 (n / 256) + popF 8 (n % 256) = pop n := by
  have := popF_split 8 8 n
  unfold pop
  simp at this
  omega

/-- The word with some data. -/
def wordN (d : Nat) : Nat := if oddN d then d else d + 2048
end Go.Fr1
namespace Go.Fr1
/-- Word i of a frame. -/
def wd (f : List Nat) (i : Nat) : Nat := f.getD i 0
def Small (f : List Nat) : Prop := ∀ i, wd f i < 65536
def numN (f : List Nat) : Nat := wd f 1 % 2048 + wd f 2 % 2048 * 2048
/-- The exclusive or of the data of the words 1 to k. -/
def xorTo (f : List Nat) : Nat → Nat
  | 0 => 0
  | k + 1 => xorTo f k ^^^ (wd f (k + 1) % 2048)
def sumN (f : List Nat) : Nat := xorTo f 60
theorem xorTo_lt (f : List Nat) : ∀ k, xorTo f k < 2048
  | 0 => by simp [xorTo]
  | k + 1 => by
    have h1 := xorTo_lt f k
    have h2 : wd f (k + 1) % 2048 < 2048 := Nat.mod_lt _ (by decide)
    exact Nat.xor_lt_two_pow (n := 11) h1 h2
/-- One bit of the check's register. -/
def bitStep (n b : Nat) : Nat := if decide (2097152 ≤ n) == decide (b = 1) then n * 2 % 4194304 else (n * 2 % 4194304) ^^^ 2097167
def crcBits (n w : Nat) : Nat → Nat
  | 0 => n
  | j + 1 => bitStep (crcBits n w j) (w / 2 ^ (11 - j) % 2)
def crcTo (f : List Nat) : Nat → Nat
  | 0 => 0
  | k + 1 => crcBits (crcTo f k) (wd f k) 12
def checkN (f : List Nat) : Nat := crcTo f 62
theorem bitStep_lt (n b : Nat) : bitStep n b < 4194304 := by
  unfold bitStep
  have h : n * 2 % 4194304 < 4194304 := Nat.mod_lt _ (by decide)
  split
  · exact h
  · exact Nat.xor_lt_two_pow (n := 22) h (by decide)
theorem crcBits_lt {n w : Nat} (h : n < 4194304) : ∀ j, crcBits n w j < 4194304
  | 0 => h
  | _ + 1 => bitStep_lt _ _
theorem crcTo_lt (f : List Nat) : ∀ k, crcTo f k < 4194304
  | 0 => by simp [crcTo]
  | k + 1 => crcBits_lt (crcTo_lt f k) 12
theorem bitStep_eq {n b : Nat} (h : (!(decide (2097152 ≤ n) == decide (b = 1))) = false) : bitStep n b = n * 2 % 4194304 := by
  unfold bitStep; rw [if_pos (by simpa using h)]
theorem bitStep_ne {n b : Nat} (h : (!(decide (2097152 ≤ n) == decide (b = 1))) = true) : bitStep n b = (n * 2 % 4194304) ^^^ 2097167 := by
  unfold bitStep; rw [if_neg (by simpa using h)]
theorem crcBits_eq {n w j : Nat} (h : (!(decide (2097152 ≤ crcBits n w j) == decide (w / 2 ^ (11 - j) % 2 = 1))) = false) : crcBits n w (j + 1) = crcBits n w j * 2 % 4194304 := bitStep_eq h
theorem crcBits_ne {n w j : Nat} (h : (!(decide (2097152 ≤ crcBits n w j) == decide (w / 2 ^ (11 - j) % 2 = 1))) = true) : crcBits n w (j + 1) = (crcBits n w j * 2 % 4194304) ^^^ 2097167 := bitStep_ne h
def wideN (f : List Nat) : Prop := ∃ i, i < 64 ∧ 4095 < wd f i
instance (f : List Nat) : Decidable (wideN f) := by unfold wideN; exact inferInstance
theorem upto_succ {P : Nat → Prop} {k : Nat} (h : ∀ i, i < k → P i) (hk : P k) : ∀ i, i < k + 1 → P i := fun i hi => by
  rcases Nat.lt_succ_iff_lt_or_eq.1 hi with h1 | h1
  · exact h i h1
  · subst h1; exact hk
end Go.Fr1
namespace Go.Fr1
def tab : List Nat := [583, 1464, 2631, 3512]
def fin1 (f : List Nat) : List Nat := f.set 0 (wd tab (numN f % 4))
def fin2 (f : List Nat) : List Nat := (fin1 f).set 61 (wordN (sumN (fin1 f)))
def fin3 (f : List Nat) : List Nat := (fin2 f).set 62 (wordN (checkN (fin2 f) / 2048))
def finN (f : List Nat) : List Nat := (fin3 f).set 63 (wordN (checkN (fin2 f) % 2048))
theorem wd_set (f : List Nat) (i j x : Nat) : wd (f.set i x) j = if i = j ∧ j < f.length then x else wd f j := by
  unfold wd
  simp only [List.getD_eq_getElem?_getD, List.getElem?_set]
  by_cases h : i = j
  · subst h
    by_cases h2 : i < f.length
    · simp [h2]
    · simp [h2]
  · simp [h]
theorem Small.set {f : List Nat} (h : Small f) (i : Nat) {x : Nat} (hx : x < 65536) : Small (f.set i x) := by
  intro j; rw [wd_set]; split
  · exact hx
  · exact h j
theorem tab_lt (j : Nat) : wd tab j < 4096 := by
  rcases j with _ | _ | _ | _ | j <;> simp [wd, tab]
theorem wordN_lt {d : Nat} (h : d < 2048) : wordN d < 4096 := by unfold wordN; split <;> omega
theorem numN_lt (f : List Nat) : numN f < 4194304 := by unfold numN; omega
theorem sumN_lt (f : List Nat) : sumN f < 2048 := xorTo_lt f 60
theorem checkN_lt (f : List Nat) : checkN f < 4194304 := crcTo_lt f 62
theorem fin1_small {f : List Nat} (h : Small f) : Small (fin1 f) := h.set 0 (by have := tab_lt (numN f % 4); omega)
theorem fin2_small {f : List Nat} (h : Small f) : Small (fin2 f) := (fin1_small h).set 61 (by have := wordN_lt (sumN_lt (fin1 f)); omega)
theorem fin3_small {f : List Nat} (h : Small f) : Small (fin3 f) := (fin2_small h).set 62 (by have := checkN_lt (fin2 f); have := wordN_lt (d := checkN (fin2 f) / 2048) (by omega); omega)
theorem finN_small {f : List Nat} (h : Small f) : Small (finN f) := (fin3_small h).set 63 (by have := wordN_lt (d := checkN (fin2 f) % 2048) (by omega); omega)
theorem fin1_len (f : List Nat) : (fin1 f).length = f.length := by simp [fin1]
theorem fin2_len (f : List Nat) : (fin2 f).length = f.length := by simp [fin2, fin1_len]
theorem fin3_len (f : List Nat) : (fin3 f).length = f.length := by simp [fin3, fin2_len]
theorem finN_len (f : List Nat) : (finN f).length = f.length := by simp [finN, fin3_len]

/-- A new frame, before it is finished: the first k data are in. -/
def new0 (n : Nat) : List Nat := ((List.replicate 64 0).set 1 (wordN (n % 2048))).set 2 (wordN (n / 2048))
def newTo (n : Nat) (d : List Nat) : Nat → List Nat
  | 0 => new0 n
  | k + 1 => (newTo n d k).set (3 + k) (wordN (wd d k))
@[irreducible] def newF (n : Nat) (d : List Nat) : List Nat := newTo n d 58
def newN (n : Nat) (d : List Nat) : List Nat := finN (newF n d)
theorem newF_eq {n : Nat} {d : List Nat} {k : Nat} (h : k = 58) : newTo n d k = newF n d := by subst h; unfold newF; rfl
theorem newTo_len (n : Nat) (d : List Nat) : ∀ k, (newTo n d k).length = 64
  | 0 => by simp [newTo, new0]
  | k + 1 => by simp [newTo, newTo_len n d k]
theorem zero_small : Small (List.replicate 64 0) := by
  intro i; unfold wd; rw [List.getD_eq_getElem?_getD, List.getElem?_replicate]; split <;> simp
theorem newTo_small {n : Nat} {d : List Nat} (hn : n < 4194304) : ∀ k, (∀ i, i < k → wd d i < 2048) → Small (newTo n d k)
  | 0, _ => (zero_small.set 1 (by have := wordN_lt (d := n % 2048) (by omega); omega)).set 2 (by have := wordN_lt (d := n / 2048) (by omega); omega)
  | k + 1, h => (newTo_small hn k (fun i hi => h i (by omega))).set _ (by have := wordN_lt (h k (by omega)); omega)
def zero64 : List Nat := List.replicate 64 0
def okD (x : Int) : Prop := 0 ≤ x ∧ x ≤ 2047
instance (x : Int) : Decidable (okD x) := by unfold okD; exact inferInstance
def okAll (d : List Int) : Prop := ∀ i, i < 58 → okD (d.getD i 0)
instance (d : List Int) : Decidable (okAll d) := decidable_of_iff (¬ ∃ i, i < 58 ∧ ¬ okD (d.getD i 0)) ⟨fun h i hi => Decidable.byContradiction fun hn => h ⟨i, hi, hn⟩, fun h ⟨i, hi, hn⟩ => hn (h i hi)⟩
def newR (n : Int) (d : List Int) : List Nat × Int :=
  if n < 0 ∨ 4194304 ≤ n then (zero64, 9) else if d.length ≠ 58 then (zero64, 3)
  else if okAll d then (newN n.toNat (d.map Int.toNat), 0) else (zero64, 9)
theorem wd_toNat (d : List Int) (i : Nat) : wd (d.map Int.toNat) i = (d.getD i 0).toNat := by
  unfold wd
  simp only [List.getD_eq_getElem?_getD, List.getElem?_map]
  cases d[i]? <;> simp

/-! ### Bytes -/
def setW (L : List Nat) (o i w : Nat) : List Nat :=
  if i % 2 = 0 then (L.set (o + i / 2 * 3) (w / 16)).set (o + (i / 2 * 3 + 1)) (w % 16 * 16 + wd L (o + (i / 2 * 3 + 1)) % 16)
  else (L.set (o + (i / 2 * 3 + 1)) (wd L (o + (i / 2 * 3 + 1)) / 16 * 16 + w / 256)).set (o + (i / 2 * 3 + 2)) (w % 256)
def getW (L : List Nat) (o i : Nat) : Nat :=
  if i % 2 = 0 then wd L (o + i / 2 * 3) * 16 + wd L (o + (i / 2 * 3 + 1)) / 16
  else wd L (o + (i / 2 * 3 + 1)) % 16 * 256 + wd L (o + (i / 2 * 3 + 2))
def saveTo (L : List Nat) (o : Nat) (f : List Nat) : Nat → List Nat
  | 0 => L
  | k + 1 => setW (saveTo L o f k) o k (wd f k)
def loadTo (L : List Nat) (o : Nat) : Nat → List Nat
  | 0 => List.replicate 64 0
  | k + 1 => (loadTo L o k).set k (getW L o k)
@[irreducible] def loadN (L : List Nat) (o : Nat) : List Nat := loadTo L o 64
theorem loadN_eq {L : List Nat} {o k : Nat} (h : k = 64) : loadTo L o k = loadN L o := by subst h; unfold loadN; rfl
@[irreducible] def saveN (L : List Nat) (o : Nat) (f : List Nat) : List Nat := saveTo L o f 64
theorem saveN_eq {L : List Nat} {o : Nat} {f : List Nat} {k : Nat} (h : k = 64) : saveTo L o f k = saveN L o f := by subst h; unfold saveN; rfl
def Byte (L : List Nat) : Prop := ∀ i, wd L i < 256
theorem setW_len (L : List Nat) (o i w : Nat) : (setW L o i w).length = L.length := by unfold setW; split <;> simp
theorem Byte.set {L : List Nat} (h : Byte L) (i : Nat) {x : Nat} (hx : x < 256) : Byte (L.set i x) := by
  intro j; rw [wd_set]; split
  · exact hx
  · exact h j
theorem setW_byte {L : List Nat} (h : Byte L) {o i w : Nat} (hw : w < 4096) : Byte (setW L o i w) := by
  have h1 := h (o + (i / 2 * 3 + 1))
  unfold setW; split
  · exact (h.set _ (by omega)).set _ (by omega)
  · exact (h.set _ (by omega)).set _ (by omega)
theorem getW_lt {L : List Nat} (h : Byte L) (o i : Nat) : getW L o i < 4096 := by
  have h1 := h (o + i / 2 * 3); have h2 := h (o + (i / 2 * 3 + 1)); have h3 := h (o + (i / 2 * 3 + 2))
  unfold getW; split <;> omega
theorem saveTo_len (L : List Nat) (o : Nat) (f : List Nat) : ∀ k, (saveTo L o f k).length = L.length
  | 0 => rfl
  | k + 1 => by simp [saveTo, setW_len, saveTo_len L o f k]
theorem saveTo_byte {L : List Nat} (h : Byte L) (o : Nat) {f : List Nat} (hf : ∀ i, wd f i < 4096) : ∀ k, Byte (saveTo L o f k)
  | 0 => h
  | k + 1 => setW_byte (saveTo_byte h o hf k) (hf k)
theorem loadTo_len (L : List Nat) (o : Nat) : ∀ k, (loadTo L o k).length = 64
  | 0 => by simp [loadTo]
  | k + 1 => by simp [loadTo, loadTo_len L o k]
theorem loadTo_lt {L : List Nat} (h : Byte L) (o : Nat) : ∀ k i, wd (loadTo L o k) i < 4096
  | 0, i => by have := zero_small i; unfold loadTo; unfold wd; rw [List.getD_eq_getElem?_getD, List.getElem?_replicate]; split <;> simp
  | k + 1, i => by
    unfold loadTo; rw [wd_set]; split
    · exact getW_lt h o k
    · exact loadTo_lt h o k i

/-! ### Flaws -/
def wideTo (f : List Nat) : Nat → List Nat
  | 0 => []
  | k + 1 => if 4095 < wd f k then wideTo f k ++ [k, 5] else wideTo f k
def goodW (n : Nat) : Prop := n ≤ 4095 ∧ oddN n
instance (n : Nat) : Decidable (goodW n) := by unfold goodW; exact inferInstance
/-- The flaws of the words 1 to k, behind a first part. -/
def oddsTo (l : List Nat) (f : List Nat) : Nat → List Nat
  | 0 => l
  | k + 1 => if goodW (wd f (k + 1)) then oddsTo l f k else oddsTo l f k ++ [k + 1, 2]
def fl1 (f : List Nat) : List Nat := if wd f 0 = wd tab (numN f % 4) then [] else [0, 1]
@[irreducible] def fl2 (f : List Nat) : List Nat := oddsTo (fl1 f) f 63
theorem fl2_eq {f : List Nat} {k : Nat} (h : k = 63) : oddsTo (fl1 f) f k = fl2 f := by subst h; unfold fl2; rfl
@[irreducible] def wideA (f : List Nat) : List Nat := wideTo f 64
theorem wideA_eq {f : List Nat} {k : Nat} (h : k = 64) : wideTo f k = wideA f := by subst h; unfold wideA; rfl
def fl3 (f : List Nat) : List Nat := if wd f 61 % 2048 = sumN f then fl2 f else fl2 f ++ [61, 3]
def fl4 (f : List Nat) : List Nat := if wd f 62 % 2048 * 2048 + wd f 63 % 2048 = checkN f then fl3 f else fl3 f ++ [62, 4]
def flawsN (f : List Nat) : List Nat := if 0 < (wideA f).length then wideA f else fl4 f
theorem newF_len (n : Nat) (d : List Nat) : (newF n d).length = 64 := by rw [← newF_eq rfl]; exact newTo_len _ _ _
theorem newF_small {n : Nat} {d : List Int} (hn : n < 4194304) (h : ∀ i, i < 58 → okD (d.getD i 0)) : Small (newF n (d.map Int.toNat)) := by
  rw [← newF_eq rfl]
  exact newTo_small hn 58 (fun i hi => by have q := wd_toNat d i; have p := h i hi; have p1 := p.1; have p2 := p.2; omega)
theorem loadN_len (L : List Nat) (o : Nat) : (loadN L o).length = 64 := by rw [← loadN_eq rfl]; exact loadTo_len _ _ _
theorem loadN_lt {L : List Nat} (h : Byte L) (o i : Nat) : wd (loadN L o) i < 4096 := by rw [← loadN_eq rfl]; exact loadTo_lt h o _ i
theorem saveN_len (L : List Nat) (o : Nat) (f : List Nat) : (saveN L o f).length = L.length := by rw [← saveN_eq rfl]; exact saveTo_len _ _ _ _
theorem saveN_byte {L : List Nat} (h : Byte L) (o : Nat) {f : List Nat} (hf : ∀ i, wd f i < 4096) : Byte (saveN L o f) := by rw [← saveN_eq rfl]; exact saveTo_byte h o hf _
theorem newR_1 {n : Int} {d : List Int} (h : n < 0 ∨ 4194304 ≤ n) : newR n d = (zero64, 9) := by unfold newR; rw [if_pos h]
theorem newR_2 {n : Int} {d : List Int} (h : ¬ (n < 0 ∨ 4194304 ≤ n)) (h2 : d.length ≠ 58) : newR n d = (zero64, 3) := by unfold newR; rw [if_neg h, if_pos h2]
theorem newR_3 {n : Int} {d : List Int} (h : ¬ (n < 0 ∨ 4194304 ≤ n)) (h2 : d.length = 58) {k : Nat} (hk : k < 58) (h3 : ¬ okD (d.getD k 0)) : newR n d = (zero64, 9) := by
  unfold newR; rw [if_neg h, if_neg (by simp [h2]), if_neg (fun ha => h3 (ha k hk))]
theorem newR_4 {n : Int} {d : List Int} (h : ¬ (n < 0 ∨ 4194304 ≤ n)) (h2 : d.length = 58) (h3 : ∀ i, i < 58 → okD (d.getD i 0)) : newR n d = (newN n.toNat (d.map Int.toNat), 0) := by
  unfold newR; rw [if_neg h, if_neg (by simp [h2]), if_pos (show okAll d from h3)]
/-- Where a frame, or eight, may lie. -/
def placeN (m : Nat) (a n : Int) : Int := if a < 0 then 9 else if (m : Int) - n < a then 3 else 0
theorem placeN_1 {m : Nat} {a n : Int} (h : a < 0) : placeN m a n = 9 := by unfold placeN; rw [if_pos h]
theorem placeN_2 {m : Nat} {a n : Int} (h : ¬ a < 0) (h2 : (m : Int) - n < a) : placeN m a n = 3 := by unfold placeN; rw [if_neg h, if_pos h2]
theorem placeN_3 {m : Nat} {a n : Int} (h : ¬ a < 0) (h2 : ¬ (m : Int) - n < a) : placeN m a n = 0 := by unfold placeN; rw [if_neg h, if_neg h2]
theorem placeN_0 {m : Nat} {a n : Int} (h : placeN m a n = 0) : 0 ≤ a ∧ a + n ≤ m := by
  unfold placeN at h
  split at h
  · omega
  · split at h
    · omega
    · omega
def putE (m : Nat) (a : Int) (f : List Nat) : Int := if placeN m a 96 ≠ 0 then placeN m a 96 else if wideN f then 9 else 0
def putL (L : List Nat) (o m : Nat) (a : Int) (f : List Nat) : List Nat := if placeN m a 96 = 0 ∧ ¬ wideN f then saveN L (o + a.toNat) f else L
theorem put_1 {m : Nat} {a : Int} {f : List Nat} (L : List Nat) (o : Nat) (h : placeN m a 96 ≠ 0) : putE m a f = placeN m a 96 ∧ putL L o m a f = L := ⟨by unfold putE; rw [if_pos h], by unfold putL; rw [if_neg (fun h2 => h h2.1)]⟩
theorem put_2 {m : Nat} {a : Int} {f : List Nat} (L : List Nat) (o : Nat) (h : ¬ placeN m a 96 ≠ 0) (hw : wideN f) : putE m a f = 9 ∧ putL L o m a f = L := ⟨by unfold putE; rw [if_neg h, if_pos hw], by unfold putL; rw [if_neg (fun h2 => h2.2 hw)]⟩
theorem put_3 {m : Nat} {a : Int} {f : List Nat} (L : List Nat) (o : Nat) (h : ¬ placeN m a 96 ≠ 0) (hw : ¬ wideN f) : putE m a f = 0 ∧ putL L o m a f = saveN L (o + a.toNat) f := ⟨by unfold putE; rw [if_neg h, if_neg hw], by unfold putL; rw [if_pos ⟨by omega, hw⟩]⟩
theorem notwide {f : List Nat} (hl : f.length = 64) (h : ¬ wideN f) (i : Nat) : wd f i < 4096 := by
  by_cases hi : i < 64
  · have q : ¬ 4095 < wd f i := fun h2 => h ⟨i, hi, h2⟩
    omega
  · unfold wd; rw [List.getD_eq_getElem?_getD, List.getElem?_eq_none (by omega)]; simp
theorem wideTo_t {f : List Nat} {k : Nat} (h : 4095 < wd f k) : wideTo f (k + 1) = wideTo f k ++ [k, 5] := by unfold wideTo; rw [if_pos h]; cases k <;> rfl
theorem wideTo_f {f : List Nat} {k : Nat} (h : ¬ 4095 < wd f k) : wideTo f (k + 1) = wideTo f k := by
  show (if _ then _ else _) = _
  rw [if_neg h]
theorem oddsTo_t {l f : List Nat} {k : Nat} (h : goodW (wd f (k + 1))) : oddsTo l f (k + 1) = oddsTo l f k := by
  show (if _ then _ else _) = _
  rw [if_pos h]
theorem oddsTo_f {l f : List Nat} {k : Nat} (h : ¬ goodW (wd f (k + 1))) : oddsTo l f (k + 1) = oddsTo l f k ++ [k + 1, 2] := by
  show (if _ then _ else _) = _
  rw [if_neg h]
theorem wideTo_len (f : List Nat) : ∀ k, (wideTo f k).length ≤ 2 * k ∧ (wideTo f k).length % 2 = 0
  | 0 => by simp [wideTo]
  | k + 1 => by
    have ih := wideTo_len f k
    by_cases h : 4095 < wd f k
    · rw [wideTo_t h]; simp; omega
    · rw [wideTo_f h]; omega
theorem wideA_len (f : List Nat) : (wideA f).length ≤ 128 ∧ (wideA f).length % 2 = 0 := by rw [← wideA_eq rfl]; exact wideTo_len f 64
theorem oddsTo_len (l f : List Nat) : ∀ k, (oddsTo l f k).length ≤ l.length + 2 * k
  | 0 => by simp [oddsTo]
  | k + 1 => by
    have ih := oddsTo_len l f k
    by_cases h : goodW (wd f (k + 1))
    · rw [oddsTo_t h]; omega
    · rw [oddsTo_f h]; simp; omega
theorem fl1_t {f : List Nat} (h : wd f 0 = wd tab (numN f % 4)) : fl1 f = [] := by unfold fl1; rw [if_pos h]
theorem fl1_f {f : List Nat} (h : ¬ wd f 0 = wd tab (numN f % 4)) : fl1 f = [0, 1] := by unfold fl1; rw [if_neg h]
theorem fl1_len (f : List Nat) : (fl1 f).length ≤ 2 := by unfold fl1; split <;> simp
theorem fl2_len (f : List Nat) : (fl2 f).length ≤ 128 := by rw [← fl2_eq rfl]; have := oddsTo_len (fl1 f) f 63; have := fl1_len f; omega
theorem fl3_t {f : List Nat} (h : wd f 61 % 2048 = sumN f) : fl3 f = fl2 f := by unfold fl3; rw [if_pos h]
theorem fl3_f {f : List Nat} (h : ¬ wd f 61 % 2048 = sumN f) : fl3 f = fl2 f ++ [61, 3] := by unfold fl3; rw [if_neg h]
theorem fl3_len' (f : List Nat) : (fl3 f).length ≤ 130 := by have := fl2_len f; unfold fl3; split <;> simp <;> omega
theorem fl4_t {f : List Nat} (h : wd f 62 % 2048 * 2048 + wd f 63 % 2048 = checkN f) : fl4 f = fl3 f := by unfold fl4; rw [if_pos h]
theorem fl4_f {f : List Nat} (h : ¬ wd f 62 % 2048 * 2048 + wd f 63 % 2048 = checkN f) : fl4 f = fl3 f ++ [62, 4] := by unfold fl4; rw [if_neg h]
theorem flawsN_t {f : List Nat} (h : 0 < (wideA f).length) : flawsN f = wideA f := by unfold flawsN; rw [if_pos h]
theorem flawsN_f {f : List Nat} (h : ¬ 0 < (wideA f).length) : flawsN f = fl4 f := by unfold flawsN; rw [if_neg h]
def getR (xs : List Nat) (m : Nat) (a : Int) : List Nat := if placeN m a 96 ≠ 0 then zero64 else loadN (xs.drop a.toNat) 0
theorem getR_e {xs : List Nat} {m : Nat} {a : Int} (h : placeN m a 96 ≠ 0) : getR xs m a = zero64 := by unfold getR; rw [if_pos h]
theorem getR_k {xs : List Nat} {m : Nat} {a : Int} (h : ¬ placeN m a 96 ≠ 0) : getR xs m a = loadN (xs.drop a.toNat) 0 := by unfold getR; rw [if_neg h]
end Go.Fr1
