/- Chapter 1: new frames are sound; a frame with one spoilt word is mended to what it was, or not at all. -/
import Derived.Test.YtafgmocdnjdmoaaDoorAn4
namespace Go.Lf
open Go.RowKit Go.OB Go.Fr1
theorem good_word {d : Nat} (hd : d < 2048) : goodW (wordN d) ∧ wordN d % 2048 = d := by
  have : ∀ d : Fin 2048, goodW (wordN d.val) ∧ wordN d.val % 2048 = d.val := by decide +kernel
  exact this ⟨d, hd⟩
theorem good_uniq {x : Nat} (h : goodW x) : x = wordN (x % 2048) := by
  have key : ∀ b : Bool, ∀ y : Fin 2048, oddN (y.val + if b then 2048 else 0) → (y.val + if b then 2048 else 0) = wordN y.val := by decide +kernel
  have h1 := h.1
  by_cases c : x < 2048
  · have := key false ⟨x, c⟩ (by simpa using h.2)
    rw [Nat.mod_eq_of_lt c]; simpa using this
  · have := key true ⟨x - 2048, by omega⟩ (by have e : x - 2048 + 2048 = x := by omega
                                              simp only [if_true, e]; exact h.2)
    rw [show x % 2048 = x - 2048 by omega]
    simp only [if_true] at this
    omega
theorem num_congr {f g : List Nat} (h1 : wd f 1 = wd g 1) (h2 : wd f 2 = wd g 2) : numN f = numN g := by unfold numN; rw [h1, h2]
theorem xorTo_congr {f g : List Nat} : ∀ k, (∀ i, 1 ≤ i → i ≤ k → wd f i % 2048 = wd g i % 2048) → xorTo f k = xorTo g k
  | 0, _ => rfl
  | k + 1, h => by rw [xorTo, xorTo, xorTo_congr k (fun i h1 h2 => h i h1 (by omega)), h (k + 1) (by omega) (by omega)]
theorem sum_congr {f g : List Nat} (h : ∀ i, 1 ≤ i → i ≤ 60 → wd f i % 2048 = wd g i % 2048) : sumN f = sumN g := xorTo_congr 60 h
theorem crcTo_congr {f g : List Nat} : ∀ k, (∀ i, i < k → wd f i = wd g i) → crcTo f k = crcTo g k
  | 0, _ => rfl
  | k + 1, h => by rw [crcTo, crcTo, crcTo_congr k (fun i h1 => h i (by omega)), h k (by omega)]
theorem check_congr {f g : List Nat} (h : ∀ i, i < 62 → wd f i = wd g i) : checkN f = checkN g := crcTo_congr 62 h
theorem wd_ext {f g : List Nat} (hf : f.length = 64) (hg : g.length = 64) (h : ∀ i, i < 64 → wd f i = wd g i) : f = g := by
  apply List.ext_getElem (hf.trans hg.symm)
  intro i h1 h2
  have := h i (by omega)
  unfold wd at this
  simpa [List.getD_eq_getElem?_getD, h1, h2] using this
theorem wd_ne {f : List Nat} {i j x : Nat} (h : i ≠ j) : wd (f.set i x) j = wd f j := by rw [wd_set, if_neg (fun q => h q.1)]
theorem wd_eq {f : List Nat} {i x : Nat} (h : i < f.length) : wd (f.set i x) i = x := by rw [wd_set, if_pos ⟨rfl, h⟩]
/-- What is finished is sound, if its data words are good. -/
theorem fin_sound {g : List Nat} (hl : g.length = 64) (hg : ∀ i, 1 ≤ i → i ≤ 60 → goodW (wd g i)) : soundN (finN g) := by
  have l1 := (fin1_len g).trans hl
  have l2 := (fin2_len g).trans hl
  have l3 := (fin3_len g).trans hl
  have s1 := sumN_lt (fin1 g)
  have c1 := checkN_lt (fin2 g)
  have a0 : wd (finN g) 0 = wd tab (numN g % 4) := by
    unfold finN fin3; rw [wd_ne (by decide), wd_ne (by decide)]; unfold fin2; rw [wd_ne (by decide)]; unfold fin1; exact wd_eq (by omega)
  have a61 : wd (finN g) 61 = wordN (sumN (fin1 g)) := by unfold finN fin3; rw [wd_ne (by decide), wd_ne (by decide)]; unfold fin2; exact wd_eq (by omega)
  have a62 : wd (finN g) 62 = wordN (checkN (fin2 g) / 2048) := by unfold finN; rw [wd_ne (by decide)]; unfold fin3; exact wd_eq (by omega)
  have a63 : wd (finN g) 63 = wordN (checkN (fin2 g) % 2048) := by unfold finN; exact wd_eq (by omega)
  have rest : ∀ i, 1 ≤ i → i ≤ 60 → wd (finN g) i = wd g i := fun i h1 h2 => by
    unfold finN fin3; rw [wd_ne (by omega), wd_ne (by omega)]; unfold fin2; rw [wd_ne (by omega)]; unfold fin1; rw [wd_ne (by omega)]
  have r1 : ∀ i, i < 62 → wd (finN g) i = wd (fin2 g) i := fun i h => by unfold finN fin3; rw [wd_ne (by omega), wd_ne (by omega)]
  have r2 : ∀ i, 1 ≤ i → i ≤ 60 → wd (fin1 g) i = wd g i := fun i h1 h2 => by unfold fin1; rw [wd_ne (by omega)]
  have hn : numN (finN g) = numN g := num_congr (rest 1 (by decide) (by decide)) (rest 2 (by decide) (by decide))
  have hsum : sumN (finN g) = sumN (fin1 g) := sum_congr fun i h1 h2 => by rw [rest i h1 h2, r2 i h1 h2]
  have hc : checkN (finN g) = checkN (fin2 g) := check_congr r1
  have w61 := good_word s1
  have w62 := good_word (d := checkN (fin2 g) / 2048) (by omega)
  have w63 := good_word (d := checkN (fin2 g) % 2048) (by omega)
  have all : ∀ i, i < 64 → 1 ≤ i → goodW (wd (finN g) i) := by
    intro i h1 h2
    by_cases c : i ≤ 60
    · rw [rest i h2 c]; exact hg i h2 c
    · have : i = 61 ∨ i = 62 ∨ i = 63 := by omega
      rcases this with rfl | rfl | rfl
      · rw [a61]; exact w61.1
      · rw [a62]; exact w62.1
      · rw [a63]; exact w63.1
  refine ⟨?_, by rw [hn]; exact a0, by rw [a61, hsum]; exact w61.2, all, by rw [a62, a63, w62.2, w63.2, hc]; omega⟩
  rintro ⟨i, h1, h2⟩
  by_cases c : i = 0
  · subst c; rw [a0] at h2; have := tab_lt (numN g % 4); omega
  · have := (all i h1 (by omega)).1; omega
theorem newR_ok {n : Int} {d : List Int} (h : (newR n d).2 = 0) : ∃ m : Nat, n = m ∧ m < 4194304 ∧ d.length = 58 ∧ (∀ i, i < 58 → okD (d.getD i 0)) ∧ (newR n d).1 = newN m (d.map Int.toNat) := by
  by_cases c0 : n < 0 ∨ 4194304 ≤ n
  · rw [newR_1 c0] at h; exact absurd h (by decide)
  by_cases c1 : d.length = 58
  · by_cases c2 : okAll d
    · have e := newR_4 c0 c1 c2
      exact ⟨n.toNat, by omega, by omega, c1, c2, by rw [e]⟩
    · have e : newR n d = (zero64, 9) := by unfold newR; rw [if_neg c0, if_neg (by simpa using c1), if_neg c2]
      rw [e] at h; exact absurd h (by decide)
  · rw [newR_2 c0 c1] at h; exact absurd h (by decide)
theorem newN_good {m : Nat} {d : List Int} (hm : m < 4194304) (hd : ∀ i, i < 58 → okD (d.getD i 0)) : ∀ i, 1 ≤ i → i ≤ 60 → goodW (wd (newF m (d.map Int.toNat)) i) := by
  intro i h1 h2
  rw [← newF_eq rfl, newTo_wd m _ 58 (Nat.le_refl _) i]
  by_cases c1 : i = 1
  · rw [if_pos c1]; exact (good_word (by omega)).1
  rw [if_neg c1]
  by_cases c2 : i = 2
  · rw [if_pos c2]; exact (good_word (by omega)).1
  rw [if_neg c2, if_pos (by omega), wd_toNat]
  have := hd (i - 3) (by omega)
  unfold okD at this
  exact (good_word (by omega)).1
theorem newN_sound {m : Nat} {d : List Int} (hm : m < 4194304) (hd : ∀ i, i < 58 → okD (d.getD i 0)) : soundN (newN m (d.map Int.toNat)) := fin_sound (newF_len _ _) (newN_good hm hd)
/-! ### Two sound frames that differ in one word at most -/
theorem xor_cancel (a b : Nat) : a ^^^ b ^^^ b = a := by rw [Nat.xor_assoc, Nat.xor_self, Nat.xor_zero]
theorem xorTo_set {f : List Nat} (hl : f.length = 64) {a w : Nat} (h1 : 1 ≤ a) (ha : a < 64) : ∀ k, a ≤ k → xorTo (f.set a w) k = xorTo f k ^^^ (wd f a % 2048) ^^^ (w % 2048)
  | 0, h => by omega
  | k + 1, h => by
    by_cases e : a = k + 1
    · subst e
      rw [xorTo, xorTo, wd_eq (by omega), xorTo_congr (g := f) k (fun i q1 q2 => by rw [wd_ne (by omega)]), xor_cancel]
    · rw [xorTo, xorTo, wd_ne e, xorTo_set hl h1 ha k (by omega)]
      generalize wd f (k + 1) % 2048 = p
      generalize wd f a % 2048 = q
      generalize w % 2048 = r
      generalize xorTo f k = t
      rw [Nat.xor_assoc t q r, Nat.xor_assoc t (q ^^^ r) p, Nat.xor_comm (q ^^^ r) p, ← Nat.xor_assoc t p, ← Nat.xor_assoc (t ^^^ p) q r]
theorem sum_set {f : List Nat} (hl : f.length = 64) {a w : Nat} (h1 : 1 ≤ a) (h2 : a ≤ 60) : sumN (f.set a w) = sumN f ^^^ (wd f a % 2048) ^^^ (w % 2048) := xorTo_set hl h1 (by omega) 60 h2
/-- The word of a sound frame, told by the others. -/
theorem rep_sound {f : List Nat} (hl : f.length = 64) (hs : soundN f) {a w : Nat} (ha : a < 64) : repN (f.set a w) a = f := by
  obtain ⟨c1, c2, c3, c4, c5⟩ := hs
  have hset : ∀ x, (f.set a w).set a x = f.set a x := fun x => by simp
  have fin : ∀ x, x = wd f a → f.set a x = f := by
    intro x hx
    subst hx
    apply wd_ext (len_set hl _ _) hl
    intro i hi
    by_cases e : a = i
    · subst e; exact wd_eq (by omega)
    · exact wd_ne e
  have n3 := checkN_lt f
  have dm : ∀ i, wd f i % 2048 < 2048 := fun i => Nat.mod_lt _ (by decide)
  by_cases e0 : a = 0
  · subst e0
    rw [repN_0, hset]
    refine fin _ ?_
    rw [num_congr (f := f.set 0 w) (g := f) (wd_ne (by decide)) (wd_ne (by decide)), c2]
  by_cases e1 : a = 61
  · subst e1
    rw [repN_61, hset]
    refine fin _ ?_
    rw [sum_congr (f := f.set 61 w) (g := f) (fun i h1 h2 => by rw [wd_ne (by omega)]), ← c3]
    exact (good_uniq (c4 61 (by decide) (by decide))).symm
  by_cases e2 : a = 62
  · subst e2
    rw [repN_62, hset]
    refine fin _ ?_
    rw [check_congr (f := f.set 62 w) (g := f) (fun i h1 => by rw [wd_ne (by omega)])]
    have := dm 63
    rw [show checkN f / 2048 = wd f 62 % 2048 by omega]
    exact (good_uniq (c4 62 (by decide) (by decide))).symm
  by_cases e3 : a = 63
  · subst e3
    rw [repN_63, hset]
    refine fin _ ?_
    rw [check_congr (f := f.set 63 w) (g := f) (fun i h1 => by rw [wd_ne (by omega)])]
    have := dm 63
    rw [show checkN f % 2048 = wd f 63 % 2048 by omega]
    exact (good_uniq (c4 63 (by decide) (by decide))).symm
  rw [repN_e _ e0 e1 e2 e3, hset]
  refine fin _ ?_
  rw [sum_set hl (by omega) (by omega), wd_eq (by omega), wd_ne e1, c3, xor_cancel, Nat.xor_comm (sumN f), xor_cancel]
  exact (good_uniq (c4 a (by omega) (by omega))).symm
/-- Two sound frames that differ in one word at most are equal. -/
theorem sound_uniq {f : List Nat} (hl : f.length = 64) (hs : soundN f) {a w : Nat} (ha : a < 64) (hg : soundN (f.set a w)) : f.set a w = f := by
  have h1 := rep_sound hl hs (w := w) ha
  have h2 := rep_sound (len_set hl a w) hg (w := w) ha
  have : (f.set a w).set a w = f.set a w := by simp
  rw [this] at h2
  exact h2.symm.trans h1
theorem mend_mem {g : List Nat} {a : Nat} (hs : soundN (repN g a)) : ∀ k, a < k → (a : Int) ∈ (mendTo g k).1
  | 0, h => by omega
  | k + 1, h => by
    unfold mendTo
    by_cases e : a = k
    · subst e; rw [if_pos hs]; exact List.mem_append_right _ List.mem_cons_self
    · have ih := mend_mem hs k (by omega)
      split
      · exact List.mem_append_left _ ih
      · exact ih
theorem mend_one {g : List Nat} {a : Nat} : ∀ k, (mendTo g k).1 = [(a : Int)] → (mendTo g k).2 = repN g a
  | 0, h => by simp [mendTo] at h
  | k + 1, h => by
    unfold mendTo at h ⊢
    split at h
    · rename_i c
      rw [if_pos c]
      have e := congrArg List.length h
      simp only [List.length_append, List.length_cons, List.length_nil] at e
      have e2 : (mendTo g k).1 = [] := List.eq_nil_of_length_eq_zero (by omega)
      simp only [e2, List.nil_append, List.cons.injEq, and_true] at h
      have : k = a := by omega
      rw [this]
    · rename_i c
      rw [if_neg c]
      exact mend_one k h
/-- What mending makes of a sound frame with one spoilt word. -/
theorem mend_spoilt {f : List Nat} (hl : f.length = 64) (hs : soundN f) {a w : Nat} (ha : a < 64) (hw : w < 4096) :
    mendR (f.set a w) = (f, [], true) ∧ f.set a w = f ∨ mendR (f.set a w) = (f, [(a : Int)], true) ∧ f.set a w ≠ f ∨ mendR (f.set a w) = (zero64, [], false) ∧ f.set a w ≠ f := by
  by_cases c0 : soundN (f.set a w)
  · have e := sound_uniq hl hs ha c0
    refine .inl ⟨?_, e⟩
    unfold mendR
    rw [if_pos c0, e]
  · have hne : f.set a w ≠ f := fun e => c0 (by rw [e]; exact hs)
    have hnw : ¬ wideN (f.set a w) := by
      rintro ⟨i, h1, h2⟩
      by_cases e : a = i
      · subst e; rw [wd_eq (by omega)] at h2; omega
      · rw [wd_ne e] at h2; exact hs.1 ⟨i, h1, h2⟩
    have hr := rep_sound hl hs (w := w) ha
    have hm := mend_mem (g := f.set a w) (a := a) (by rw [hr]; exact hs) 64 ha
    refine .inr ?_
    unfold mendR
    rw [if_neg c0, if_neg hnw]
    by_cases c1 : (mendTo (f.set a w) 64).1.length = 1
    · obtain ⟨x, hx⟩ := List.length_eq_one_iff.1 c1
      rw [hx] at hm
      have hxa : (a : Int) = x := by simpa using hm
      subst hxa
      rw [if_pos c1, mend_one 64 hx, hr, hx]
      exact .inl ⟨rfl, hne⟩
    · rw [if_neg c1]
      exact .inr ⟨rfl, hne⟩
theorem spoilt_rest {f : List Nat} (hl : f.length = 64) (hsd : soundN f) (hsm : Small f) {i x : Nat} (hi : i < 64) (hx : x < 4096) :
    (bindO (at' (en f hl).l (i : Int)) fun _ =>
      bindO (F_frame_Mend (Arr.set (en f hl) (i : Int) (x : Int))) fun ⟨x93, x94, x95⟩ =>
        iteB (!x95)
          (bindO (iteB (decide ((x93 : Arr 64 Int) = (Arr.rep 64 0 : Arr 64 Int))) (iteB (decide ((x94.length : Int) = 0)) (iteB (!decide (Arr.set (en f hl) (i : Int) (x : Int) = en f hl)) (some true) (some false)) (some false)) (some false)) fun g => some g)
          (bindO (iteB (decide ((x93 : Arr 64 Int) = en f hl))
            (iteB (decide (Arr.set (en f hl) (i : Int) (x : Int) = en f hl))
              (iteB (decide ((x94.length : Int) = 0)) (some true)
                (iteB (!decide (Arr.set (en f hl) (i : Int) (x : Int) = en f hl)) (iteB (decide ((x94.length : Int) = 1)) (bindO (at' x94 0) fun x289 => iteB (decide (x289 = (i : Int))) (some true) (some false)) (some false)) (some false)))
              (iteB (!decide (Arr.set (en f hl) (i : Int) (x : Int) = en f hl)) (iteB (decide ((x94.length : Int) = 1)) (bindO (at' x94 0) fun x319 => iteB (decide (x319 = (i : Int))) (some true) (some false)) (some false)) (some false)))
            (some false)) fun g => some g)) = some true := by
  rw [at_en hi, bindO_s, set_en, Mend_eq (hsm.set i (by omega)), bindO_s]
  simp only [en_rep]
  rcases mend_spoilt hl hsd hi hx with ⟨q1, q2⟩ | ⟨q1, q2⟩ | ⟨q1, q2⟩
  · have e1 : en (f.set i x) (len_set hl i x) = en f hl := en_inj.2 q2
    simp only [q1, e1]
    rfl
  · have e1 : ¬ en (f.set i x) (len_set hl i x) = en f hl := fun h => q2 (en_inj.1 h)
    simp only [q1, decide_eq_false e1]
    simp [iteB, bindO, at']
  · have e1 : ¬ en (f.set i x) (len_set hl i x) = en f hl := fun h => q2 (en_inj.1 h)
    simp only [q1, decide_eq_false e1]
    simp [iteB, bindO]
theorem law_Spoilt (n : Int) (d : List Int) (a w : Int) (hw : i64 w) : F_law1_FrameSpoiltWordIsMended n d a w = some true := by
  unfold F_law1_FrameSpoiltWordIsMended
  simp only [X_New, X_framed, bindO_s, letO_eq]
  by_cases c0 : (newR n d).2 = 0
  · rw [show decide ((newR n d).2 ≠ 0) = false from decide_eq_false (by simpa using c0), iteB_fa]
    by_cases c1 : a < 0
    · rw [decide_eq_true c1, iteB_tr, bindO_s, iteB_tr]
    rw [decide_eq_false c1, iteB_fa]
    by_cases c2 : 63 < a
    · rw [decide_eq_true c2, iteB_tr, bindO_s, iteB_tr]
    rw [decide_eq_false c2, iteB_fa]
    by_cases c3 : w < 0
    · rw [decide_eq_true c3, iteB_tr, bindO_s, iteB_tr]
    rw [decide_eq_false c3, iteB_fa]
    by_cases c4 : 4095 < w
    · rw [decide_eq_true c4, bindO_s, iteB_tr]
    rw [decide_eq_false c4, bindO_s, iteB_fa, wrap_u16 (by omega) (by omega)]
    obtain ⟨m, rfl, hm, hd, hok, hN⟩ := newR_ok c0
    obtain ⟨i, rfl⟩ : ∃ i : Nat, a = i := ⟨a.toNat, by omega⟩
    obtain ⟨x, rfl⟩ : ∃ x : Nat, w = x := ⟨w.toNat, by omega⟩
    have hi : i < 64 := by omega
    have hx : x < 4096 := by omega
    have hsd := newN_sound hm hok
    rw [← hN] at hsd
    have hl := newR_len (m : Int) d
    have hsm := newR_small (m : Int) d
    exact spoilt_rest hl hsd hsm hi hx
  · rw [show decide ((newR n d).2 ≠ 0) = true from decide_eq_true c0, iteB_tr, bindO_s, iteB_tr]
end Go.Lf
