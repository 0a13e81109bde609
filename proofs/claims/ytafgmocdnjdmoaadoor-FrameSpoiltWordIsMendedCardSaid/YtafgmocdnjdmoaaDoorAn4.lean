/- Chapter 1: mending, in both programs. -/
import Derived.Test.YtafgmocdnjdmoaaDoorAn3
namespace Go.Lf
open Go.RowKit Go.OB Go.Fr1
/-- A loop that looks for something. -/
theorem loop_ex {β : Type} {body : (Int → Option β) → Int → Option β} (p : Nat → Prop) [DecidablePred p] (a n : Nat) (r fin : Option β) (han : a ≤ n) (hn : n ≤ 9223372036854775807)
    (hs : ∀ k (i : Nat), a ≤ i → i < n → body k (i : Int) = if p i then r else k ((i + 1 : Nat) : Int)) (he : ∀ k, body k (n : Int) = fin) : loopO body (a : Int) = if ∃ i, i < n ∧ a ≤ i ∧ p i then r else fin := by
  have key : ∀ m, (∀ i, a ≤ i → i < m → ¬ p i) ∨ ∃ j, j < m ∧ a ≤ j ∧ p j ∧ ∀ i, a ≤ i → i < j → ¬ p i := by
    intro m
    induction m with
    | zero => exact .inl fun i _ hi => by omega
    | succ m ih =>
      rcases ih with ih | ⟨j, q1, q2, q3, q4⟩
      · by_cases hm : a ≤ m ∧ p m
        · exact .inr ⟨m, by omega, hm.1, hm.2, ih⟩
        · refine .inl fun i h1 h2 => ?_
          by_cases e : i = m
          · subst e; exact fun h => hm ⟨h1, h⟩
          · exact ih i h1 (by omega)
      · exact .inr ⟨j, by omega, q2, q3, q4⟩
  rcases key n with k | ⟨j, j1, j2, j3, j4⟩
  · rw [if_neg (fun ⟨i, h1, h2, h3⟩ => k i h2 h1 h3)]
    refine loopO_seq (fun i => (i : Int)) a n _ han hn (fun kk i h0 hi => ?_) he
    show body kk (i : Int) = _
    rw [hs kk i h0 hi, if_neg (k i h0 hi)]
  · rw [if_pos ⟨j, j1, j2, j3⟩]
    refine loopO_seq (fun i => (i : Int)) a j _ j2 (by omega) (fun kk i h0 hi => ?_) (fun kk => ?_)
    · show body kk (i : Int) = _
      rw [hs kk i h0 (by omega), if_neg (j4 i h0 hi)]
    · show body kk (j : Int) = _
      rw [hs kk j j2 j1, if_pos j3]
/-- The frame with the only word at a place with which it could be sound. -/
def repW (g : List Nat) (i : Nat) : Nat :=
  if i = 0 then wd tab (numN g % 4) else if i = 61 then wordN (sumN g) else if i = 62 then wordN (checkN g / 2048) else if i = 63 then wordN (checkN g % 2048) else wordN (sumN g ^^^ (wd g i % 2048) ^^^ (wd g 61 % 2048))
def repN (g : List Nat) (i : Nat) : List Nat := g.set i (repW g i)
theorem repN_0 (g : List Nat) : repN g 0 = g.set 0 (wd tab (numN g % 4)) := by unfold repN repW; rw [if_pos rfl]
theorem repN_61 (g : List Nat) : repN g 61 = g.set 61 (wordN (sumN g)) := by unfold repN repW; rw [if_neg (by decide), if_pos rfl]
theorem repN_62 (g : List Nat) : repN g 62 = g.set 62 (wordN (checkN g / 2048)) := by unfold repN repW; rw [if_neg (by decide), if_neg (by decide), if_pos rfl]
theorem repN_63 (g : List Nat) : repN g 63 = g.set 63 (wordN (checkN g % 2048)) := by unfold repN repW; rw [if_neg (by decide), if_neg (by decide), if_neg (by decide), if_pos rfl]
theorem repN_e (g : List Nat) {i : Nat} (c0 : i ≠ 0) (c1 : i ≠ 61) (c2 : i ≠ 62) (c3 : i ≠ 63) : repN g i = g.set i (wordN (sumN g ^^^ (wd g i % 2048) ^^^ (wd g 61 % 2048))) := by unfold repN repW; rw [if_neg c0, if_neg c1, if_neg c2, if_neg c3]
theorem xor3_lt (g : List Nat) (i : Nat) : sumN g ^^^ (wd g i % 2048) ^^^ (wd g 61 % 2048) < 2048 :=
  Nat.xor_lt_two_pow (n := 11) (Nat.xor_lt_two_pow (n := 11) (sumN_lt g) (by have := Nat.mod_lt (wd g i) (show 0 < 2048 by decide); omega)) (by have := Nat.mod_lt (wd g 61) (show 0 < 2048 by decide); omega)
theorem repW_lt (g : List Nat) (i : Nat) : repW g i < 4096 := by
  have n3 := checkN_lt g
  unfold repW
  split
  · exact tab_lt _
  split
  · exact wordN_lt (sumN_lt g)
  split
  · exact wordN_lt (by omega)
  split
  · exact wordN_lt (by omega)
  · exact wordN_lt (xor3_lt g i)
theorem repN_len (g : List Nat) (i : Nat) : (repN g i).length = g.length := by unfold repN; simp
theorem repN_small {g : List Nat} (hs : Small g) (i : Nat) : Small (repN g i) := hs.set i (by have := repW_lt g i; omega)
def mendTo (g : List Nat) : Nat → List Int × List Nat
  | 0 => ([], zero64)
  | k + 1 => if soundN (repN g k) then ((mendTo g k).1 ++ [(k : Int)], repN g k) else mendTo g k
theorem mendTo_len {g : List Nat} (h : g.length = 64) : ∀ k, (mendTo g k).2.length = 64 ∧ (mendTo g k).1.length ≤ k
  | 0 => ⟨by simp [mendTo, zero64], by simp [mendTo]⟩
  | k + 1 => by
    have := mendTo_len h k
    unfold mendTo
    split
    · exact ⟨by rw [repN_len]; exact h, by simp; omega⟩
    · exact ⟨this.1, by omega⟩
def mendR (g : List Nat) : List Nat × List Int × Bool :=
  if soundN g then (g, [], true) else if wideN g then (zero64, [], false) else if (mendTo g 64).1.length = 1 then ((mendTo g 64).2, (mendTo g 64).1, true) else (zero64, [], false)
theorem mendR_len {g : List Nat} (h : g.length = 64) : (mendR g).1.length = 64 := by
  have hz : zero64.length = 64 := by simp [zero64]
  unfold mendR
  split
  · exact h
  split
  · exact hz
  split
  · exact (mendTo_len h 64).1
  · exact hz
theorem app8 {l : List Int} (x : Int) (h : l.length ≤ 200) : app' 8 l [x] = some (l ++ [x]) := by
  unfold app'
  rw [if_pos]
  rw [maxLen_eq]; simp; omega
theorem rWide_eq {g : List Nat} {h : g.length = 64} : F_ref1_Wide (en g h) = some (decide (wideN g)) := by
  unfold F_ref1_Wide
  rw [joinO_eq]
  unfold F_ref1_Wide_L1
  refine (loop_ex (fun i => 4095 < wd g i) 0 64 (some true) (some false) (by decide) (by decide) (fun k i _ hi => ?_) (fun k => rfl)).trans ?_
  · simp only [letO_eq]
    rw [show decide ((i : Int) < 64) = true from decide_eq_true (by omega), iteB_tr, at_en hi, bindO_s, wrap_i64 (by omega) (by omega)]
    by_cases c : 4095 < wd g i
    · rw [show decide ((4095 : Int) < ((wd g i : Nat) : Int)) = true from decide_eq_true (by omega), iteB_tr, if_pos c]
    · rw [show decide ((4095 : Int) < ((wd g i : Nat) : Int)) = false from decide_eq_false (by omega), iteB_fa, if_neg c]
      rfl
  · by_cases c : wideN g
    · obtain ⟨i, h1, h2⟩ := c
      rw [if_pos ⟨i, h1, Nat.zero_le _, h2⟩, decide_eq_true ⟨i, h1, h2⟩]
    · rw [if_neg (fun ⟨i, h1, _, h2⟩ => c ⟨i, h1, h2⟩), decide_eq_false c]
theorem rflaws_L1 {g : List Nat} {h : g.length = 64} : F_ref1_Flaws_L1 (en g h) ([], 0) = some (flW g 64) := by
  unfold F_ref1_Flaws_L1
  refine loopO_seq (fun i => (flW g i, (i : Int))) 0 64 _ (by decide) (by decide) (fun k i _ hi => ?_) (fun k => rfl)
  have := flW_len g i
  simp only [letO_eq]
  rw [show decide ((i : Int) < 64) = true from decide_eq_true (by omega), iteB_tr, at_en (by omega), bindO_s, app16 _ (by omega), wrap_i64 (by omega) (by omega)]
  by_cases c : 4095 < wd g i
  · rw [show decide ((4095 : Int) < ((wd g i : Nat) : Int)) = true from decide_eq_true (by omega), iteB_tr, bindO_s, bindO_s, show flW g (i + 1) = flW g i ++ [⟨(i : Nat), 5⟩] from if_pos c]
    rfl
  · rw [show decide ((4095 : Int) < ((wd g i : Nat) : Int)) = false from decide_eq_false (by omega), iteB_fa, bindO_s, show flW g (i + 1) = flW g i from if_neg c]
    rfl
theorem rsync_eq {n : Nat} : F_ref1_syncOf (n : Int) = some ((wd tab (n % 4) : Nat) : Int) := by
  have e4 : rem' (n : Int) 4 = some ((n % 4 : Nat) : Int) := rem_nat (b := 4) (by decide)
  unfold F_ref1_syncOf
  rw [e4, bindO_s]
  have := sync_at (k := n % 4) (by omega)
  rw [show (⟨[583, 1464, 2631, 3512], rfl⟩ : Arr 4 Int) = G_frame_syncs from rfl, this, bindO_s]
theorem xword_eq {d : Nat} (hd : d < 2048) : X_word (d : Int) = some ((wordN d : Nat) : Int) := by unfold X_word; rw [if_pos (by omega)]; simp
theorem xodd_eq {d : Nat} (hd : d < 65536) : X_odd (d : Int) = some (decide (oddN d)) := by unfold X_odd; rw [if_pos (by omega)]; simp
section
variable {g : List Nat} {h : g.length = 64}
theorem replaced_eq (hs : Small g) {i : Nat} (hi : i < 64) : F_frame_replaced (en g h) (i : Int) = some (en (repN g i) ((repN_len g i).trans h)) := by
  have n1 := numN_lt g
  have n3 := checkN_lt g
  have e4 : rem' ((numN g : Nat) : Int) 4 = some ((numN g % 4 : Nat) : Int) := rem_nat (b := 4) (by decide)
  have e5 : shr' .i64 ((checkN g : Nat) : Int) 11 = some ((checkN g / 2048 : Nat) : Int) := shr_nat (b := 11) (by decide)
  have e6 : bits .and .i64 ((checkN g : Nat) : Int) 2047 = ((checkN g % 2048 : Nat) : Int) := by rw [mask_i64 (m := 2048) 11 (by decide) (by decide) (by omega) (by omega)]; omega
  have a0 : at' (en g h).l 0 = some ((wd g 0 : Nat) : Int) := at_en (i := 0) (by decide)
  have a1 : at' (en g h).l 61 = some ((wd g 61 : Nat) : Int) := at_en (i := 61) (by decide)
  have s0 : ∀ x : Nat, Arr.set (en g h) 0 (x : Int) = en (g.set 0 x) (len_set h 0 x) := fun x => set_en 0 x
  unfold F_frame_replaced
  simp only [letO_eq]
  by_cases c0 : i = 0
  · subst c0
    rw [show decide (((0 : Nat) : Int) = 0) = true from rfl, iteB_tr, number_eq hs, bindO_s, e4, bindO_s, sync_at (show numN g % 4 < 4 by omega), bindO_s, a0, bindO_s, bindO_s, s0]
    exact congrArg some (en_inj.2 (repN_0 g).symm)
  rw [show decide ((i : Int) = 0) = false from decide_eq_false (by omega), iteB_fa]
  by_cases c1 : i = 61
  · subst c1
    rw [show decide (((61 : Nat) : Int) = 61) = true from rfl, iteB_tr, sum_eq hs, bindO_s, word_eq (sumN_lt g), bindO_s, at_en (by decide), bindO_s, bindO_s, set_en]
    exact congrArg some (en_inj.2 (repN_61 g).symm)
  rw [show decide ((i : Int) = 61) = false from decide_eq_false (by omega), iteB_fa]
  by_cases c2 : i = 62
  · subst c2
    rw [show decide (((62 : Nat) : Int) = 62) = true from rfl, iteB_tr, check_eq hs, bindO_s, e5, bindO_s, word_eq (by omega), bindO_s, at_en (by decide), bindO_s, bindO_s, set_en]
    exact congrArg some (en_inj.2 (repN_62 g).symm)
  rw [show decide ((i : Int) = 62) = false from decide_eq_false (by omega), iteB_fa]
  by_cases c3 : i = 63
  · subst c3
    rw [show decide (((63 : Nat) : Int) = 63) = true from rfl, iteB_tr, check_eq hs, bindO_s, e6, word_eq (by omega), bindO_s, at_en (by decide), bindO_s, bindO_s, set_en]
    exact congrArg some (en_inj.2 (repN_63 g).symm)
  rw [show decide ((i : Int) = 63) = false from decide_eq_false (by omega), iteB_fa]
  have x1 := sumN_lt g
  have x2 : wd g i % 2048 < 2048 := Nat.mod_lt _ (by decide)
  have x3 : wd g 61 % 2048 < 2048 := Nat.mod_lt _ (by decide)
  have x4 : sumN g ^^^ (wd g i % 2048) < 2048 := Nat.xor_lt_two_pow (n := 11) x1 x2
  rw [sum_eq hs, bindO_s, at_en hi, bindO_s, data_eq (hs i), bindO_s, xor_i64 _ _ (by omega) (by omega), a1, bindO_s, data_eq (hs 61), bindO_s, xor_i64 _ _ (by omega) (by omega), word_eq (xor3_lt g i), bindO_s, bindO_s, bindO_s, set_en]
  exact congrArg some (en_inj.2 (repN_e g c0 c1 c2 c3).symm)
theorem Mend_L1 (hs : Small g) : F_frame_Mend_L1 (en g h) ([], 0, (Arr.rep 64 0 : Arr 64 Int)) = some ((mendTo g 64).1, en (mendTo g 64).2 (mendTo_len h 64).1) := by
  unfold F_frame_Mend_L1
  refine (loopO_seq (fun i => ((mendTo g i).1, (i : Int), en (mendTo g i).2 (mendTo_len h i).1)) 0 64 _ (by decide) (by decide) (fun k i _ hi => ?_) (fun k => rfl)).symm.symm.trans rfl |> fun e => by rw [en_rep]; exact e
  have hl := (mendTo_len h i).2
  simp only [letO_eq]
  rw [show decide ((i : Int) < 64) = true from decide_eq_true (by omega), iteB_tr, replaced_eq hs hi, bindO_s, sound_eq (repN_small hs i), bindO_s, app8 _ (by omega), wrap_i64 (by omega) (by omega)]
  by_cases c : soundN (repN g i)
  · rw [decide_eq_true c, iteB_tr, bindO_s, bindO_s]
    have e : mendTo g (i + 1) = ((mendTo g i).1 ++ [(i : Int)], repN g i) := if_pos c
    simp only [e]
    rfl
  · rw [decide_eq_false c, iteB_fa, bindO_s]
    have e : mendTo g (i + 1) = mendTo g i := if_neg c
    simp only [e]
    rfl
theorem Mend_eq (hs : Small g) : F_frame_Mend (en g h) = some (en (mendR g).1 (mendR_len h), (mendR g).2.1, (mendR g).2.2) := by
  unfold F_frame_Mend
  rw [sound_eq hs, bindO_s, wide_eq, bindO_s, Mend_L1 hs, bindO_s]
  simp only [letO_eq, en_rep]
  have dl : decide (((mendTo g 64).1.length : Int) ≠ 1) = !decide ((mendTo g 64).1.length = 1) := by rw [Bool.eq_iff_iff]; simp; omega
  rw [dl]
  by_cases c0 : soundN g
  · have e : mendR g = (g, [], true) := if_pos c0
    rw [decide_eq_true c0, iteB_tr]
    simp only [e]
  have e0 : mendR g = if wideN g then (zero64, [], false) else if (mendTo g 64).1.length = 1 then ((mendTo g 64).2, (mendTo g 64).1, true) else (zero64, [], false) := if_neg c0
  rw [decide_eq_false c0, iteB_fa]
  by_cases c1 : wideN g
  · have e : mendR g = (zero64, [], false) := e0.trans (if_pos c1)
    rw [decide_eq_true c1, iteB_tr]
    simp only [e]
  have e1 := e0.trans (if_neg c1)
  rw [decide_eq_false c1, iteB_fa]
  by_cases c2 : (mendTo g 64).1.length = 1
  · have e := e1.trans (if_pos c2)
    rw [decide_eq_true c2]
    simp only [e]
    rfl
  · have e := e1.trans (if_neg c2)
    rw [decide_eq_false c2]
    simp only [e]
    rfl
/-! ### The reference -/
theorem rnumber_eq (hs : Small g) : F_ref1_numberOf (en g h) = some ((numN g : Nat) : Int) := by
  have h1 := hs 1
  have h2 := hs 2
  have a1 : at' (en g h).l 1 = some ((wd g 1 : Nat) : Int) := at_en (i := 1) (by decide)
  have a2 : at' (en g h).l 2 = some ((wd g 2 : Nat) : Int) := at_en (i := 2) (by decide)
  have e1 : rem' ((wd g 1 : Nat) : Int) 2048 = some ((wd g 1 % 2048 : Nat) : Int) := rem_nat (b := 2048) (by decide)
  have e2 : rem' ((wd g 2 : Nat) : Int) 2048 = some ((wd g 2 % 2048 : Nat) : Int) := rem_nat (b := 2048) (by decide)
  unfold F_ref1_numberOf
  simp only [letO_eq]
  have w1 : IntKind.i64.wrap (((wd g 2 % 2048 : Nat) : Int) * 2048) = ((wd g 2 % 2048 * 2048 : Nat) : Int) := by rw [wrap_i64 (by omega) (by omega)]; omega
  rw [a1, bindO_s, wrap_i64 (by omega) (by omega), e1, bindO_s, a2, bindO_s, wrap_i64 (by omega) (by omega), e2, bindO_s, w1, wrap_i64 (by omega) (by omega)]
  unfold numN
  congr 1
theorem xsum_eq (hs : Small g) : X_sum (en g h) = some ((sumN g : Nat) : Int) := by unfold X_sum; rw [natF_en hs]; rfl
theorem xcheck_eq (hs : Small g) : X_check (en g h) = some ((checkN g : Nat) : Int) := by unfold X_check; rw [natF_en hs]; rfl
theorem rflaws_L2 (hs : Small g) {l : List Flaw} (hl : l.length ≤ 1) (hw : flW g 64 = []) : F_ref1_Flaws_L2 (en g h) (l, 1) = some (flO l g 63) := by
  unfold F_ref1_Flaws_L2
  refine (loopO_seq (fun i => (flO l g i, ((i + 1 : Nat) : Int))) 0 63 (some (flO l g 63)) (by decide) (by decide) (fun k i _ hi => ?_) (fun k => rfl))
  have := flO_len l g i
  have h1 := hs (i + 1)
  have h2 := (flW_nil g 64).1 hw (i + 1) (by omega)
  simp only [letO_eq]
  rw [show decide (((i + 1 : Nat) : Int) < 64) = true from decide_eq_true (by omega), iteB_tr, at_en (by omega), bindO_s, wrap_i64 (by omega) (by omega), xodd_eq (hs _), bindO_s, app16 _ (by omega), wrap_i64 (by omega) (by omega)]
  by_cases c : goodW (wd g (i + 1))
  · rw [decide_eq_true c.2, show flO l g (i + 1) = flO l g i from if_pos c]
    rfl
  · have c' : ¬ oddN (wd g (i + 1)) := fun q => c ⟨by omega, q⟩
    rw [decide_eq_false c', show flO l g (i + 1) = flO l g i ++ [⟨((i + 1 : Nat) : Int), 2⟩] from if_neg c]
    rfl
theorem rFlaws_eq (hs : Small g) : F_ref1_Flaws (en g h) = some (flawsL g) := by
  have n1 := numN_lt g
  have h0 := hs 0
  have h61 := hs 61
  have h62 := hs 62
  have h63 := hs 63
  have a0 : at' (en g h).l 0 = some ((wd g 0 : Nat) : Int) := at_en (i := 0) (by decide)
  have a1 : at' (en g h).l 61 = some ((wd g 61 : Nat) : Int) := at_en (i := 61) (by decide)
  have a2 : at' (en g h).l 62 = some ((wd g 62 : Nat) : Int) := at_en (i := 62) (by decide)
  have a3 : at' (en g h).l 63 = some ((wd g 63 : Nat) : Int) := at_en (i := 63) (by decide)
  have m61 : rem' ((wd g 61 : Nat) : Int) 2048 = some ((wd g 61 % 2048 : Nat) : Int) := rem_nat (b := 2048) (by decide)
  have m62 : rem' ((wd g 62 : Nat) : Int) 2048 = some ((wd g 62 % 2048 : Nat) : Int) := rem_nat (b := 2048) (by decide)
  have m63 : rem' ((wd g 63 : Nat) : Int) 2048 = some ((wd g 63 % 2048 : Nat) : Int) := rem_nat (b := 2048) (by decide)
  have d1 : decide (((wd g 0 : Nat) : Int) ≠ ((wd tab (numN g % 4) : Nat) : Int)) = !decide (wd g 0 = wd tab (numN g % 4)) := by rw [Bool.eq_iff_iff]; simp; omega
  have d2 : decide (((wd g 61 % 2048 : Nat) : Int) ≠ ((sumN g : Nat) : Int)) = !decide (wd g 61 % 2048 = sumN g) := by rw [Bool.eq_iff_iff]; simp; omega
  have d3 : decide ((((wd g 62 % 2048 : Nat) : Int) * 2048 + ((wd g 63 % 2048 : Nat) : Int)) ≠ ((checkN g : Nat) : Int)) = !decide (wd g 62 % 2048 * 2048 + wd g 63 % 2048 = checkN g) := by rw [Bool.eq_iff_iff]; simp; omega
  unfold F_ref1_Flaws flawsL
  rw [rflaws_L1, bindO_s, letO_eq, letO_eq]
  by_cases c : flW g 64 = []
  · rw [if_pos c, c]
    rw [show decide (0 < (([] : List Flaw).length : Int)) = false from rfl, iteB_fa, a0, bindO_s]
    simp only [letO_eq]
    rw [wrap_i64 (by omega) (by omega), rnumber_eq hs, bindO_s, rsync_eq, bindO_s, d1]
    have q1 : (iteB (!decide (wd g 0 = wd tab (numN g % 4))) (bindO (app' 16 [] [(⟨0, 1⟩ : Flaw)]) fun x => some x) (some [])) = some (flS g) := by
      rw [app16 _ (by simp)]
      unfold flS
      by_cases c2 : wd g 0 = wd tab (numN g % 4)
      · rw [decide_eq_true c2, if_pos c2]; rfl
      · rw [decide_eq_false c2, if_neg c2]; rfl
    rw [q1, bindO_s, rflaws_L2 hs (flS_len g) c, bindO_s, a1, bindO_s, wrap_i64 (by omega) (by omega), m61, bindO_s, xsum_eq hs, bindO_s, d2]
    have q2 : (iteB (!decide (wd g 61 % 2048 = sumN g)) (bindO (app' 16 (flP g) [(⟨61, 3⟩ : Flaw)]) fun x => some x) (some (flP g))) = some (flT g) := by
      have := flP_len g
      rw [app16 _ (by omega)]
      unfold flT
      by_cases c2 : wd g 61 % 2048 = sumN g
      · rw [decide_eq_true c2, if_pos c2]; rfl
      · rw [decide_eq_false c2, if_neg c2]; rfl
    unfold flP at q2
    rw [q2, bindO_s, a2, bindO_s, wrap_i64 (by omega) (by omega), m62, bindO_s, a3, bindO_s, wrap_i64 (by omega) (by omega), wrap_i64 (by omega) (by omega), m63, bindO_s, wrap_i64 (by omega) (by omega), xcheck_eq hs, bindO_s, d3]
    have := flT_len g
    rw [app16 _ (by omega)]
    unfold flC
    by_cases c2 : wd g 62 % 2048 * 2048 + wd g 63 % 2048 = checkN g
    · rw [decide_eq_true c2, if_pos c2]; rfl
    · rw [decide_eq_false c2, if_neg c2]; rfl
  · rw [if_neg c, show decide (0 < ((flW g 64).length : Int)) = true from decide_eq_true (by have := List.length_pos_iff.2 c; omega), iteB_tr]
theorem rSound_eq (hs : Small g) : F_ref1_Sound (en g h) = some (decide (soundN g)) := by
  unfold F_ref1_Sound
  rw [rFlaws_eq hs, bindO_s]
  simp only [letO_eq]
  congr 1
  refine dec_dec ?_
  rw [← flawsL_nil]
  constructor
  · intro h; exact List.eq_nil_of_length_eq_zero (by omega)
  · intro h; rw [h]; rfl
theorem PutWord_eq (hs : Small g) {i : Nat} (hi : i < 64) : F_ref1_PutWord (en g h) (i : Int) = some (en (repN g i) ((repN_len g i).trans h)) := by
  have n1 := numN_lt g
  have n3 := checkN_lt g
  have hi' := hs i
  have h61 := hs 61
  have t := tab_lt (numN g % 4)
  have w1 := wordN_lt (sumN_lt g)
  have w2 := wordN_lt (show checkN g / 2048 < 2048 by omega)
  have w3 := wordN_lt (show checkN g % 2048 < 2048 by omega)
  have w4 := wordN_lt (xor3_lt g i)
  have e5 : quo' .i64 ((checkN g : Nat) : Int) 2048 = some ((checkN g / 2048 : Nat) : Int) := quo_nat (b := 2048) (by decide) (by omega)
  have e6 : rem' ((checkN g : Nat) : Int) 2048 = some ((checkN g % 2048 : Nat) : Int) := rem_nat (b := 2048) (by decide)
  have a0 : at' (en g h).l 0 = some ((wd g 0 : Nat) : Int) := at_en (i := 0) (by decide)
  have a1 : at' (en g h).l 61 = some ((wd g 61 : Nat) : Int) := at_en (i := 61) (by decide)
  have a2 : at' (en g h).l 62 = some ((wd g 62 : Nat) : Int) := at_en (i := 62) (by decide)
  have a3 : at' (en g h).l 63 = some ((wd g 63 : Nat) : Int) := at_en (i := 63) (by decide)
  have s0 : ∀ x : Nat, Arr.set (en g h) 0 (x : Int) = en (g.set 0 x) (len_set h 0 x) := fun x => set_en 0 x
  have s1 : ∀ x : Nat, Arr.set (en g h) 61 (x : Int) = en (g.set 61 x) (len_set h 61 x) := fun x => set_en 61 x
  have s2 : ∀ x : Nat, Arr.set (en g h) 62 (x : Int) = en (g.set 62 x) (len_set h 62 x) := fun x => set_en 62 x
  have s3 : ∀ x : Nat, Arr.set (en g h) 63 (x : Int) = en (g.set 63 x) (len_set h 63 x) := fun x => set_en 63 x
  unfold F_ref1_PutWord
  simp only [letO_eq]
  by_cases c0 : i = 0
  · subst c0
    rw [show decide (((0 : Nat) : Int) = 0) = true from rfl, iteB_tr, rnumber_eq hs, bindO_s, rsync_eq, bindO_s, wrap_u16 (by omega) (by omega), a0, bindO_s, bindO_s, s0]
    exact congrArg some (en_inj.2 (repN_0 g).symm)
  rw [show decide ((i : Int) = 0) = false from decide_eq_false (by omega), iteB_fa]
  by_cases c9 : i ≤ 60
  · have m1 : rem' ((wd g i : Nat) : Int) 2048 = some ((wd g i % 2048 : Nat) : Int) := rem_nat (b := 2048) (by decide)
    have m61 : rem' ((wd g 61 : Nat) : Int) 2048 = some ((wd g 61 % 2048 : Nat) : Int) := rem_nat (b := 2048) (by decide)
    have x1 := sumN_lt g
    have x2 : wd g i % 2048 < 2048 := Nat.mod_lt _ (by decide)
    have x3 : wd g 61 % 2048 < 2048 := Nat.mod_lt _ (by decide)
    have x4 : sumN g ^^^ (wd g i % 2048) < 2048 := Nat.xor_lt_two_pow (n := 11) x1 x2
    rw [show decide ((i : Int) ≤ 60) = true from decide_eq_true (by omega), iteB_tr, at_en hi, bindO_s, wrap_i64 (by omega) (by omega), m1, bindO_s, xsum_eq hs, bindO_s, xor_i64 _ _ (by omega) (by omega), Nat.xor_comm (wd g i % 2048), a1, bindO_s, wrap_i64 (by omega) (by omega), m61, bindO_s, xor_i64 _ _ (by omega) (by omega), xword_eq (xor3_lt g i), bindO_s, wrap_u16 (by omega) (by omega), bindO_s, bindO_s, set_en]
    exact congrArg some (en_inj.2 (repN_e g c0 (by omega) (by omega) (by omega)).symm)
  rw [show decide ((i : Int) ≤ 60) = false from decide_eq_false (by omega), iteB_fa]
  by_cases c1 : i = 61
  · subst c1
    rw [show decide (((61 : Nat) : Int) = 61) = true from rfl, iteB_tr, xsum_eq hs, bindO_s, xword_eq (sumN_lt g), bindO_s, wrap_u16 (by omega) (by omega), a1, bindO_s, bindO_s, s1]
    exact congrArg some (en_inj.2 (repN_61 g).symm)
  rw [show decide ((i : Int) = 61) = false from decide_eq_false (by omega), iteB_fa]
  by_cases c2 : i = 62
  · subst c2
    rw [show decide (((62 : Nat) : Int) = 62) = true from rfl, iteB_tr, xcheck_eq hs, bindO_s, e5, bindO_s, xword_eq (by omega), bindO_s, wrap_u16 (by omega) (by omega), a2, bindO_s, bindO_s, s2]
    exact congrArg some (en_inj.2 (repN_62 g).symm)
  rw [show decide ((i : Int) = 62) = false from decide_eq_false (by omega), iteB_fa]
  have c3 : i = 63 := by omega
  subst c3
  rw [xcheck_eq hs, bindO_s, e6, bindO_s, xword_eq (by omega), bindO_s, wrap_u16 (by omega) (by omega), a3, bindO_s, bindO_s, s3]
  exact congrArg some (en_inj.2 (repN_63 g).symm)
theorem rMend_L1 (hs : Small g) : F_ref1_Mend_L1 (en g h) ([], 0, (Arr.rep 64 0 : Arr 64 Int)) = some ((mendTo g 64).1, en (mendTo g 64).2 (mendTo_len h 64).1) := by
  unfold F_ref1_Mend_L1
  rw [en_rep]
  refine loopO_seq (fun i => ((mendTo g i).1, (i : Int), en (mendTo g i).2 (mendTo_len h i).1)) 0 64 _ (by decide) (by decide) (fun k i _ hi => ?_) (fun k => rfl)
  have hl := (mendTo_len h i).2
  simp only [letO_eq]
  rw [show decide ((i : Int) < 64) = true from decide_eq_true (by omega), iteB_tr, PutWord_eq hs hi, bindO_s, rSound_eq (repN_small hs i), bindO_s, app8 _ (by omega), wrap_i64 (by omega) (by omega)]
  by_cases c : soundN (repN g i)
  · rw [decide_eq_true c, iteB_tr, bindO_s, bindO_s]
    have e : mendTo g (i + 1) = ((mendTo g i).1 ++ [(i : Int)], repN g i) := if_pos c
    simp only [e]
    rfl
  · rw [decide_eq_false c, iteB_fa, bindO_s]
    have e : mendTo g (i + 1) = mendTo g i := if_neg c
    simp only [e]
    rfl
theorem rMend_eq (hs : Small g) : F_ref1_Mend (en g h) = some (en (mendR g).1 (mendR_len h), (mendR g).2.1, (mendR g).2.2) := by
  unfold F_ref1_Mend
  rw [rSound_eq hs, bindO_s, rWide_eq, bindO_s, rMend_L1 hs, bindO_s]
  simp only [letO_eq, en_rep]
  have dl : decide (((mendTo g 64).1.length : Int) ≠ 1) = !decide ((mendTo g 64).1.length = 1) := by rw [Bool.eq_iff_iff]; simp; omega
  rw [dl]
  by_cases c1 : wideN g
  · have c0 : ¬ soundN g := fun q => q.1 c1
    have e : mendR g = (zero64, [], false) := (if_neg c0).trans (if_pos c1)
    rw [decide_eq_true c1, iteB_tr]
    simp only [e]
  rw [decide_eq_false c1, iteB_fa]
  by_cases c0 : soundN g
  · have e : mendR g = (g, [], true) := if_pos c0
    rw [decide_eq_true c0, iteB_tr]
    simp only [e]
  have e1 : mendR g = if (mendTo g 64).1.length = 1 then ((mendTo g 64).2, (mendTo g 64).1, true) else (zero64, [], false) := (if_neg c0).trans (if_neg c1)
  rw [decide_eq_false c0, iteB_fa]
  by_cases c2 : (mendTo g 64).1.length = 1
  · have e := e1.trans (if_pos c2)
    rw [decide_eq_true c2]
    simp only [e]
    rfl
  · have e := e1.trans (if_neg c2)
    rw [decide_eq_false c2]
    simp only [e]
    rfl
/-- The law of mending. -/
theorem law_Mend (hs : Small g) : F_law1_FrameMendMatchesSpec (en g h) = some true := by
  have hl : (mendR g).2.1.length ≤ 64 := by
    have h3 := (mendTo_len h 64).2
    unfold mendR
    generalize mendTo g 64 = z at *
    by_cases c0 : soundN g
    · rw [if_pos c0]; exact Nat.zero_le _
    rw [if_neg c0]
    by_cases c1 : wideN g
    · rw [if_pos c1]; exact Nat.zero_le _
    rw [if_neg c1]
    by_cases c2 : z.1.length = 1
    · rw [if_pos c2]; exact h3
    · rw [if_neg c2]; exact Nat.zero_le _
  unfold F_law1_FrameMendMatchesSpec
  simp only [Mend_eq hs, rMend_eq hs, bindO_s, letO_eq]
  rw [EqualI (by omega) (by omega)]
  simp [iteB, bindO, X_framed]
end
end Go.Lf
