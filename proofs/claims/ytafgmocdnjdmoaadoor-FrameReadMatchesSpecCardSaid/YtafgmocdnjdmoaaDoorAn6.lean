/- Chapter 1: what frames are read as, new frames, digests. -/
import Derived.Test.YtafgmocdnjdmoaaDoorAn5
import Derived.Test.YtafgmocdnjdmoaaDoorVals
namespace Go.Lf
open Go.RowKit Go.OB Go.Fr1
def valL (g : List Nat) : Nat → List Int
  | 0 => []
  | k + 1 => valL g k ++ [if wd g (3 + k) ≤ 4095 then ((wd g (3 + k) % 2048 : Nat) : Int) else 0]
def rigL (g : List Nat) : Nat → List Bool
  | 0 => []
  | k + 1 => rigL g k ++ [decide (goodW (wd g (3 + k)))]
theorem valL_len (g : List Nat) : ∀ k, (valL g k).length = k
  | 0 => rfl
  | k + 1 => by simp [valL, valL_len g k]
theorem rigL_len (g : List Nat) : ∀ k, (rigL g k).length = k
  | 0 => rfl
  | k + 1 => by simp [rigL, rigL_len g k]
theorem app1 {l : List Bool} (x : Bool) (h : l.length ≤ 200) : app' 1 l [x] = some (l ++ [x]) := by
  unfold app'
  rw [if_pos]
  rw [maxLen_eq]; simp; omega
theorem Right_eq {n : Nat} (hn : n < 65536) : F_ref1_Right (n : Int) = some (decide (goodW n)) := by
  unfold F_ref1_Right
  simp only [letO_eq]
  rw [wrap_i64 (by omega) (by omega), xodd_eq hn, bindO_s]
  have e2 : decide ((n : Int) ≤ 4095) = decide (n ≤ 4095) := dec_dec (by omega)
  have e4 : decide (goodW n) = (decide (n ≤ 4095) && decide (oddN n)) := by
    rw [Bool.eq_iff_iff, Bool.and_eq_true, decide_eq_true_eq, decide_eq_true_eq, decide_eq_true_eq]; exact Iff.rfl
  rw [e2, e4]
  generalize decide (oddN n) = z
  cases decide (n ≤ 4095) <;> rfl
theorem sealed_len {g : List Nat} (h : g.length = 64) : (finN (sealF g)).length = 64 := by rw [finN_len, sealF_len]; exact h
section
variable {g : List Nat} {h : g.length = 64}
theorem Number_eq (hs : Small g) : F_frame_Number (en g h) = some ((numR g).1, (numR g).2) := by
  have a1 : at' (en g h).l 1 = some ((wd g 1 : Nat) : Int) := at_en (i := 1) (by decide)
  have a2 : at' (en g h).l 2 = some ((wd g 2 : Nat) : Int) := at_en (i := 2) (by decide)
  unfold F_frame_Number numR
  simp only [a1, a2, bindO_s, letO_eq, odd_eq (hs 1), odd_eq (hs 2), number_eq hs]
  by_cases c1 : goodW (wd g 1)
  · by_cases c2 : goodW (wd g 2)
    · rw [decide_eq_true c1, decide_eq_true c2, if_pos ⟨c1, c2⟩]; rfl
    · rw [decide_eq_true c1, decide_eq_false c2, if_neg (fun q => c2 q.2)]; rfl
  · rw [decide_eq_false c1, if_neg (fun q => c1 q.1)]; rfl
theorem rNumber_eq (hs : Small g) : F_ref1_Number (en g h) = some ((numR g).1, (numR g).2) := by
  have a1 : at' (en g h).l 1 = some ((wd g 1 : Nat) : Int) := at_en (i := 1) (by decide)
  have a2 : at' (en g h).l 2 = some ((wd g 2 : Nat) : Int) := at_en (i := 2) (by decide)
  unfold F_ref1_Number numR
  simp only [a1, a2, bindO_s, letO_eq, Right_eq (hs 1), Right_eq (hs 2), rnumber_eq hs]
  by_cases c1 : goodW (wd g 1)
  · by_cases c2 : goodW (wd g 2)
    · rw [decide_eq_true c1, decide_eq_true c2, if_pos ⟨c1, c2⟩]; rfl
    · rw [decide_eq_true c1, decide_eq_false c2, if_neg (fun q => c2 q.2)]; rfl
  · rw [decide_eq_false c1, if_neg (fun q => c1 q.1)]; rfl
theorem Values_eq (hs : Small g) : F_frame_Values (en g h) = some (valL g 58, rigL g 58) := by
  have e1 : sub' (en g h).l 3 61 = some (((en g h).l.drop 3).take 58) := by
    unfold sub'
    rw [if_pos ⟨by decide, by decide, by rw [(en g h).h]; decide⟩]
    rfl
  have el : (((en g h).l.drop 3).take 58).length = 58 := by rw [List.length_take, List.length_drop, (en g h).h]; decide
  have ea : ∀ i : Nat, i < 58 → at' (((en g h).l.drop 3).take 58) (i : Int) = some ((wd g (3 + i) : Nat) : Int) := by
    intro i hi
    have := at_en (g := g) (h := h) (i := 3 + i) (by omega)
    rw [at_nat] at this ⊢
    rw [List.getElem?_take, if_pos hi, List.getElem?_drop]
    exact this
  unfold F_frame_Values
  rw [e1, bindO_s, letO_eq]
  generalize ((en g h).l.drop 3).take 58 = z at *
  have L : F_frame_Values_L1 z (z.length : Int) ([], [], 0) = some (valL g 58, rigL g 58) := by
    unfold F_frame_Values_L1
    refine loopO_seq (fun i => (valL g i, rigL g i, (i : Int))) 0 58 _ (by decide) (by decide) (fun k i _ hi => ?_) (fun k => ?_)
    · have q1 := valL_len g i
      have q2 := rigL_len g i
      simp only [letO_eq]
      rw [show decide ((i : Int) < (z.length : Int)) = true from decide_eq_true (by omega), iteB_tr, ea i hi, bindO_s, data_eq (hs _), bindO_s, odd_eq (hs _), wrap_i64 (by omega) (by omega)]
      have e : (iteB (decide (((wd g (3 + i) : Nat) : Int) ≤ 4095)) (some ((wd g (3 + i) % 2048 : Nat) : Int)) (some 0)) = some (if wd g (3 + i) ≤ 4095 then ((wd g (3 + i) % 2048 : Nat) : Int) else 0) := by
        by_cases c : wd g (3 + i) ≤ 4095
        · rw [decide_eq_true (by omega), if_pos c]; rfl
        · rw [decide_eq_false (by omega), if_neg c]; rfl
      rw [e, bindO_s, app8 _ (by omega), bindO_s, bindO_s, app1 _ (by omega), bindO_s]
      rfl
    · simp only [letO_eq]
      rw [show decide (((58 : Nat) : Int) < (z.length : Int)) = false from decide_eq_false (by omega), iteB_fa]
  rw [L]; rfl
theorem rValues_eq (hs : Small g) : F_ref1_Values (en g h) = some (valL g 58, rigL g 58) := by
  have L : F_ref1_Values_L1 (en g h) ([], [], 3) = some (valL g 58, rigL g 58) := by
    unfold F_ref1_Values_L1
    refine loopO_seq (fun i => (valL g i, rigL g i, ((3 + i : Nat) : Int))) 0 58 _ (by decide) (by decide) (fun k i _ hi => ?_) (fun k => rfl)
    have q1 := valL_len g i
    have q2 := rigL_len g i
    have q3 := hs (3 + i)
    have m1 : rem' ((wd g (3 + i) : Nat) : Int) 2048 = some ((wd g (3 + i) % 2048 : Nat) : Int) := rem_nat (b := 2048) (by decide)
    simp only [letO_eq]
    rw [show decide (((3 + i : Nat) : Int) ≤ 60) = true from decide_eq_true (by omega), iteB_tr, at_en (by omega), bindO_s, bindO_s, wrap_i64 (by omega) (by omega), m1, bindO_s]
    have e : (iteB (decide (((wd g (3 + i) : Nat) : Int) ≤ 4095)) (some ((wd g (3 + i) % 2048 : Nat) : Int)) (some 0)) = some (if wd g (3 + i) ≤ 4095 then ((wd g (3 + i) % 2048 : Nat) : Int) else 0) := by
      by_cases c : wd g (3 + i) ≤ 4095
      · rw [decide_eq_true (by omega), if_pos c]; rfl
      · rw [decide_eq_false (by omega), if_neg c]; rfl
    rw [e, bindO_s, bindO_s, app8 _ (by omega), bindO_s, Right_eq (hs _), bindO_s, app1 _ (by omega), bindO_s, wrap_i64 (by omega) (by omega)]
    rfl
  unfold F_ref1_Values
  rw [L]; rfl
theorem Seal_eq (hs : Small g) : F_frame_Seal (en g h) = if wideN g then some (en zero64 (by simp [zero64]), 9) else some (en (finN (sealF g)) (sealed_len h), 0) := by
  unfold F_frame_Seal
  rw [wide_eq, bindO_s, en_rep]
  by_cases c : wideN g
  · rw [decide_eq_true c, iteB_tr, if_pos c]
  · rw [decide_eq_false c, iteB_fa, if_neg c]
    have L : F_frame_Seal_L1 (0, en g h) = some (en (sealF g) ((sealF_len g).trans h)) := by
      unfold F_frame_Seal_L1
      refine (loopO_seq (fun i => ((i : Int), en (sealTo g i) ((sealTo_len g i).trans h))) 0 60 (some (en (sealTo g 60) ((sealTo_len g 60).trans h))) (by decide) (by decide) (fun k i _ hi => ?_) (fun k => rfl)).trans ?_
      · have q := sealTo_small hs i
        have e1 : ((i : Int) + 1) = ((i + 1 : Nat) : Int) := by omega
        simp only [letO_eq]
        rw [show decide ((i : Int) < 60) = true from decide_eq_true (by omega), iteB_tr, wrap_i64 (by omega) (by omega), e1, at_en (by omega), bindO_s, data_eq (q _), bindO_s, word_eq (by omega), bindO_s, bindO_s, set_en, show wd (sealTo g i) (i + 1) = wd g (i + 1) by rw [sealTo_wd h i (by omega), if_neg (by omega)]]
        rfl
      · exact congrArg some (en_inj.2 (sealF_eq rfl))
    rw [L, bindO_s, finish_eq (sealF_small hs), bindO_s]
theorem rSeal_eq (hs : Small g) : F_ref1_Seal (en g h) = if wideN g then some (en zero64 (by simp [zero64]), 9) else some (en (finN (sealF g)) (sealed_len h), 0) := by
  unfold F_ref1_Seal X_sealed
  rw [rWide_eq, bindO_s, en_rep, natF_en hs]
  by_cases c : wideN g
  · rw [decide_eq_true c, iteB_tr, if_pos c]
  · rw [decide_eq_false c, iteB_fa, if_neg c]
    show bindO (enO (finN (sealF g))) _ = _
    rw [enO_eq (sealed_len h), bindO_s]
/-! ### Digests -/
def hstep (n x : Int) : Int := IntKind.u64.wrap (bits .xor .u64 n x * 1099511628211)
def hashTo (g : List Nat) : Nat → Int
  | 0 => 14695981039346656037
  | k + 1 => hstep (hstep (hashTo g k) ((wd g k / 256 : Nat) : Int)) ((wd g k % 256 : Nat) : Int)
def digTo (n : Int) : Nat → Arr 8 Int
  | 0 => Arr.rep 8 0
  | k + 1 => Arr.set (digTo n k) (k : Int) (IntKind.u8.wrap (n / 2 ^ (56 - 8 * k)))
def h2 (n a b : Int) : Nat → Int
  | 0 => n
  | 1 => hstep n a
  | _ => hstep (hstep n a) b
theorem hash_L2 (a b n : Int) : F_frame_Hash_L2 a b (n, 0) = some (hstep (hstep n a) b) := by
  unfold F_frame_Hash_L2
  refine loopO_seq (fun i => (h2 n a b i, (i : Int))) 0 2 (some (hstep (hstep n a) b)) (by decide) (by decide) (fun k i _ hi => ?_) (fun k => ?_)
  · match i, hi with
    | 0, _ => rfl
    | 1, _ => rfl
  · rfl
theorem rhash_L2 (a b n : Int) : F_ref1_Hash_L2 a b 2 (n, 0) = some (hstep (hstep n a) b) := by
  unfold F_ref1_Hash_L2
  refine loopO_seq (fun i => (h2 n a b i, (i : Int))) 0 2 (some (hstep (hstep n a) b)) (by decide) (by decide) (fun k i _ hi => ?_) (fun k => ?_)
  · match i, hi with
    | 0, _ => rfl
    | 1, _ => rfl
  · rfl
theorem hash_L3 (n : Int) : F_frame_Hash_L3 n (0, (Arr.rep 8 0 : Arr 8 Int)) = some (digTo n 8) := by
  unfold F_frame_Hash_L3
  refine loopO_seq (fun i => ((i : Int), digTo n i)) 0 8 _ (by decide) (by decide) (fun k i _ hi => ?_) (fun k => rfl)
  have e1 : IntKind.i64.wrap (8 * (i : Int)) = 8 * (i : Int) := wrap_i64 (by omega) (by omega)
  have e2 : IntKind.i64.wrap (56 - 8 * (i : Int)) = ((56 - 8 * i : Nat) : Int) := by rw [wrap_i64 (by omega) (by omega)]; omega
  have e3 : shr' .u64 n ((56 - 8 * i : Nat) : Int) = some (n / 2 ^ (56 - 8 * i)) := by
    unfold shr'
    rw [if_pos ⟨by omega, by show ((56 - 8 * i : Nat) : Int) ≤ 64; omega⟩]
    simp
  obtain ⟨y, hy⟩ : ∃ y, at' (digTo n i).l (i : Int) = some y := by
    rw [at_nat]
    exact ⟨_, List.getElem?_eq_getElem (by rw [(digTo n i).h]; exact hi)⟩
  simp only [letO_eq]
  rw [show decide ((i : Int) < 8) = true from decide_eq_true (by omega), iteB_tr, e1, e2, e3, bindO_s, hy, bindO_s, wrap_i64 (by omega) (by omega)]
  rfl
theorem rhash_L3 (n : Int) : F_ref1_Hash_L3 n (0, (Arr.rep 8 0 : Arr 8 Int)) = some (digTo n 8) := by
  rw [← hash_L3]
  unfold F_ref1_Hash_L3 F_frame_Hash_L3
  rfl
theorem Hash_eq (hs : Small g) : F_frame_Hash (en g h) = some (digTo (hashTo g 64) 8) := by
  have L : F_frame_Hash_L1 (en g h) (14695981039346656037, 0) = some (hashTo g 64) := by
    unfold F_frame_Hash_L1
    refine loopO_seq (fun i => (hashTo g i, (i : Int))) 0 64 _ (by decide) (by decide) (fun k i _ hi => ?_) (fun k => rfl)
    have q := hs i
    have e1 : shr' .u16 ((wd g i : Nat) : Int) 8 = some ((wd g i / 256 : Nat) : Int) := shr_nat (b := 8) (by decide)
    have e2 : bits .and .u16 ((wd g i : Nat) : Int) 255 = ((wd g i % 256 : Nat) : Int) := by rw [mask_u16 (m := 256) 8 (by decide) (by decide) (by omega) (by omega)]; omega
    simp only [letO_eq]
    rw [show decide ((i : Int) < 64) = true from decide_eq_true (by omega), iteB_tr, at_en (by omega), bindO_s, e1, bindO_s, e2, wrap_u64 (by omega) (by omega), wrap_u64 (by omega) (by omega), hash_L2, bindO_s, wrap_i64 (by omega) (by omega)]
    rfl
  unfold F_frame_Hash
  rw [L, bindO_s, hash_L3, bindO_s]
theorem rHash_eq (hs : Small g) : F_ref1_Hash (en g h) = some (digTo (hashTo g 64) 8) := by
  have L : F_ref1_Hash_L1 (en g h) (14695981039346656037, 0) = some (hashTo g 64) := by
    unfold F_ref1_Hash_L1
    refine loopO_seq (fun i => (hashTo g i, (i : Int))) 0 64 _ (by decide) (by decide) (fun k i _ hi => ?_) (fun k => rfl)
    have q := hs i
    have e1 : quo' .u16 ((wd g i : Nat) : Int) 256 = some ((wd g i / 256 : Nat) : Int) := by
      unfold quo'
      rw [if_neg (by decide), Int.tdiv_eq_ediv_of_nonneg (by omega), wrap_u16 (by omega) (by omega)]
      simp
    have e2 : rem' ((wd g i : Nat) : Int) 256 = some ((wd g i % 256 : Nat) : Int) := rem_nat (b := 256) (by decide)
    simp only [letO_eq]
    rw [show decide ((i : Int) < 64) = true from decide_eq_true (by omega), iteB_tr, at_en (by omega), bindO_s, e1, bindO_s, e2, bindO_s, wrap_u64 (by omega) (by omega), wrap_u64 (by omega) (by omega)]
    rw [show ((([((wd g i / 256 : Nat) : Int), ((wd g i % 256 : Nat) : Int)] : List Int).length : Nat) : Int) = 2 from rfl, rhash_L2, bindO_s, wrap_i64 (by omega) (by omega)]
    rfl
  unfold F_ref1_Hash
  rw [L, bindO_s, rhash_L3, bindO_s]
/-- The law of reading. -/
theorem law_Read (hs : Small g) : F_law1_FrameReadMatchesSpec (en g h) = some true := by
  have l1 := valL_len g 58
  have l2 := rigL_len g 58
  have l3 := flawsL_len g
  unfold F_law1_FrameReadMatchesSpec
  simp only [Number_eq hs, rNumber_eq hs, Values_eq hs, rValues_eq hs, Flaws_eq hs, rFlaws_eq hs, Hash_eq hs, rHash_eq hs, bindO_s, letO_eq, X_framed]
  rw [EqualI (by omega) (by omega), EqualB (by omega) (by omega), EqualF (by omega) (by omega), Seal_eq hs, rSeal_eq hs]
  by_cases c : wideN g
  · rw [if_pos c]
    simp [iteB, bindO]
  · rw [if_neg c]
    simp [iteB, bindO]
end
end Go.Lf
