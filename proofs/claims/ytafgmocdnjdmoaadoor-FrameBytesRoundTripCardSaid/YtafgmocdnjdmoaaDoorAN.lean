/- Walks: what each function computes, for every argument; no condition but those that stand in the statements. -/
import Derived.Test.YtafgmocdnjdmoaaDoorAP
import Derived.Test.YtafgmocdnjdmoaaDoorPl
import Derived.Test.YtafgmocdnjdmoaaDoorCrc
import Derived.Test.YtafgmocdnjdmoaaDoorSeal
import Derived.Test.YtafgmocdnjdmoaaDoorDist
import Derived.Test.YtafgmocdnjdmoaaDoorBitsx
import Derived.Test.YtafgmocdnjdmoaaDoorVals
import Derived.Test.YtafgmocdnjdmoaaDoorByu
namespace Go.Lf
open Go.RowKit Go.OB Go.Fr1
/-- A loop whose states are a sequence. -/
theorem loopO_seq {γ β : Type} {body : (γ → Option β) → γ → Option β} (E : Nat → γ) (a n : Nat) (r : Option β) (han : a ≤ n) (hn : n ≤ 9223372036854775807)
    (hs : ∀ k i, a ≤ i → i < n → body k (E i) = k (E (i + 1))) (he : ∀ k, body k (E n) = r) : loopO body (E a) = r := by
  have key : ∀ m fu i, i + m = n → a ≤ i → m < fu → loopN body fu (E i) = r := by
    intro m
    induction m with
    | zero =>
      intro fu i h1 h2 h3
      obtain ⟨fu, rfl⟩ : ∃ k, fu = k + 1 := ⟨fu - 1, by omega⟩
      have : i = n := by omega
      subst this
      exact he _
    | succ m ih =>
      intro fu i h1 h2 h3
      obtain ⟨fu, rfl⟩ : ∃ k, fu = k + 1 := ⟨fu - 1, by omega⟩
      show body (loopN body fu) (E i) = r
      rw [hs _ i h2 (by omega)]
      exact ih fu (i + 1) (by omega) (by omega) (by omega)
  exact key (n - a) FU a (by omega) (Nat.le_refl _) (FU_big (by omega))
theorem at_en {g : List Nat} {h : g.length = 64} {i : Nat} (hi : i < 64) : at' (en g h).l (i : Int) = some ((wd g i : Nat) : Int) := by
  rw [at_nat]
  have : i < g.length := by omega
  simp [en, wd, List.getD_eq_getElem?_getD, this]
theorem set_en {g : List Nat} {h : g.length = 64} (i x : Nat) : Arr.set (en g h) (i : Int) (x : Int) = en (g.set i x) (by rw [List.length_set]; exact h) := by
  apply Arr.ext
  simp [Arr.set, en, List.map_set]
theorem en_inj {g g' : List Nat} {h : g.length = 64} {h' : g'.length = 64} : en g h = en g' h' ↔ g = g' := by
  constructor
  · intro e
    have := congrArg Arr.l e
    simp only [en] at this
    exact List.map_inj_right (fun a b h => by omega) |>.1 this
  · rintro rfl; rfl
theorem en_rep : (Arr.rep 64 0 : Arr 64 Int) = en zero64 (by simp [zero64]) := by
  apply Arr.ext
  simp [Arr.rep, en, zero64]
theorem dec_dec {p q : Prop} [Decidable p] [Decidable q] (h : p ↔ q) : decide p = decide q := decide_eq_decide.2 h
theorem shr_nat {k : IntKind} {a b : Nat} (hb : b ≤ k.bits) : shr' k (a : Int) (b : Int) = some ((a / 2 ^ b : Nat) : Int) := by
  unfold shr'
  rw [if_pos ⟨by omega, by omega⟩]
  simp
theorem rem_nat {a b : Nat} (hb : b ≠ 0) : rem' (a : Int) (b : Int) = some ((a % b : Nat) : Int) := by
  unfold rem'
  rw [if_neg (by omega), Int.tmod_eq_emod_of_nonneg (by omega)]
  simp
theorem quo_nat {a b : Nat} (hb : b ≠ 0) (ha : a < 4611686018427387904) : quo' .i64 (a : Int) (b : Int) = some ((a / b : Nat) : Int) := by
  unfold quo'
  have h1 : a / b ≤ a := Nat.div_le_self _ _
  have e : (a : Int) / (b : Int) = ((a / b : Nat) : Int) := by simp
  rw [if_neg (by omega), Int.tdiv_eq_ediv_of_nonneg (by omega), e]
  generalize a / b = q at *
  rw [wrap_i64 (by omega) (by omega)]
/-! ### Words -/
theorem cnt_tab : ∀ i : Fin 256, byte' [0, 1, 1, 2, 1, 2, 2, 3, 1, 2, 2, 3, 2, 3, 3, 4, 1, 2, 2, 3, 2, 3, 3, 4, 2, 3, 3, 4, 3, 4, 4, 5, 1, 2, 2, 3, 2, 3, 3, 4, 2, 3, 3, 4, 3, 4, 4, 5, 2, 3, 3, 4, 3, 4, 4, 5, 3, 4, 4, 5, 4, 5, 5, 6, 1, 2, 2, 3, 2, 3, 3, 4, 2, 3, 3, 4, 3, 4, 4, 5, 2, 3, 3, 4, 3, 4, 4, 5, 3, 4, 4, 5, 4, 5, 5, 6, 2, 3, 3, 4, 3, 4, 4, 5, 3, 4, 4, 5, 4, 5, 5, 6, 3, 4, 4, 5, 4, 5, 5, 6, 4, 5, 5, 6, 5, 6, 6, 7, 1, 2, 2, 3, 2, 3, 3, 4, 2, 3, 3, 4, 3, 4, 4, 5, 2, 3, 3, 4, 3, 4, 4, 5, 3, 4, 4, 5, 4, 5, 5, 6, 2, 3, 3, 4, 3, 4, 4, 5, 3, 4, 4, 5, 4, 5, 5, 6, 3, 4, 4, 5, 4, 5, 5, 6, 4, 5, 5, 6, 5, 6, 6, 7, 2, 3, 3, 4, 3, 4, 4, 5, 3, 4, 4, 5, 4, 5, 5, 6, 3, 4, 4, 5, 4, 5, 5, 6, 4, 5, 5, 6, 5, 6, 6, 7, 3, 4, 4, 5, 4, 5, 5, 6, 4, 5, 5, 6, 5, 6, 6, 7, 4, 5, 5, 6, 5, 6, 6, 7, 5, 6, 6, 7, 6, 7, 7, 8] (i.val : Int) = some ((popF 8 i.val : Nat) : Int) := by decide +kernel
theorem cnt_at {i : Nat} (hi : i < 256) : byte' [0, 1, 1, 2, 1, 2, 2, 3, 1, 2, 2, 3, 2, 3, 3, 4, 1, 2, 2, 3, 2, 3, 3, 4, 2, 3, 3, 4, 3, 4, 4, 5, 1, 2, 2, 3, 2, 3, 3, 4, 2, 3, 3, 4, 3, 4, 4, 5, 2, 3, 3, 4, 3, 4, 4, 5, 3, 4, 4, 5, 4, 5, 5, 6, 1, 2, 2, 3, 2, 3, 3, 4, 2, 3, 3, 4, 3, 4, 4, 5, 2, 3, 3, 4, 3, 4, 4, 5, 3, 4, 4, 5, 4, 5, 5, 6, 2, 3, 3, 4, 3, 4, 4, 5, 3, 4, 4, 5, 4, 5, 5, 6, 3, 4, 4, 5, 4, 5, 5, 6, 4, 5, 5, 6, 5, 6, 6, 7, 1, 2, 2, 3, 2, 3, 3, 4, 2, 3, 3, 4, 3, 4, 4, 5, 2, 3, 3, 4, 3, 4, 4, 5, 3, 4, 4, 5, 4, 5, 5, 6, 2, 3, 3, 4, 3, 4, 4, 5, 3, 4, 4, 5, 4, 5, 5, 6, 3, 4, 4, 5, 4, 5, 5, 6, 4, 5, 5, 6, 5, 6, 6, 7, 2, 3, 3, 4, 3, 4, 4, 5, 3, 4, 4, 5, 4, 5, 5, 6, 3, 4, 4, 5, 4, 5, 5, 6, 4, 5, 5, 6, 5, 6, 6, 7, 3, 4, 4, 5, 4, 5, 5, 6, 4, 5, 5, 6, 5, 6, 6, 7, 4, 5, 5, 6, 5, 6, 6, 7, 5, 6, 6, 7, 6, 7, 7, 8] (i : Int) = some ((popF 8 i : Nat) : Int) := cnt_tab ⟨i, hi⟩
theorem ones_eq {n : Nat} (hn : n < 65536) : F_math_bits_OnesCount16 (n : Int) = some ((pop n : Nat) : Int) := by
  have h1 := cnt_at (i := n / 256) (by omega)
  have h2 := cnt_at (i := n % 256) (by omega)
  have e1 : shr' .u16 (n : Int) 8 = some ((n / 256 : Nat) : Int) := shr_nat (b := 8) (by decide)
  have e2 : bits .and .u16 (n : Int) 255 = ((n % 256 : Nat) : Int) := by rw [mask_u16 (m := 256) 8 (by decide) (by decide) (by omega) (by omega)]; omega
  have q1 := popF_le 8 (n / 256)
  have q2 := popF_le 8 (n % 256)
  have q3 := pop_eq (n := n)
  unfold F_math_bits_OnesCount16
  rw [e1, bindO_s, h1, bindO_s, letO_eq, e2, h2, bindO_s, letO_eq, letO_eq]
  generalize popF 8 (n / 256) = A at *
  generalize popF 8 (n % 256) = B at *
  rw [wrap_u8 (by omega) (by omega), wrap_i64 (by omega) (by omega)]
  congr 1; omega
theorem odd_eq {n : Nat} (hn : n < 65536) : F_frame_odd (n : Int) = some (decide (goodW n)) := by
  have q := popF_le 16 n
  unfold F_frame_odd
  simp only [letO_eq, ones_eq hn, bindO_s]
  have e : rem' ((pop n : Nat) : Int) 2 = some ((pop n % 2 : Nat) : Int) := rem_nat (b := 2) (by decide)
  rw [e]
  simp only [bindO_s]
  have e2 : decide ((n : Int) ≤ 4095) = decide (n ≤ 4095) := dec_dec (by omega)
  have e3 : decide (((pop n % 2 : Nat) : Int) = 1) = decide (oddN n) := dec_dec (by unfold oddN; omega)
  have e4 : decide (goodW n) = (decide (n ≤ 4095) && decide (oddN n)) := by
    rw [Bool.eq_iff_iff, Bool.and_eq_true, decide_eq_true_eq, decide_eq_true_eq, decide_eq_true_eq]; exact Iff.rfl
  rw [e2, e3, e4]
  generalize decide (oddN n) = z
  cases decide (n ≤ 4095) <;> rfl
theorem word_eq {d : Nat} (hd : d < 2048) : F_frame_word (d : Int) = some ((wordN d : Nat) : Int) := by
  unfold F_frame_word
  simp only [letO_eq]
  rw [wrap_u16 (by omega) (by omega), odd_eq (by omega), bindO_s]
  have e : decide (goodW d) = decide (oddN d) := dec_dec ⟨fun q => q.2, fun q => ⟨by omega, q⟩⟩
  rw [e]
  unfold wordN
  by_cases h : oddN d
  · rw [decide_eq_true h, if_pos h]; rfl
  · rw [decide_eq_false h, if_neg h]
    show some (bits .or .u16 (d : Int) 2048) = _
    rw [OB.or_comm, join_u16 (m := 2048) 11 (by decide) (by omega) (by omega) (by omega) (by omega) (by omega) (by omega)]
    congr 1; omega
theorem data_eq {x : Nat} (hx : x < 65536) : F_frame_data (x : Int) = some ((x % 2048 : Nat) : Int) := by
  unfold F_frame_data
  simp only [letO_eq]
  rw [mask_u16 (m := 2048) 11 (by decide) (by decide) (by omega) (by omega), wrap_i64 (by omega) (by omega)]
  congr 1
/-! ### Number, sum and check -/
section
variable {g : List Nat} {h : g.length = 64}
theorem number_eq (hs : Small g) : F_frame_numberOf (some (en g h)) = some ((numN g : Nat) : Int) := by
  have h1 := hs 1
  have h2 := hs 2
  unfold F_frame_numberOf
  rw [bindO_s, show (1 : Int) = ((1 : Nat) : Int) from rfl, at_en (by decide), bindO_s, data_eq h1, bindO_s, bindO_s, show (2 : Int) = ((2 : Nat) : Int) from rfl, at_en (by decide), bindO_s, data_eq h2, bindO_s]
  have e : shl' .i64 ((wd g 2 % 2048 : Nat) : Int) 11 = some ((wd g 2 % 2048 * 2048 : Nat) : Int) := by
    unfold shl'
    rw [if_pos (by decide)]
    congr 1
    rw [show (2 : Int) ^ (11 : Int).toNat = 2048 by decide, wrap_i64 (by omega) (by omega)]
    omega
  rw [e, bindO_s, letO_eq, OB.or_comm, join_i64 (m := 2048) 11 (by decide) (by omega) (by omega) (by omega) (by omega) (by omega) (by omega)]
  unfold numN
  congr 1; omega
theorem sum_eq (hs : Small g) : F_frame_sumOf (some (en g h)) = some ((sumN g : Nat) : Int) := by
  have L : F_frame_sumOf_L1 (some (en g h)) (0, 0) = some ((sumN g : Nat) : Int) := by
    unfold F_frame_sumOf_L1
    refine loopO_seq (fun i => (((xorTo g i : Nat) : Int), ((i : Nat) : Int))) 0 60 _ (by decide) (by decide) (fun k i _ hi => ?_) (fun k => rfl)
    have h1 := hs (i + 1)
    have h2 := xorTo_lt g i
    have e1 : ((i : Int) + 1) = ((i + 1 : Nat) : Int) := by omega
    simp only [letO_eq]
    rw [show decide ((i : Int) < 60) = true from decide_eq_true (by omega), iteB_tr, wrap_i64 (by omega) (by omega), bindO_s, e1, at_en (by omega), bindO_s, data_eq h1, bindO_s,
      xor_i64 _ _ (by omega) (by omega)]
    rfl
  unfold F_frame_sumOf
  rw [L, bindO_s]
theorem crc_bits (hs : Small g) {i : Nat} (hi : i < 62) (n : Nat) (hn : n < 4194304) : F_frame_checkOf_L2 (some (en g h)) (i : Int) ((n : Int), 11) = some ((crcBits n (wd g i) 12 : Nat) : Int) := by
  unfold F_frame_checkOf_L2
  have h1 := hs i
  refine loopO_seq (fun j => (((crcBits n (wd g i) j : Nat) : Int), 11 - (j : Int))) 0 12 _ (by decide) (by decide) (fun k j _ hj => ?_) (fun k => ?_)
  · have h2 := crcBits_lt (n := n) (w := wd g i) hn j
    generalize hq : crcBits n (wd g i) j = q at *
    have e0 : (11 : Int) - (j : Int) = ((11 - j : Nat) : Int) := by omega
    have e1 : shl' .i64 (q : Int) 1 = some ((q * 2 : Nat) : Int) := by
      unfold shl'
      rw [if_pos (by decide)]
      congr 1
      rw [show (2 : Int) ^ (1 : Int).toNat = 2 by decide, wrap_i64 (by omega) (by omega)]
      omega
    have e2 : bits .and .i64 ((q * 2 : Nat) : Int) 4194303 = ((q * 2 % 4194304 : Nat) : Int) := by
      rw [mask_i64 (m := 4194304) 22 (by decide) (by decide) (by omega) (by omega)]; omega
    have e3 : bits .and .u16 ((wd g i / 2 ^ (11 - j) : Nat) : Int) 1 = ((wd g i / 2 ^ (11 - j) % 2 : Nat) : Int) := by
      have : wd g i / 2 ^ (11 - j) ≤ wd g i := Nat.div_le_self _ _
      generalize wd g i / 2 ^ (11 - j) = z at *
      rw [mask_u16 (m := 2) 1 (by decide) (by decide) (by omega) (by omega)]; omega
    simp only [letO_eq]
    rw [show decide ((0 : Int) ≤ 11 - (j : Int)) = true from decide_eq_true (by omega), iteB_tr, and_top h2, e1, bindO_s, e2, bindO_s, at_en (by omega), bindO_s, e0, shr_nat (by show 11 - j ≤ 16; omega), bindO_s, e3]
    have e4 : decide ((if 2097152 ≤ q then (2097152 : Int) else 0) ≠ 0) = decide (2097152 ≤ q) := by split <;> simp_all
    have e5 : decide (((wd g i / 2 ^ (11 - j) % 2 : Nat) : Int) = 1) = decide (wd g i / 2 ^ (11 - j) % 2 = 1) := dec_dec (by omega)
    have e6 : IntKind.i64.wrap (((11 - j : Nat) : Int) - 1) = 11 - ((j + 1 : Nat) : Int) := by rw [wrap_i64 (by omega) (by omega)]; omega
    rw [e4, e5, e6]
    cases hb : (!(decide (2097152 ≤ q) == decide (wd g i / 2 ^ (11 - j) % 2 = 1))) with
    | true =>
      have e7 : bits .xor .i64 ((q * 2 % 4194304 : Nat) : Int) 2097167 = (((q * 2 % 4194304) ^^^ 2097167 : Nat) : Int) := xor_i64' (q * 2 % 4194304) 2097167 rfl rfl (by omega) (by decide)
      rw [iteB_tr, bindO_s, e7]
      rw [← hq] at hb
      rw [crcBits_ne hb, hq]
    | false =>
      rw [iteB_fa, bindO_s]
      rw [← hq] at hb
      rw [crcBits_eq hb, hq]
  · simp only [letO_eq]
    rw [show decide ((0 : Int) ≤ 11 - ((12 : Nat) : Int)) = false from by decide, iteB_fa]
theorem check_eq (hs : Small g) : F_frame_checkOf (some (en g h)) = some ((checkN g : Nat) : Int) := by
  have L : F_frame_checkOf_L1 (some (en g h)) (0, 0) = some ((checkN g : Nat) : Int) := by
    unfold F_frame_checkOf_L1
    refine loopO_seq (fun i => (((crcTo g i : Nat) : Int), ((i : Nat) : Int))) 0 62 _ (by decide) (by decide) (fun k i _ hi => ?_) (fun k => rfl)
    simp only [letO_eq]
    rw [show decide ((i : Int) < 62) = true from decide_eq_true (by omega), iteB_tr, crc_bits hs hi _ (crcTo_lt g i), bindO_s, wrap_i64 (by omega) (by omega)]
    rfl
  unfold F_frame_checkOf
  rw [L, bindO_s]
end
end Go.Lf
namespace Go.Lf
open Go.RowKit Go.OB Go.Fr1
theorem sync_at {k : Nat} (hk : k < 4) : at' G_frame_syncs.l (k : Int) = some ((wd tab k : Nat) : Int) := by
  have : ∀ i : Fin 4, at' G_frame_syncs.l (i.val : Int) = some ((wd tab i.val : Nat) : Int) := by decide +kernel
  exact this ⟨k, hk⟩
theorem len_set {g : List Nat} (h : g.length = 64) (i x : Nat) : (g.set i x).length = 64 := by rw [List.length_set]; exact h
theorem wide_eq {g : List Nat} {h : g.length = 64} : F_frame_wide (some (en g h)) = some (decide (wideN g)) := by
  unfold F_frame_wide
  rw [joinO_eq]
  unfold F_frame_wide_L1
  by_cases hw : wideN g
  · rw [decide_eq_true hw]
    obtain ⟨i0, h0, h1⟩ := hw
    -- the first one
    have : ∃ m, m < 64 ∧ 4095 < wd g m ∧ ∀ i, i < m → ¬ 4095 < wd g i := by
      have key : ∀ n, (∀ i, i < n → ¬ 4095 < wd g i) ∨ ∃ m, m < n ∧ 4095 < wd g m ∧ ∀ i, i < m → ¬ 4095 < wd g i := by
        intro n
        induction n with
        | zero => exact .inl fun i hi => by omega
        | succ n ih =>
          rcases ih with ih | ⟨m, q1, q2, q3⟩
          · by_cases hq : 4095 < wd g n
            · exact .inr ⟨n, by omega, hq, ih⟩
            · exact .inl (upto_succ ih hq)
          · exact .inr ⟨m, by omega, q2, q3⟩
      rcases key 64 with k | k
      · exact absurd h1 (k i0 h0)
      · exact k
    obtain ⟨m, m1, m2, m3⟩ := this
    refine loopO_seq (fun i => (i : Int)) 0 m _ (by omega) (by omega) (fun k i _ hi => ?_) (fun k => ?_)
    · simp only [letO_eq]
      rw [show decide ((i : Int) < 64) = true from decide_eq_true (by omega), iteB_tr, bindO_s, at_en (by omega), bindO_s, show decide ((4095 : Int) < ((wd g i : Nat) : Int)) = false from decide_eq_false (by have := m3 i hi; omega), iteB_fa, wrap_i64 (by omega) (by omega)]
      rfl
    · simp only [letO_eq]
      rw [show decide ((m : Int) < 64) = true from decide_eq_true (by omega), iteB_tr, bindO_s, at_en (by omega), bindO_s, show decide ((4095 : Int) < ((wd g m : Nat) : Int)) = true from decide_eq_true (by omega), iteB_tr]
  · rw [decide_eq_false hw]
    have hn := notwide h hw
    refine loopO_seq (fun i => (i : Int)) 0 64 _ (by decide) (by decide) (fun k i _ hi => ?_) (fun k => rfl)
    simp only [letO_eq]
    rw [show decide ((i : Int) < 64) = true from decide_eq_true (by omega), iteB_tr, bindO_s, at_en (by omega), bindO_s, show decide ((4095 : Int) < ((wd g i : Nat) : Int)) = false from decide_eq_false (by have := hn i; omega), iteB_fa, wrap_i64 (by omega) (by omega)]
    rfl
section
variable {g : List Nat} {h : g.length = 64}
theorem finish_eq (hs : Small g) : F_frame_finish (en g h) = some (en (finN g) ((finN_len g).trans h)) := by
  have h1 := (fin1_len g).trans h
  have h2 := (fin2_len g).trans h
  have h3 := (fin3_len g).trans h
  have s1 := fin1_small hs
  have s2 := fin2_small hs
  have n1 := numN_lt g
  have n2 := sumN_lt (fin1 g)
  have n3 := checkN_lt (fin2 g)
  have t := tab_lt (numN g % 4)
  have e4 : rem' ((numN g : Nat) : Int) 4 = some ((numN g % 4 : Nat) : Int) := rem_nat (b := 4) (by decide)
  have a0 : at' (en g h).l 0 = some ((wd g 0 : Nat) : Int) := at_en (i := 0) (by decide)
  have c0 : Arr.set (en g h) 0 ((wd tab (numN g % 4) : Nat) : Int) = en (fin1 g) h1 := set_en 0 _
  have a1 : at' (en (fin1 g) h1).l 61 = some ((wd (fin1 g) 61 : Nat) : Int) := at_en (i := 61) (by decide)
  have c1 : Arr.set (en (fin1 g) h1) 61 ((wordN (sumN (fin1 g)) : Nat) : Int) = en (fin2 g) h2 := set_en 61 _
  have a2 : at' (en (fin2 g) h2).l 62 = some ((wd (fin2 g) 62 : Nat) : Int) := at_en (i := 62) (by decide)
  have c2 : Arr.set (en (fin2 g) h2) 62 ((wordN (checkN (fin2 g) / 2048) : Nat) : Int) = en (fin3 g) h3 := set_en 62 _
  have a3 : at' (en (fin3 g) h3).l 63 = some ((wd (fin3 g) 63 : Nat) : Int) := at_en (i := 63) (by decide)
  have c3 : Arr.set (en (fin3 g) h3) 63 ((wordN (checkN (fin2 g) % 2048) : Nat) : Int) = en (finN g) ((finN_len g).trans h) := set_en 63 _
  have e5 : shr' .i64 ((checkN (fin2 g) : Nat) : Int) 11 = some ((checkN (fin2 g) / 2048 : Nat) : Int) := shr_nat (b := 11) (by decide)
  have e6 : bits .and .i64 ((checkN (fin2 g) : Nat) : Int) 2047 = ((checkN (fin2 g) % 2048 : Nat) : Int) := by rw [mask_i64 (m := 2048) 11 (by decide) (by decide) (by omega) (by omega)]; omega
  unfold F_frame_finish
  rw [number_eq hs, bindO_s, e4, bindO_s, sync_at (by omega), bindO_s, a0, bindO_s, letO_eq, c0, sum_eq s1, bindO_s, word_eq n2, bindO_s, a1, bindO_s, letO_eq, c1, check_eq s2, bindO_s, e5, bindO_s,
    word_eq (by omega), bindO_s, letO_eq, e6, word_eq (by omega), bindO_s, a2, bindO_s, letO_eq, c2, a3, bindO_s, letO_eq, c3]
end
/-- All words but the first have an odd number of ones. -/
def oddsN (g : List Nat) : Prop := ∀ i, i < 64 → 1 ≤ i → goodW (wd g i)
instance (g : List Nat) : Decidable (oddsN g) := by unfold oddsN; exact inferInstance
/-- A sound frame. -/
def soundN (g : List Nat) : Prop := ¬ wideN g ∧ wd g 0 = wd tab (numN g % 4) ∧ wd g 61 % 2048 = sumN g ∧ oddsN g ∧ wd g 62 % 2048 * 2048 + wd g 63 % 2048 = checkN g
instance (g : List Nat) : Decidable (soundN g) := by unfold soundN; exact inferInstance
theorem or_data {a b : Nat} (ha : a < 2048) (hb : b < 2048) : ∃ z, shl' .i64 (a : Int) 11 = some z ∧ bits .or .i64 z (b : Int) = ((a * 2048 + b : Nat) : Int) := by
  refine ⟨((a * 2048 : Nat) : Int), ?_, ?_⟩
  · unfold shl'
    rw [if_pos (by decide)]
    congr 1
    rw [show (2 : Int) ^ (11 : Int).toNat = 2048 by decide, wrap_i64 (by omega) (by omega)]
    omega
  · rw [join_i64 (m := 2048) 11 (by decide) (by omega) (by omega) (by omega) (by omega) (by omega) (by omega)]
    omega
section
variable {g : List Nat} {h : g.length = 64}
theorem odds_loop (hs : Small g) (k : Unit → Option Bool) : F_frame_sound_L1 (some (en g h)) k 1 = if oddsN g then k () else some false := by
  unfold F_frame_sound_L1
  have key : ∀ n, (∀ i, 1 ≤ i → i < n → goodW (wd g i)) ∨ ∃ m, 1 ≤ m ∧ m < n ∧ ¬ goodW (wd g m) ∧ ∀ i, 1 ≤ i → i < m → goodW (wd g i) := by
    intro n
    induction n with
    | zero => exact .inl fun i _ hi => by omega
    | succ n ih =>
      rcases ih with ih | ⟨m, q0, q1, q2, q3⟩
      · by_cases hn : 1 ≤ n
        · by_cases hq : goodW (wd g n)
          · refine .inl fun i h1 h2 => ?_
            by_cases e : i = n
            · subst e; exact hq
            · exact ih i h1 (by omega)
          · exact .inr ⟨n, hn, by omega, hq, ih⟩
        · exact .inl fun i h1 h2 => by omega
      · exact .inr ⟨m, q0, by omega, q2, q3⟩
  rcases key 64 with hk | ⟨m, q0, q1, q2, q3⟩
  · rw [if_pos (show oddsN g from fun i a b => hk i b a)]
    refine loopO_seq (fun i => (i : Int)) 1 64 _ (by decide) (by decide) (fun k i hi0 hi => ?_) (fun k => rfl)
    simp only [letO_eq]
    rw [show decide ((i : Int) < 64) = true from decide_eq_true (by omega), iteB_tr, bindO_s, at_en (by omega), bindO_s, odd_eq (hs i), bindO_s, decide_eq_true (hk i hi0 hi), wrap_i64 (by omega) (by omega)]
    rfl
  · rw [if_neg (show ¬ oddsN g from fun a => q2 (a m (by omega) q0))]
    refine loopO_seq (fun i => (i : Int)) 1 m _ q0 (by omega) (fun k i hi0 hi => ?_) (fun k => ?_)
    · simp only [letO_eq]
      rw [show decide ((i : Int) < 64) = true from decide_eq_true (by omega), iteB_tr, bindO_s, at_en (by omega), bindO_s, odd_eq (hs i), bindO_s, decide_eq_true (q3 i hi0 hi), wrap_i64 (by omega) (by omega)]
      rfl
    · simp only [letO_eq]
      rw [show decide ((m : Int) < 64) = true from decide_eq_true (by omega), iteB_tr, bindO_s, at_en (by omega), bindO_s, odd_eq (hs m), bindO_s, decide_eq_false q2]
      rfl
theorem sound_eq (hs : Small g) : F_frame_sound (some (en g h)) = some (decide (soundN g)) := by
  have e4 : rem' ((numN g : Nat) : Int) 4 = some ((numN g % 4 : Nat) : Int) := rem_nat (b := 4) (by decide)
  have n1 := numN_lt g
  have a0 : at' (en g h).l 0 = some ((wd g 0 : Nat) : Int) := at_en (i := 0) (by decide)
  have a1 : at' (en g h).l 61 = some ((wd g 61 : Nat) : Int) := at_en (i := 61) (by decide)
  have a2 : at' (en g h).l 62 = some ((wd g 62 : Nat) : Int) := at_en (i := 62) (by decide)
  have a3 : at' (en g h).l 63 = some ((wd g 63 : Nat) : Int) := at_en (i := 63) (by decide)
  obtain ⟨z, z1, z2⟩ := or_data (a := wd g 62 % 2048) (b := wd g 63 % 2048) (by omega) (by omega)
  unfold F_frame_sound
  simp only [wide_eq, bindO_s, letO_eq, joinO_eq, number_eq hs, e4, sync_at (show numN g % 4 < 4 by omega), a0, a1, a2, a3, data_eq (hs 61), data_eq (hs 62), data_eq (hs 63), sum_eq hs, check_eq hs, z1, z2, odds_loop hs]
  have d1 : decide (((wd g 0 : Nat) : Int) ≠ ((wd tab (numN g % 4) : Nat) : Int)) = !decide (wd g 0 = wd tab (numN g % 4)) := by rw [Bool.eq_iff_iff]; simp; omega
  have d2 : decide (((wd g 61 % 2048 : Nat) : Int) ≠ ((sumN g : Nat) : Int)) = !decide (wd g 61 % 2048 = sumN g) := by rw [Bool.eq_iff_iff]; simp; omega
  have d3 : decide (((wd g 62 % 2048 * 2048 + wd g 63 % 2048 : Nat) : Int) = ((checkN g : Nat) : Int)) = decide (wd g 62 % 2048 * 2048 + wd g 63 % 2048 = checkN g) := dec_dec (by omega)
  rw [d1, d2, d3]
  by_cases c1 : wideN g
  · rw [decide_eq_true c1, decide_eq_false (show ¬ soundN g from fun q => q.1 c1)]; rfl
  by_cases c2 : wd g 0 = wd tab (numN g % 4)
  · by_cases c3 : wd g 61 % 2048 = sumN g
    · by_cases c4 : oddsN g
      · rw [decide_eq_false c1, decide_eq_true c2, decide_eq_true c3, if_pos c4]
        show some _ = some _
        congr 1
        exact dec_dec ⟨fun q => ⟨c1, c2, c3, c4, q⟩, fun q => q.2.2.2.2⟩
      · rw [decide_eq_false c1, decide_eq_true c2, decide_eq_true c3, if_neg c4, decide_eq_false (show ¬ soundN g from fun q => c4 q.2.2.2.1)]; rfl
    · rw [decide_eq_false c1, decide_eq_true c2, decide_eq_false c3, decide_eq_false (show ¬ soundN g from fun q => c3 q.2.2.1)]; rfl
  · rw [decide_eq_false c1, decide_eq_false c2, decide_eq_false (show ¬ soundN g from fun q => c2 q.2.1)]; rfl
end
end Go.Lf
namespace Go.Lf
open Go.RowKit Go.OB Go.Fr1
/-- The words among the first k that are too wide. -/
def flW (g : List Nat) : Nat → List Flaw
  | 0 => []
  | k + 1 => if 4095 < wd g k then flW g k ++ [⟨(k : Nat), 5⟩] else flW g k
def flO (l : List Flaw) (g : List Nat) : Nat → List Flaw
  | 0 => l
  | k + 1 => if goodW (wd g (k + 1)) then flO l g k else flO l g k ++ [⟨((k + 1 : Nat) : Int), 2⟩]
theorem flW_len (g : List Nat) : ∀ k, (flW g k).length ≤ k
  | 0 => by simp [flW]
  | k + 1 => by have := flW_len g k; unfold flW; split <;> simp <;> omega
theorem flO_len (l : List Flaw) (g : List Nat) : ∀ k, (flO l g k).length ≤ l.length + k
  | 0 => by simp [flO]
  | k + 1 => by have := flO_len l g k; unfold flO; split <;> simp <;> omega
theorem flW_nil (g : List Nat) : ∀ k, flW g k = [] ↔ ∀ i, i < k → ¬ 4095 < wd g i
  | 0 => by simp [flW]
  | k + 1 => by
    have ih := flW_nil g k
    unfold flW
    constructor
    · intro h
      split at h
      · simp at h
      · rename_i c; exact upto_succ (ih.1 h) c
    · intro h
      rw [if_neg (h k (by omega))]
      exact ih.2 fun i hi => h i (by omega)
theorem flO_nil (g : List Nat) : ∀ k, flO [] g k = [] ↔ ∀ i, 1 ≤ i → i < k + 1 → goodW (wd g i)
  | 0 => by simp [flO]; omega
  | k + 1 => by
    have ih := flO_nil g k
    unfold flO
    constructor
    · intro h
      split at h
      · rename_i c
        intro i h1 h2
        by_cases e : i = k + 1
        · subst e; exact c
        · exact ih.1 h i h1 (by omega)
      · simp at h
    · intro h
      rw [if_pos (h (k + 1) (by omega) (by omega))]
      exact ih.2 fun i h1 h2 => h i h1 (by omega)
def flS (g : List Nat) : List Flaw := if wd g 0 = wd tab (numN g % 4) then [] else [⟨0, 1⟩]
def flP (g : List Nat) : List Flaw := flO (flS g) g 63
def flT (g : List Nat) : List Flaw := if wd g 61 % 2048 = sumN g then flP g else flP g ++ [⟨61, 3⟩]
def flC (g : List Nat) : List Flaw := if wd g 62 % 2048 * 2048 + wd g 63 % 2048 = checkN g then flT g else flT g ++ [⟨62, 4⟩]
/-- What is wrong with a frame. -/
def flawsL (g : List Nat) : List Flaw := if flW g 64 = [] then flC g else flW g 64
theorem flS_len (g : List Nat) : (flS g).length ≤ 1 := by unfold flS; split <;> simp
theorem flP_len (g : List Nat) : (flP g).length ≤ 64 := by have := flO_len (flS g) g 63; have := flS_len g; unfold flP; omega
theorem flT_len (g : List Nat) : (flT g).length ≤ 65 := by have := flP_len g; unfold flT; split <;> simp <;> omega
theorem flC_len (g : List Nat) : (flC g).length ≤ 66 := by have := flT_len g; unfold flC; split <;> simp <;> omega
theorem flawsL_len (g : List Nat) : (flawsL g).length ≤ 66 := by
  have := flC_len g
  have := flW_len g 64
  unfold flawsL; split <;> omega
theorem app_nil_l {α : Type} {l m : List α} : l ++ m = [] ↔ l = [] ∧ m = [] := List.append_eq_nil_iff
theorem flawsL_nil (g : List Nat) : flawsL g = [] ↔ soundN g := by
  have hw : flW g 64 = [] ↔ ¬ wideN g := by
    rw [flW_nil]
    exact ⟨fun h ⟨i, h1, h2⟩ => h i h1 h2, fun h i h1 h2 => h ⟨i, h1, h2⟩⟩
  have ho : flO [] g 63 = [] ↔ oddsN g := by
    rw [flO_nil]
    exact ⟨fun h i a b => h i b a, fun h i a b => h i b a⟩
  have hl : ∀ (l : List Flaw) k, flO l g k = [] → l = [] := by
    intro l k
    induction k with
    | zero => exact id
    | succ k ih =>
      intro h
      unfold flO at h
      split at h
      · exact ih h
      · simp at h
  unfold flawsL
  constructor
  · intro h
    split at h
    · rename_i c
      unfold flC at h
      split at h
      · rename_i c5
        unfold flT at h
        split at h
        · rename_i c3
          unfold flP at h
          have h1 := hl _ _ h
          unfold flS at h1
          split at h1
          · rename_i c2
            unfold flS at h
            rw [if_pos c2] at h
            exact ⟨hw.1 c, c2, c3, ho.1 h, c5⟩
          · simp at h1
        · simp at h
      · simp at h
    · rename_i c; exact absurd h c
  · rintro ⟨c1, c2, c3, c4, c5⟩
    rw [if_pos (hw.2 c1)]
    unfold flC flT flP flS
    rw [if_pos c5, if_pos c3, if_pos c2]
    exact ho.2 c4
theorem app16 {l : List Flaw} (x : Flaw) (h : l.length ≤ 200) : app' 16 l [x] = some (l ++ [x]) := by
  unfold app'
  rw [if_pos]
  rw [maxLen_eq]; simp; omega
theorem flaws_L1 {g : List Nat} {h : g.length = 64} : F_frame_Flaws_L1 (en g h) ([], 0) = some (flW g 64) := by
  unfold F_frame_Flaws_L1
  refine loopO_seq (fun i => (flW g i, (i : Int))) 0 64 _ (by decide) (by decide) (fun k i _ hi => ?_) (fun k => rfl)
  have := flW_len g i
  simp only [letO_eq]
  rw [show decide ((i : Int) < 64) = true from decide_eq_true (by omega), iteB_tr, at_en (by omega), bindO_s, app16 _ (by omega), wrap_i64 (by omega) (by omega)]
  by_cases c : 4095 < wd g i
  · rw [show decide ((4095 : Int) < ((wd g i : Nat) : Int)) = true from decide_eq_true (by omega), iteB_tr, bindO_s, bindO_s, show flW g (i + 1) = flW g i ++ [⟨(i : Nat), 5⟩] from if_pos c]
    rfl
  · rw [show decide ((4095 : Int) < ((wd g i : Nat) : Int)) = false from decide_eq_false (by omega), iteB_fa, bindO_s, show flW g (i + 1) = flW g i from if_neg c]
    rfl
section
variable {g : List Nat} {h : g.length = 64}
theorem flaws_L2 (hs : Small g) {l : List Flaw} (hl : l.length ≤ 1) : F_frame_Flaws_L2 (en g h) (l, 1) = some (flO l g 63) := by
  unfold F_frame_Flaws_L2
  refine (loopO_seq (fun i => (flO l g i, ((i + 1 : Nat) : Int))) 0 63 (some (flO l g 63)) (by decide) (by decide) (fun k i _ hi => ?_) (fun k => rfl))
  have := flO_len l g i
  simp only [letO_eq]
  rw [show decide (((i + 1 : Nat) : Int) < 64) = true from decide_eq_true (by omega), iteB_tr, at_en (by omega), bindO_s, odd_eq (hs _), bindO_s, app16 _ (by omega), wrap_i64 (by omega) (by omega)]
  by_cases c : goodW (wd g (i + 1))
  · rw [decide_eq_true c, show flO l g (i + 1) = flO l g i from if_pos c]
    rfl
  · rw [decide_eq_false c, show flO l g (i + 1) = flO l g i ++ [⟨((i + 1 : Nat) : Int), 2⟩] from if_neg c]
    rfl
theorem Flaws_eq (hs : Small g) : F_frame_Flaws (en g h) = some (flawsL g) := by
  have n1 := numN_lt g
  have e4 : rem' ((numN g : Nat) : Int) 4 = some ((numN g % 4 : Nat) : Int) := rem_nat (b := 4) (by decide)
  have a0 : at' (en g h).l 0 = some ((wd g 0 : Nat) : Int) := at_en (i := 0) (by decide)
  have a1 : at' (en g h).l 61 = some ((wd g 61 : Nat) : Int) := at_en (i := 61) (by decide)
  have a2 : at' (en g h).l 62 = some ((wd g 62 : Nat) : Int) := at_en (i := 62) (by decide)
  have a3 : at' (en g h).l 63 = some ((wd g 63 : Nat) : Int) := at_en (i := 63) (by decide)
  obtain ⟨z, z1, z2⟩ := or_data (a := wd g 62 % 2048) (b := wd g 63 % 2048) (by omega) (by omega)
  have d1 : decide (((wd g 0 : Nat) : Int) ≠ ((wd tab (numN g % 4) : Nat) : Int)) = !decide (wd g 0 = wd tab (numN g % 4)) := by rw [Bool.eq_iff_iff]; simp; omega
  have d2 : decide (((wd g 61 % 2048 : Nat) : Int) ≠ ((sumN g : Nat) : Int)) = !decide (wd g 61 % 2048 = sumN g) := by rw [Bool.eq_iff_iff]; simp; omega
  have d3 : decide (((wd g 62 % 2048 * 2048 + wd g 63 % 2048 : Nat) : Int) ≠ ((checkN g : Nat) : Int)) = !decide (wd g 62 % 2048 * 2048 + wd g 63 % 2048 = checkN g) := by rw [Bool.eq_iff_iff]; simp; omega
  unfold F_frame_Flaws flawsL
  rw [flaws_L1, bindO_s, letO_eq, letO_eq]
  by_cases c : flW g 64 = []
  · rw [if_pos c, c]
    rw [show decide (0 < (([] : List Flaw).length : Int)) = false from rfl, iteB_fa, a0, bindO_s, number_eq hs, bindO_s, e4, bindO_s, sync_at (show numN g % 4 < 4 by omega), bindO_s]
    simp only [letO_eq]
    rw [d1]
    have q1 : (iteB (!decide (wd g 0 = wd tab (numN g % 4))) (bindO (app' 16 [] [(⟨0, 1⟩ : Flaw)]) fun x => some x) (some [])) = some (flS g) := by
      rw [app16 _ (by simp)]
      unfold flS
      by_cases c2 : wd g 0 = wd tab (numN g % 4)
      · rw [decide_eq_true c2, if_pos c2]; rfl
      · rw [decide_eq_false c2, if_neg c2]; rfl
    rw [q1, bindO_s, flaws_L2 hs (flS_len g), bindO_s, a1, bindO_s, data_eq (hs 61), bindO_s, sum_eq hs, bindO_s, d2]
    have q2 : (iteB (!decide (wd g 61 % 2048 = sumN g)) (bindO (app' 16 (flP g) [(⟨61, 3⟩ : Flaw)]) fun x => some x) (some (flP g))) = some (flT g) := by
      have := flP_len g
      rw [app16 _ (by omega)]
      unfold flT
      by_cases c2 : wd g 61 % 2048 = sumN g
      · rw [decide_eq_true c2, if_pos c2]; rfl
      · rw [decide_eq_false c2, if_neg c2]; rfl
    unfold flP at q2
    rw [q2, bindO_s, a2, bindO_s, data_eq (hs 62), bindO_s, z1, bindO_s, a3, bindO_s, data_eq (hs 63), bindO_s, z2, check_eq hs, bindO_s, d3]
    have := flT_len g
    rw [app16 _ (by omega)]
    unfold flC
    by_cases c2 : wd g 62 % 2048 * 2048 + wd g 63 % 2048 = checkN g
    · rw [decide_eq_true c2, if_pos c2]; rfl
    · rw [decide_eq_false c2, if_neg c2]; rfl
  · rw [if_neg c, show decide (0 < ((flW g 64).length : Int)) = true from decide_eq_true (by have := List.length_pos_iff.2 c; omega), iteB_tr]
end
/-! ### Lists that are equal -/
theorem first_diff {α : Type} [DecidableEq α] : ∀ (l m : List α), l.length = m.length → l ≠ m → ∃ j, j < l.length ∧ l[j]? ≠ m[j]? ∧ ∀ i, i < j → l[i]? = m[i]?
  | [], [], _, h => absurd rfl h
  | [], _ :: _, h, _ => by simp at h
  | _ :: _, [], h, _ => by simp at h
  | a :: l, b :: m, h, hn => by
    by_cases e : a = b
    · subst e
      obtain ⟨j, h1, h2, h3⟩ := first_diff l m (by simpa using h) (fun e => hn (by rw [e]))
      refine ⟨j + 1, by simp; omega, by simpa using h2, fun i hi => ?_⟩
      cases i with
      | zero => rfl
      | succ i => simpa using h3 i (by omega)
    · exact ⟨0, by simp, by simpa using e, fun i hi => by omega⟩
/-- The loop of slices.Equal. -/
theorem equal_loop {α : Type} [DecidableEq α] {body : (Int → Option Bool) → Int → Option Bool} {l m : List α} (hl : l.length ≤ 9223372036854775807) (hlm : l.length = m.length)
    (hs : ∀ k (i : Nat) x y, l[i]? = some x → m[i]? = some y → i < l.length → body k (i : Int) = if x = y then k ((i + 1 : Nat) : Int) else some false) (he : ∀ k, body k (l.length : Int) = some true) : loopO body 0 = some (decide (l = m)) := by
  by_cases e : l = m
  · rw [decide_eq_true e]
    refine loopO_seq (fun i => (i : Int)) 0 l.length _ (Nat.zero_le _) hl (fun k i _ hi => ?_) he
    subst e
    show body k (i : Int) = _
    rw [hs k i l[i] l[i] (List.getElem?_eq_getElem hi) (List.getElem?_eq_getElem hi) hi, if_pos rfl]
  · rw [decide_eq_false e]
    obtain ⟨j, h1, h2, h3⟩ := first_diff l m hlm e
    refine loopO_seq (fun i => (i : Int)) 0 j _ (Nat.zero_le _) (by omega) (fun k i _ hi => ?_) (fun k => ?_)
    · have := h3 i hi
      show body k (i : Int) = _
      rw [hs k i l[i] l[i] (List.getElem?_eq_getElem (by omega)) (by rw [← this]; exact List.getElem?_eq_getElem (by omega)) (by omega), if_pos rfl]
    · show body k (j : Int) = _
      rw [hs k j l[j] m[j] (List.getElem?_eq_getElem h1) (List.getElem?_eq_getElem (by omega)) h1, if_neg]
      intro e2
      rw [List.getElem?_eq_getElem h1, List.getElem?_eq_getElem (show j < m.length by omega), e2] at h2
      exact h2 rfl
theorem EqualI {l m : List Int} (hl : l.length ≤ 9223372036854775807) (_hm : m.length ≤ 9223372036854775807) : F_slices_Equal___int_int_ l m = some (decide (l = m)) := by
  unfold F_slices_Equal___int_int_
  simp only [letO_eq, joinO_eq]
  by_cases c : l.length = m.length
  · rw [show decide ((l.length : Int) ≠ (m.length : Int)) = false from decide_eq_false (by omega), iteB_fa]
    unfold F_slices_Equal___int_int__L1
    refine equal_loop hl c (fun k i x y hx hy hi => ?_) (fun k => ?_)
    · simp only [letO_eq]
      rw [lt_true hi, iteB_tr, at_ok hx, bindO_s, at_ok hy, bindO_s, wrap1 hi hl]
      by_cases e : x = y
      · rw [if_pos e, show decide (x ≠ y) = false from decide_eq_false (by simpa using e), iteB_fa]
      · rw [if_neg e, show decide (x ≠ y) = true from decide_eq_true e, iteB_tr]
    · simp only [letO_eq]; rw [lt_self]; rfl
  · rw [show decide ((l.length : Int) ≠ (m.length : Int)) = true from decide_eq_true (by omega), iteB_tr, decide_eq_false (fun e => c (by rw [e]))]
theorem EqualB {l m : List Bool} (hl : l.length ≤ 9223372036854775807) (_hm : m.length ≤ 9223372036854775807) : F_slices_Equal___bool_bool_ l m = some (decide (l = m)) := by
  unfold F_slices_Equal___bool_bool_
  simp only [letO_eq, joinO_eq]
  by_cases c : l.length = m.length
  · rw [show decide ((l.length : Int) ≠ (m.length : Int)) = false from decide_eq_false (by omega), iteB_fa]
    unfold F_slices_Equal___bool_bool__L1
    refine equal_loop hl c (fun k i x y hx hy hi => ?_) (fun k => ?_)
    · simp only [letO_eq]
      rw [lt_true hi, iteB_tr, at_ok hx, bindO_s, at_ok hy, bindO_s, wrap1 hi hl]
      by_cases e : x = y
      · rw [if_pos e, show (!(x == y)) = false by simp [e], iteB_fa]
      · rw [if_neg e, show (!(x == y)) = true by simp [e], iteB_tr]
    · simp only [letO_eq]; rw [lt_self]; rfl
  · rw [show decide ((l.length : Int) ≠ (m.length : Int)) = true from decide_eq_true (by omega), iteB_tr, decide_eq_false (fun e => c (by rw [e]))]
theorem EqualF {l m : List Flaw} (hl : l.length ≤ 9223372036854775807) (_hm : m.length ≤ 9223372036854775807) : F_slices_Equal___api_Flaw_api_Flaw_ l m = some (decide (l = m)) := by
  unfold F_slices_Equal___api_Flaw_api_Flaw_
  simp only [letO_eq, joinO_eq]
  by_cases c : l.length = m.length
  · rw [show decide ((l.length : Int) ≠ (m.length : Int)) = false from decide_eq_false (by omega), iteB_fa]
    unfold F_slices_Equal___api_Flaw_api_Flaw__L1
    refine equal_loop hl c (fun k i x y hx hy hi => ?_) (fun k => ?_)
    · simp only [letO_eq]
      rw [lt_true hi, iteB_tr, at_ok hx, bindO_s, at_ok hy, bindO_s, wrap1 hi hl]
      by_cases e : x = y
      · rw [if_pos e, show (!decide (x = y)) = false by simp [e], iteB_fa]
      · rw [if_neg e, show (!decide (x = y)) = true by simp [e], iteB_tr]
    · simp only [letO_eq]; rw [lt_self]; rfl
  · rw [show decide ((l.length : Int) ≠ (m.length : Int)) = true from decide_eq_true (by omega), iteB_tr, decide_eq_false (fun e => c (by rw [e]))]
end Go.Lf
namespace Go.Lf
open Go.RowKit Go.OB Go.Fr1
/-- A loop that looks for something. -/
theorem loop_ex {β : Type} {body : (Int → Option β) → Int → Option β} (p : Nat → Prop) [DecidablePred p] (a n : Nat) (r fin : Option β) (han : a ≤ n) (hn : n ≤ 9223372036854775807)
    (hs : ∀ k (i : Nat), a ≤ i → i < n → body k (i : Int) = if p i then r else k ((i + 1 : Nat) : Int)) (he : ∀ k, body k (n : Int) = fin) : loopO body (a : Int) = if ∃ i, i < n ∧ a ≤ i ∧ p i then r else fin := by
  have key : ∀ m, (∀ i, a ≤ i → i < m → ¬ p i) ∨ ∃ j, j < m ∧ a ≤ j ∧ p j ∧ ∀ i, a ≤ i → i < j → ¬ p i := by
    intro m
    induction m with
    | zero => exact .inl fun i _ hi => by omega
    | succ m ih =>
      rcases ih with ih | ⟨j, q1, q2, q3, q4⟩
      · by_cases hm : a ≤ m ∧ p m
        · exact .inr ⟨m, by omega, hm.1, hm.2, ih⟩
        · refine .inl fun i h1 h2 => ?_
          by_cases e : i = m
          · subst e; exact fun h => hm ⟨h1, h⟩
          · exact ih i h1 (by omega)
      · exact .inr ⟨j, by omega, q2, q3, q4⟩
  rcases key n with k | ⟨j, j1, j2, j3, j4⟩
  · rw [if_neg (fun ⟨i, h1, h2, h3⟩ => k i h2 h1 h3)]
    refine loopO_seq (fun i => (i : Int)) a n _ han hn (fun kk i h0 hi => ?_) he
    show body kk (i : Int) = _
    rw [hs kk i h0 hi, if_neg (k i h0 hi)]
  · rw [if_pos ⟨j, j1, j2, j3⟩]
    refine loopO_seq (fun i => (i : Int)) a j _ j2 (by omega) (fun kk i h0 hi => ?_) (fun kk => ?_)
    · show body kk (i : Int) = _
      rw [hs kk i h0 (by omega), if_neg (j4 i h0 hi)]
    · show body kk (j : Int) = _
      rw [hs kk j j2 j1, if_pos j3]
/-- The frame with the only word at a place with which it could be sound. -/
def repW (g : List Nat) (i : Nat) : Nat :=
  if i = 0 then wd tab (numN g % 4) else if i = 61 then wordN (sumN g) else if i = 62 then wordN (checkN g / 2048) else if i = 63 then wordN (checkN g % 2048) else wordN (sumN g ^^^ (wd g i % 2048) ^^^ (wd g 61 % 2048))
def repN (g : List Nat) (i : Nat) : List Nat := g.set i (repW g i)
theorem repN_0 (g : List Nat) : repN g 0 = g.set 0 (wd tab (numN g % 4)) := by unfold repN repW; rw [if_pos rfl]
theorem repN_61 (g : List Nat) : repN g 61 = g.set 61 (wordN (sumN g)) := by unfold repN repW; rw [if_neg (by decide), if_pos rfl]
theorem repN_62 (g : List Nat) : repN g 62 = g.set 62 (wordN (checkN g / 2048)) := by unfold repN repW; rw [if_neg (by decide), if_neg (by decide), if_pos rfl]
theorem repN_63 (g : List Nat) : repN g 63 = g.set 63 (wordN (checkN g % 2048)) := by unfold repN repW; rw [if_neg (by decide), if_neg (by decide), if_neg (by decide), if_pos rfl]
theorem repN_e (g : List Nat) {i : Nat} (c0 : i ≠ 0) (c1 : i ≠ 61) (c2 : i ≠ 62) (c3 : i ≠ 63) : repN g i = g.set i (wordN (sumN g ^^^ (wd g i % 2048) ^^^ (wd g 61 % 2048))) := by unfold repN repW; rw [if_neg c0, if_neg c1, if_neg c2, if_neg c3]
theorem xor3_lt (g : List Nat) (i : Nat) : sumN g ^^^ (wd g i % 2048) ^^^ (wd g 61 % 2048) < 2048 :=
  Nat.xor_lt_two_pow (n := 11) (Nat.xor_lt_two_pow (n := 11) (sumN_lt g) (by have := Nat.mod_lt (wd g i) (show 0 < 2048 by decide); omega)) (by have := Nat.mod_lt (wd g 61) (show 0 < 2048 by decide); omega)
theorem repW_lt (g : List Nat) (i : Nat) : repW g i < 4096 := by
  have n3 := checkN_lt g
  unfold repW
  split
  · exact tab_lt _
  split
  · exact wordN_lt (sumN_lt g)
  split
  · exact wordN_lt (by omega)
  split
  · exact wordN_lt (by omega)
  · exact wordN_lt (xor3_lt g i)
theorem repN_len (g : List Nat) (i : Nat) : (repN g i).length = g.length := by unfold repN; simp
theorem repN_small {g : List Nat} (hs : Small g) (i : Nat) : Small (repN g i) := hs.set i (by have := repW_lt g i; omega)
def mendTo (g : List Nat) : Nat → List Int × List Nat
  | 0 => ([], zero64)
  | k + 1 => if soundN (repN g k) then ((mendTo g k).1 ++ [(k : Int)], repN g k) else mendTo g k
theorem mendTo_len {g : List Nat} (h : g.length = 64) : ∀ k, (mendTo g k).2.length = 64 ∧ (mendTo g k).1.length ≤ k
  | 0 => ⟨by simp [mendTo, zero64], by simp [mendTo]⟩
  | k + 1 => by
    have := mendTo_len h k
    unfold mendTo
    split
    · exact ⟨by rw [repN_len]; exact h, by simp; omega⟩
    · exact ⟨this.1, by omega⟩
def mendR (g : List Nat) : List Nat × List Int × Bool :=
  if soundN g then (g, [], true) else if wideN g then (zero64, [], false) else if (mendTo g 64).1.length = 1 then ((mendTo g 64).2, (mendTo g 64).1, true) else (zero64, [], false)
theorem mendR_len {g : List Nat} (h : g.length = 64) : (mendR g).1.length = 64 := by
  have hz : zero64.length = 64 := by simp [zero64]
  unfold mendR
  split
  · exact h
  split
  · exact hz
  split
  · exact (mendTo_len h 64).1
  · exact hz
theorem app8 {l : List Int} (x : Int) (h : l.length ≤ 200) : app' 8 l [x] = some (l ++ [x]) := by
  unfold app'
  rw [if_pos]
  rw [maxLen_eq]; simp; omega
theorem rWide_eq {g : List Nat} {h : g.length = 64} : F_ref1_Wide (en g h) = some (decide (wideN g)) := by
  unfold F_ref1_Wide
  rw [joinO_eq]
  unfold F_ref1_Wide_L1
  refine (loop_ex (fun i => 4095 < wd g i) 0 64 (some true) (some false) (by decide) (by decide) (fun k i _ hi => ?_) (fun k => rfl)).trans ?_
  · simp only [letO_eq]
    rw [show decide ((i : Int) < 64) = true from decide_eq_true (by omega), iteB_tr, at_en hi, bindO_s, wrap_i64 (by omega) (by omega)]
    by_cases c : 4095 < wd g i
    · rw [show decide ((4095 : Int) < ((wd g i : Nat) : Int)) = true from decide_eq_true (by omega), iteB_tr, if_pos c]
    · rw [show decide ((4095 : Int) < ((wd g i : Nat) : Int)) = false from decide_eq_false (by omega), iteB_fa, if_neg c]
      rfl
  · by_cases c : wideN g
    · obtain ⟨i, h1, h2⟩ := c
      rw [if_pos ⟨i, h1, Nat.zero_le _, h2⟩, decide_eq_true ⟨i, h1, h2⟩]
    · rw [if_neg (fun ⟨i, h1, _, h2⟩ => c ⟨i, h1, h2⟩), decide_eq_false c]
theorem rflaws_L1 {g : List Nat} {h : g.length = 64} : F_ref1_Flaws_L1 (en g h) ([], 0) = some (flW g 64) := by
  unfold F_ref1_Flaws_L1
  refine loopO_seq (fun i => (flW g i, (i : Int))) 0 64 _ (by decide) (by decide) (fun k i _ hi => ?_) (fun k => rfl)
  have := flW_len g i
  simp only [letO_eq]
  rw [show decide ((i : Int) < 64) = true from decide_eq_true (by omega), iteB_tr, at_en (by omega), bindO_s, app16 _ (by omega), wrap_i64 (by omega) (by omega)]
  by_cases c : 4095 < wd g i
  · rw [show decide ((4095 : Int) < ((wd g i : Nat) : Int)) = true from decide_eq_true (by omega), iteB_tr, bindO_s, bindO_s, show flW g (i + 1) = flW g i ++ [⟨(i : Nat), 5⟩] from if_pos c]
    rfl
  · rw [show decide ((4095 : Int) < ((wd g i : Nat) : Int)) = false from decide_eq_false (by omega), iteB_fa, bindO_s, show flW g (i + 1) = flW g i from if_neg c]
    rfl
theorem rsync_eq {n : Nat} : F_ref1_syncOf (n : Int) = some ((wd tab (n % 4) : Nat) : Int) := by
  have e4 : rem' (n : Int) 4 = some ((n % 4 : Nat) : Int) := rem_nat (b := 4) (by decide)
  unfold F_ref1_syncOf
  rw [e4, bindO_s]
  have := sync_at (k := n % 4) (by omega)
  rw [show (⟨[583, 1464, 2631, 3512], rfl⟩ : Arr 4 Int) = G_frame_syncs from rfl, this, bindO_s]
theorem xword_eq {d : Nat} (hd : d < 2048) : X_word (d : Int) = some ((wordN d : Nat) : Int) := by unfold X_word; rw [if_pos (by omega)]; simp
theorem xodd_eq {d : Nat} (hd : d < 65536) : X_odd (d : Int) = some (decide (oddN d)) := by unfold X_odd; rw [if_pos (by omega)]; simp
section
variable {g : List Nat} {h : g.length = 64}
theorem replaced_eq (hs : Small g) {i : Nat} (hi : i < 64) : F_frame_replaced (en g h) (i : Int) = some (en (repN g i) ((repN_len g i).trans h)) := by
  have n1 := numN_lt g
  have n3 := checkN_lt g
  have e4 : rem' ((numN g : Nat) : Int) 4 = some ((numN g % 4 : Nat) : Int) := rem_nat (b := 4) (by decide)
  have e5 : shr' .i64 ((checkN g : Nat) : Int) 11 = some ((checkN g / 2048 : Nat) : Int) := shr_nat (b := 11) (by decide)
  have e6 : bits .and .i64 ((checkN g : Nat) : Int) 2047 = ((checkN g % 2048 : Nat) : Int) := by rw [mask_i64 (m := 2048) 11 (by decide) (by decide) (by omega) (by omega)]; omega
  have a0 : at' (en g h).l 0 = some ((wd g 0 : Nat) : Int) := at_en (i := 0) (by decide)
  have a1 : at' (en g h).l 61 = some ((wd g 61 : Nat) : Int) := at_en (i := 61) (by decide)
  have s0 : ∀ x : Nat, Arr.set (en g h) 0 (x : Int) = en (g.set 0 x) (len_set h 0 x) := fun x => set_en 0 x
  unfold F_frame_replaced
  simp only [letO_eq]
  by_cases c0 : i = 0
  · subst c0
    rw [show decide (((0 : Nat) : Int) = 0) = true from rfl, iteB_tr, number_eq hs, bindO_s, e4, bindO_s, sync_at (show numN g % 4 < 4 by omega), bindO_s, a0, bindO_s, bindO_s, s0]
    exact congrArg some (en_inj.2 (repN_0 g).symm)
  rw [show decide ((i : Int) = 0) = false from decide_eq_false (by omega), iteB_fa]
  by_cases c1 : i = 61
  · subst c1
    rw [show decide (((61 : Nat) : Int) = 61) = true from rfl, iteB_tr, sum_eq hs, bindO_s, word_eq (sumN_lt g), bindO_s, at_en (by decide), bindO_s, bindO_s, set_en]
    exact congrArg some (en_inj.2 (repN_61 g).symm)
  rw [show decide ((i : Int) = 61) = false from decide_eq_false (by omega), iteB_fa]
  by_cases c2 : i = 62
  · subst c2
    rw [show decide (((62 : Nat) : Int) = 62) = true from rfl, iteB_tr, check_eq hs, bindO_s, e5, bindO_s, word_eq (by omega), bindO_s, at_en (by decide), bindO_s, bindO_s, set_en]
    exact congrArg some (en_inj.2 (repN_62 g).symm)
  rw [show decide ((i : Int) = 62) = false from decide_eq_false (by omega), iteB_fa]
  by_cases c3 : i = 63
  · subst c3
    rw [show decide (((63 : Nat) : Int) = 63) = true from rfl, iteB_tr, check_eq hs, bindO_s, e6, word_eq (by omega), bindO_s, at_en (by decide), bindO_s, bindO_s, set_en]
    exact congrArg some (en_inj.2 (repN_63 g).symm)
  rw [show decide ((i : Int) = 63) = false from decide_eq_false (by omega), iteB_fa]
  have x1 := sumN_lt g
  have x2 : wd g i % 2048 < 2048 := Nat.mod_lt _ (by decide)
  have x3 : wd g 61 % 2048 < 2048 := Nat.mod_lt _ (by decide)
  have x4 : sumN g ^^^ (wd g i % 2048) < 2048 := Nat.xor_lt_two_pow (n := 11) x1 x2
  rw [sum_eq hs, bindO_s, at_en hi, bindO_s, data_eq (hs i), bindO_s, xor_i64 _ _ (by omega) (by omega), a1, bindO_s, data_eq (hs 61), bindO_s, xor_i64 _ _ (by omega) (by omega), word_eq (xor3_lt g i), bindO_s, bindO_s, bindO_s, set_en]
  exact congrArg some (en_inj.2 (repN_e g c0 c1 c2 c3).symm)
theorem Mend_L1 (hs : Small g) : F_frame_Mend_L1 (en g h) ([], 0, (Arr.rep 64 0 : Arr 64 Int)) = some ((mendTo g 64).1, en (mendTo g 64).2 (mendTo_len h 64).1) := by
  unfold F_frame_Mend_L1
  refine (loopO_seq (fun i => ((mendTo g i).1, (i : Int), en (mendTo g i).2 (mendTo_len h i).1)) 0 64 _ (by decide) (by decide) (fun k i _ hi => ?_) (fun k => rfl)).symm.symm.trans rfl |> fun e => by rw [en_rep]; exact e
  have hl := (mendTo_len h i).2
  simp only [letO_eq]
  rw [show decide ((i : Int) < 64) = true from decide_eq_true (by omega), iteB_tr, replaced_eq hs hi, bindO_s, sound_eq (repN_small hs i), bindO_s, app8 _ (by omega), wrap_i64 (by omega) (by omega)]
  by_cases c : soundN (repN g i)
  · rw [decide_eq_true c, iteB_tr, bindO_s, bindO_s]
    have e : mendTo g (i + 1) = ((mendTo g i).1 ++ [(i : Int)], repN g i) := if_pos c
    simp only [e]
    rfl
  · rw [decide_eq_false c, iteB_fa, bindO_s]
    have e : mendTo g (i + 1) = mendTo g i := if_neg c
    simp only [e]
    rfl
theorem Mend_eq (hs : Small g) : F_frame_Mend (en g h) = some (en (mendR g).1 (mendR_len h), (mendR g).2.1, (mendR g).2.2) := by
  unfold F_frame_Mend
  rw [sound_eq hs, bindO_s, wide_eq, bindO_s, Mend_L1 hs, bindO_s]
  simp only [letO_eq, en_rep]
  have dl : decide (((mendTo g 64).1.length : Int) ≠ 1) = !decide ((mendTo g 64).1.length = 1) := by rw [Bool.eq_iff_iff]; simp; omega
  rw [dl]
  by_cases c0 : soundN g
  · have e : mendR g = (g, [], true) := if_pos c0
    rw [decide_eq_true c0, iteB_tr]
    simp only [e]
  have e0 : mendR g = if wideN g then (zero64, [], false) else if (mendTo g 64).1.length = 1 then ((mendTo g 64).2, (mendTo g 64).1, true) else (zero64, [], false) := if_neg c0
  rw [decide_eq_false c0, iteB_fa]
  by_cases c1 : wideN g
  · have e : mendR g = (zero64, [], false) := e0.trans (if_pos c1)
    rw [decide_eq_true c1, iteB_tr]
    simp only [e]
  have e1 := e0.trans (if_neg c1)
  rw [decide_eq_false c1, iteB_fa]
  by_cases c2 : (mendTo g 64).1.length = 1
  · have e := e1.trans (if_pos c2)
    rw [decide_eq_true c2]
    simp only [e]
    rfl
  · have e := e1.trans (if_neg c2)
    rw [decide_eq_false c2]
    simp only [e]
    rfl
/-! ### The reference -/
theorem rnumber_eq (hs : Small g) : F_ref1_numberOf (en g h) = some ((numN g : Nat) : Int) := by
  have h1 := hs 1
  have h2 := hs 2
  have a1 : at' (en g h).l 1 = some ((wd g 1 : Nat) : Int) := at_en (i := 1) (by decide)
  have a2 : at' (en g h).l 2 = some ((wd g 2 : Nat) : Int) := at_en (i := 2) (by decide)
  have e1 : rem' ((wd g 1 : Nat) : Int) 2048 = some ((wd g 1 % 2048 : Nat) : Int) := rem_nat (b := 2048) (by decide)
  have e2 : rem' ((wd g 2 : Nat) : Int) 2048 = some ((wd g 2 % 2048 : Nat) : Int) := rem_nat (b := 2048) (by decide)
  unfold F_ref1_numberOf
  simp only [letO_eq]
  have w1 : IntKind.i64.wrap (((wd g 2 % 2048 : Nat) : Int) * 2048) = ((wd g 2 % 2048 * 2048 : Nat) : Int) := by rw [wrap_i64 (by omega) (by omega)]; omega
  rw [a1, bindO_s, wrap_i64 (by omega) (by omega), e1, bindO_s, a2, bindO_s, wrap_i64 (by omega) (by omega), e2, bindO_s, w1, wrap_i64 (by omega) (by omega)]
  unfold numN
  congr 1
theorem xsum_eq (hs : Small g) : X_sum (en g h) = some ((sumN g : Nat) : Int) := by unfold X_sum; rw [natF_en hs]; rfl
theorem xcheck_eq (hs : Small g) : X_check (en g h) = some ((checkN g : Nat) : Int) := by unfold X_check; rw [natF_en hs]; rfl
theorem rflaws_L2 (hs : Small g) {l : List Flaw} (hl : l.length ≤ 1) (hw : flW g 64 = []) : F_ref1_Flaws_L2 (en g h) (l, 1) = some (flO l g 63) := by
  unfold F_ref1_Flaws_L2
  refine (loopO_seq (fun i => (flO l g i, ((i + 1 : Nat) : Int))) 0 63 (some (flO l g 63)) (by decide) (by decide) (fun k i _ hi => ?_) (fun k => rfl))
  have := flO_len l g i
  have h1 := hs (i + 1)
  have h2 := (flW_nil g 64).1 hw (i + 1) (by omega)
  simp only [letO_eq]
  rw [show decide (((i + 1 : Nat) : Int) < 64) = true from decide_eq_true (by omega), iteB_tr, at_en (by omega), bindO_s, wrap_i64 (by omega) (by omega), xodd_eq (hs _), bindO_s, app16 _ (by omega), wrap_i64 (by omega) (by omega)]
  by_cases c : goodW (wd g (i + 1))
  · rw [decide_eq_true c.2, show flO l g (i + 1) = flO l g i from if_pos c]
    rfl
  · have c' : ¬ oddN (wd g (i + 1)) := fun q => c ⟨by omega, q⟩
    rw [decide_eq_false c', show flO l g (i + 1) = flO l g i ++ [⟨((i + 1 : Nat) : Int), 2⟩] from if_neg c]
    rfl
theorem rFlaws_eq (hs : Small g) : F_ref1_Flaws (en g h) = some (flawsL g) := by
  have n1 := numN_lt g
  have h0 := hs 0
  have h61 := hs 61
  have h62 := hs 62
  have h63 := hs 63
  have a0 : at' (en g h).l 0 = some ((wd g 0 : Nat) : Int) := at_en (i := 0) (by decide)
  have a1 : at' (en g h).l 61 = some ((wd g 61 : Nat) : Int) := at_en (i := 61) (by decide)
  have a2 : at' (en g h).l 62 = some ((wd g 62 : Nat) : Int) := at_en (i := 62) (by decide)
  have a3 : at' (en g h).l 63 = some ((wd g 63 : Nat) : Int) := at_en (i := 63) (by decide)
  have m61 : rem' ((wd g 61 : Nat) : Int) 2048 = some ((wd g 61 % 2048 : Nat) : Int) := rem_nat (b := 2048) (by decide)
  have m62 : rem' ((wd g 62 : Nat) : Int) 2048 = some ((wd g 62 % 2048 : Nat) : Int) := rem_nat (b := 2048) (by decide)
  have m63 : rem' ((wd g 63 : Nat) : Int) 2048 = some ((wd g 63 % 2048 : Nat) : Int) := rem_nat (b := 2048) (by decide)
  have d1 : decide (((wd g 0 : Nat) : Int) ≠ ((wd tab (numN g % 4) : Nat) : Int)) = !decide (wd g 0 = wd tab (numN g % 4)) := by rw [Bool.eq_iff_iff]; simp; omega
  have d2 : decide (((wd g 61 % 2048 : Nat) : Int) ≠ ((sumN g : Nat) : Int)) = !decide (wd g 61 % 2048 = sumN g) := by rw [Bool.eq_iff_iff]; simp; omega
  have d3 : decide ((((wd g 62 % 2048 : Nat) : Int) * 2048 + ((wd g 63 % 2048 : Nat) : Int)) ≠ ((checkN g : Nat) : Int)) = !decide (wd g 62 % 2048 * 2048 + wd g 63 % 2048 = checkN g) := by rw [Bool.eq_iff_iff]; simp; omega
  unfold F_ref1_Flaws flawsL
  rw [rflaws_L1, bindO_s, letO_eq, letO_eq]
  by_cases c : flW g 64 = []
  · rw [if_pos c, c]
    rw [show decide (0 < (([] : List Flaw).length : Int)) = false from rfl, iteB_fa, a0, bindO_s]
    simp only [letO_eq]
    rw [wrap_i64 (by omega) (by omega), rnumber_eq hs, bindO_s, rsync_eq, bindO_s, d1]
    have q1 : (iteB (!decide (wd g 0 = wd tab (numN g % 4))) (bindO (app' 16 [] [(⟨0, 1⟩ : Flaw)]) fun x => some x) (some [])) = some (flS g) := by
      rw [app16 _ (by simp)]
      unfold flS
      by_cases c2 : wd g 0 = wd tab (numN g % 4)
      · rw [decide_eq_true c2, if_pos c2]; rfl
      · rw [decide_eq_false c2, if_neg c2]; rfl
    rw [q1, bindO_s, rflaws_L2 hs (flS_len g) c, bindO_s, a1, bindO_s, wrap_i64 (by omega) (by omega), m61, bindO_s, xsum_eq hs, bindO_s, d2]
    have q2 : (iteB (!decide (wd g 61 % 2048 = sumN g)) (bindO (app' 16 (flP g) [(⟨61, 3⟩ : Flaw)]) fun x => some x) (some (flP g))) = some (flT g) := by
      have := flP_len g
      rw [app16 _ (by omega)]
      unfold flT
      by_cases c2 : wd g 61 % 2048 = sumN g
      · rw [decide_eq_true c2, if_pos c2]; rfl
      · rw [decide_eq_false c2, if_neg c2]; rfl
    unfold flP at q2
    rw [q2, bindO_s, a2, bindO_s, wrap_i64 (by omega) (by omega), m62, bindO_s, a3, bindO_s, wrap_i64 (by omega) (by omega), wrap_i64 (by omega) (by omega), m63, bindO_s, wrap_i64 (by omega) (by omega), xcheck_eq hs, bindO_s, d3]
    have := flT_len g
    rw [app16 _ (by omega)]
    unfold flC
    by_cases c2 : wd g 62 % 2048 * 2048 + wd g 63 % 2048 = checkN g
    · rw [decide_eq_true c2, if_pos c2]; rfl
    · rw [decide_eq_false c2, if_neg c2]; rfl
  · rw [if_neg c, show decide (0 < ((flW g 64).length : Int)) = true from decide_eq_true (by have := List.length_pos_iff.2 c; omega), iteB_tr]
theorem rSound_eq (hs : Small g) : F_ref1_Sound (en g h) = some (decide (soundN g)) := by
  unfold F_ref1_Sound
  rw [rFlaws_eq hs, bindO_s]
  simp only [letO_eq]
  congr 1
  refine dec_dec ?_
  rw [← flawsL_nil]
  constructor
  · intro h; exact List.eq_nil_of_length_eq_zero (by omega)
  · intro h; rw [h]; rfl
theorem PutWord_eq (hs : Small g) {i : Nat} (hi : i < 64) : F_ref1_PutWord (en g h) (i : Int) = some (en (repN g i) ((repN_len g i).trans h)) := by
  have n1 := numN_lt g
  have n3 := checkN_lt g
  have hi' := hs i
  have h61 := hs 61
  have t := tab_lt (numN g % 4)
  have w1 := wordN_lt (sumN_lt g)
  have w2 := wordN_lt (show checkN g / 2048 < 2048 by omega)
  have w3 := wordN_lt (show checkN g % 2048 < 2048 by omega)
  have w4 := wordN_lt (xor3_lt g i)
  have e5 : quo' .i64 ((checkN g : Nat) : Int) 2048 = some ((checkN g / 2048 : Nat) : Int) := quo_nat (b := 2048) (by decide) (by omega)
  have e6 : rem' ((checkN g : Nat) : Int) 2048 = some ((checkN g % 2048 : Nat) : Int) := rem_nat (b := 2048) (by decide)
  have a0 : at' (en g h).l 0 = some ((wd g 0 : Nat) : Int) := at_en (i := 0) (by decide)
  have a1 : at' (en g h).l 61 = some ((wd g 61 : Nat) : Int) := at_en (i := 61) (by decide)
  have a2 : at' (en g h).l 62 = some ((wd g 62 : Nat) : Int) := at_en (i := 62) (by decide)
  have a3 : at' (en g h).l 63 = some ((wd g 63 : Nat) : Int) := at_en (i := 63) (by decide)
  have s0 : ∀ x : Nat, Arr.set (en g h) 0 (x : Int) = en (g.set 0 x) (len_set h 0 x) := fun x => set_en 0 x
  have s1 : ∀ x : Nat, Arr.set (en g h) 61 (x : Int) = en (g.set 61 x) (len_set h 61 x) := fun x => set_en 61 x
  have s2 : ∀ x : Nat, Arr.set (en g h) 62 (x : Int) = en (g.set 62 x) (len_set h 62 x) := fun x => set_en 62 x
  have s3 : ∀ x : Nat, Arr.set (en g h) 63 (x : Int) = en (g.set 63 x) (len_set h 63 x) := fun x => set_en 63 x
  unfold F_ref1_PutWord
  simp only [letO_eq]
  by_cases c0 : i = 0
  · subst c0
    rw [show decide (((0 : Nat) : Int) = 0) = true from rfl, iteB_tr, rnumber_eq hs, bindO_s, rsync_eq, bindO_s, wrap_u16 (by omega) (by omega), a0, bindO_s, bindO_s, s0]
    exact congrArg some (en_inj.2 (repN_0 g).symm)
  rw [show decide ((i : Int) = 0) = false from decide_eq_false (by omega), iteB_fa]
  by_cases c9 : i ≤ 60
  · have m1 : rem' ((wd g i : Nat) : Int) 2048 = some ((wd g i % 2048 : Nat) : Int) := rem_nat (b := 2048) (by decide)
    have m61 : rem' ((wd g 61 : Nat) : Int) 2048 = some ((wd g 61 % 2048 : Nat) : Int) := rem_nat (b := 2048) (by decide)
    have x1 := sumN_lt g
    have x2 : wd g i % 2048 < 2048 := Nat.mod_lt _ (by decide)
    have x3 : wd g 61 % 2048 < 2048 := Nat.mod_lt _ (by decide)
    have x4 : sumN g ^^^ (wd g i % 2048) < 2048 := Nat.xor_lt_two_pow (n := 11) x1 x2
    rw [show decide ((i : Int) ≤ 60) = true from decide_eq_true (by omega), iteB_tr, at_en hi, bindO_s, wrap_i64 (by omega) (by omega), m1, bindO_s, xsum_eq hs, bindO_s, xor_i64 _ _ (by omega) (by omega), Nat.xor_comm (wd g i % 2048), a1, bindO_s, wrap_i64 (by omega) (by omega), m61, bindO_s, xor_i64 _ _ (by omega) (by omega), xword_eq (xor3_lt g i), bindO_s, wrap_u16 (by omega) (by omega), bindO_s, bindO_s, set_en]
    exact congrArg some (en_inj.2 (repN_e g c0 (by omega) (by omega) (by omega)).symm)
  rw [show decide ((i : Int) ≤ 60) = false from decide_eq_false (by omega), iteB_fa]
  by_cases c1 : i = 61
  · subst c1
    rw [show decide (((61 : Nat) : Int) = 61) = true from rfl, iteB_tr, xsum_eq hs, bindO_s, xword_eq (sumN_lt g), bindO_s, wrap_u16 (by omega) (by omega), a1, bindO_s, bindO_s, s1]
    exact congrArg some (en_inj.2 (repN_61 g).symm)
  rw [show decide ((i : Int) = 61) = false from decide_eq_false (by omega), iteB_fa]
  by_cases c2 : i = 62
  · subst c2
    rw [show decide (((62 : Nat) : Int) = 62) = true from rfl, iteB_tr, xcheck_eq hs, bindO_s, e5, bindO_s, xword_eq (by omega), bindO_s, wrap_u16 (by omega) (by omega), a2, bindO_s, bindO_s, s2]
    exact congrArg some (en_inj.2 (repN_62 g).symm)
  rw [show decide ((i : Int) = 62) = false from decide_eq_false (by omega), iteB_fa]
  have c3 : i = 63 := by omega
  subst c3
  rw [xcheck_eq hs, bindO_s, e6, bindO_s, xword_eq (by omega), bindO_s, wrap_u16 (by omega) (by omega), a3, bindO_s, bindO_s, s3]
  exact congrArg some (en_inj.2 (repN_63 g).symm)
theorem rMend_L1 (hs : Small g) : F_ref1_Mend_L1 (en g h) ([], 0, (Arr.rep 64 0 : Arr 64 Int)) = some ((mendTo g 64).1, en (mendTo g 64).2 (mendTo_len h 64).1) := by
  unfold F_ref1_Mend_L1
  rw [en_rep]
  refine loopO_seq (fun i => ((mendTo g i).1, (i : Int), en (mendTo g i).2 (mendTo_len h i).1)) 0 64 _ (by decide) (by decide) (fun k i _ hi => ?_) (fun k => rfl)
  have hl := (mendTo_len h i).2
  simp only [letO_eq]
  rw [show decide ((i : Int) < 64) = true from decide_eq_true (by omega), iteB_tr, PutWord_eq hs hi, bindO_s, rSound_eq (repN_small hs i), bindO_s, app8 _ (by omega), wrap_i64 (by omega) (by omega)]
  by_cases c : soundN (repN g i)
  · rw [decide_eq_true c, iteB_tr, bindO_s, bindO_s]
    have e : mendTo g (i + 1) = ((mendTo g i).1 ++ [(i : Int)], repN g i) := if_pos c
    simp only [e]
    rfl
  · rw [decide_eq_false c, iteB_fa, bindO_s]
    have e : mendTo g (i + 1) = mendTo g i := if_neg c
    simp only [e]
    rfl
theorem rMend_eq (hs : Small g) : F_ref1_Mend (en g h) = some (en (mendR g).1 (mendR_len h), (mendR g).2.1, (mendR g).2.2) := by
  unfold F_ref1_Mend
  rw [rSound_eq hs, bindO_s, rWide_eq, bindO_s, rMend_L1 hs, bindO_s]
  simp only [letO_eq, en_rep]
  have dl : decide (((mendTo g 64).1.length : Int) ≠ 1) = !decide ((mendTo g 64).1.length = 1) := by rw [Bool.eq_iff_iff]; simp; omega
  rw [dl]
  by_cases c1 : wideN g
  · have c0 : ¬ soundN g := fun q => q.1 c1
    have e : mendR g = (zero64, [], false) := (if_neg c0).trans (if_pos c1)
    rw [decide_eq_true c1, iteB_tr]
    simp only [e]
  rw [decide_eq_false c1, iteB_fa]
  by_cases c0 : soundN g
  · have e : mendR g = (g, [], true) := if_pos c0
    rw [decide_eq_true c0, iteB_tr]
    simp only [e]
  have e1 : mendR g = if (mendTo g 64).1.length = 1 then ((mendTo g 64).2, (mendTo g 64).1, true) else (zero64, [], false) := (if_neg c0).trans (if_neg c1)
  rw [decide_eq_false c0, iteB_fa]
  by_cases c2 : (mendTo g 64).1.length = 1
  · have e := e1.trans (if_pos c2)
    rw [decide_eq_true c2]
    simp only [e]
    rfl
  · have e := e1.trans (if_neg c2)
    rw [decide_eq_false c2]
    simp only [e]
    rfl
/-- The law of mending. -/
theorem law_Mend (hs : Small g) : F_law1_FrameMendMatchesSpec (en g h) = some true := by
  have hl : (mendR g).2.1.length ≤ 64 := by
    have h3 := (mendTo_len h 64).2
    unfold mendR
    generalize mendTo g 64 = z at *
    by_cases c0 : soundN g
    · rw [if_pos c0]; exact Nat.zero_le _
    rw [if_neg c0]
    by_cases c1 : wideN g
    · rw [if_pos c1]; exact Nat.zero_le _
    rw [if_neg c1]
    by_cases c2 : z.1.length = 1
    · rw [if_pos c2]; exact h3
    · rw [if_neg c2]; exact Nat.zero_le _
  unfold F_law1_FrameMendMatchesSpec
  simp only [Mend_eq hs, rMend_eq hs, bindO_s, letO_eq]
  rw [EqualI (by omega) (by omega)]
  simp [iteB, bindO, X_framed]
end
end Go.Lf
namespace Go.Lf
open Go.RowKit Go.OB Go.Fr1
theorem good_word {d : Nat} (hd : d < 2048) : goodW (wordN d) ∧ wordN d % 2048 = d := by
  have : ∀ d : Fin 2048, goodW (wordN d.val) ∧ wordN d.val % 2048 = d.val := by decide +kernel
  exact this ⟨d, hd⟩
theorem good_uniq {x : Nat} (h : goodW x) : x = wordN (x % 2048) := by
  have key : ∀ b : Bool, ∀ y : Fin 2048, oddN (y.val + if b then 2048 else 0) → (y.val + if b then 2048 else 0) = wordN y.val := by decide +kernel
  have h1 := h.1
  by_cases c : x < 2048
  · have := key false ⟨x, c⟩ (by simpa using h.2)
    rw [Nat.mod_eq_of_lt c]; simpa using this
  · have := key true ⟨x - 2048, by omega⟩ (by have e : x - 2048 + 2048 = x := by omega
                                              simp only [if_true, e]; exact h.2)
    rw [show x % 2048 = x - 2048 by omega]
    simp only [if_true] at this
    omega
theorem num_congr {f g : List Nat} (h1 : wd f 1 = wd g 1) (h2 : wd f 2 = wd g 2) : numN f = numN g := by unfold numN; rw [h1, h2]
theorem xorTo_congr {f g : List Nat} : ∀ k, (∀ i, 1 ≤ i → i ≤ k → wd f i % 2048 = wd g i % 2048) → xorTo f k = xorTo g k
  | 0, _ => rfl
  | k + 1, h => by rw [xorTo, xorTo, xorTo_congr k (fun i h1 h2 => h i h1 (by omega)), h (k + 1) (by omega) (by omega)]
theorem sum_congr {f g : List Nat} (h : ∀ i, 1 ≤ i → i ≤ 60 → wd f i % 2048 = wd g i % 2048) : sumN f = sumN g := xorTo_congr 60 h
theorem crcTo_congr {f g : List Nat} : ∀ k, (∀ i, i < k → wd f i = wd g i) → crcTo f k = crcTo g k
  | 0, _ => rfl
  | k + 1, h => by rw [crcTo, crcTo, crcTo_congr k (fun i h1 => h i (by omega)), h k (by omega)]
theorem check_congr {f g : List Nat} (h : ∀ i, i < 62 → wd f i = wd g i) : checkN f = checkN g := crcTo_congr 62 h
theorem wd_ext {f g : List Nat} (hf : f.length = 64) (hg : g.length = 64) (h : ∀ i, i < 64 → wd f i = wd g i) : f = g := by
  apply List.ext_getElem (hf.trans hg.symm)
  intro i h1 h2
  have := h i (by omega)
  unfold wd at this
  simpa [List.getD_eq_getElem?_getD, h1, h2] using this
theorem wd_ne {f : List Nat} {i j x : Nat} (h : i ≠ j) : wd (f.set i x) j = wd f j := by rw [wd_set, if_neg (fun q => h q.1)]
theorem wd_eq {f : List Nat} {i x : Nat} (h : i < f.length) : wd (f.set i x) i = x := by rw [wd_set, if_pos ⟨rfl, h⟩]
/-- What is finished is sound, if its data words are good. -/
theorem fin_sound {g : List Nat} (hl : g.length = 64) (hg : ∀ i, 1 ≤ i → i ≤ 60 → goodW (wd g i)) : soundN (finN g) := by
  have l1 := (fin1_len g).trans hl
  have l2 := (fin2_len g).trans hl
  have l3 := (fin3_len g).trans hl
  have s1 := sumN_lt (fin1 g)
  have c1 := checkN_lt (fin2 g)
  have a0 : wd (finN g) 0 = wd tab (numN g % 4) := by
    unfold finN fin3; rw [wd_ne (by decide), wd_ne (by decide)]; unfold fin2; rw [wd_ne (by decide)]; unfold fin1; exact wd_eq (by omega)
  have a61 : wd (finN g) 61 = wordN (sumN (fin1 g)) := by unfold finN fin3; rw [wd_ne (by decide), wd_ne (by decide)]; unfold fin2; exact wd_eq (by omega)
  have a62 : wd (finN g) 62 = wordN (checkN (fin2 g) / 2048) := by unfold finN; rw [wd_ne (by decide)]; unfold fin3; exact wd_eq (by omega)
  have a63 : wd (finN g) 63 = wordN (checkN (fin2 g) % 2048) := by unfold finN; exact wd_eq (by omega)
  have rest : ∀ i, 1 ≤ i → i ≤ 60 → wd (finN g) i = wd g i := fun i h1 h2 => by
    unfold finN fin3; rw [wd_ne (by omega), wd_ne (by omega)]; unfold fin2; rw [wd_ne (by omega)]; unfold fin1; rw [wd_ne (by omega)]
  have r1 : ∀ i, i < 62 → wd (finN g) i = wd (fin2 g) i := fun i h => by unfold finN fin3; rw [wd_ne (by omega), wd_ne (by omega)]
  have r2 : ∀ i, 1 ≤ i → i ≤ 60 → wd (fin1 g) i = wd g i := fun i h1 h2 => by unfold fin1; rw [wd_ne (by omega)]
  have hn : numN (finN g) = numN g := num_congr (rest 1 (by decide) (by decide)) (rest 2 (by decide) (by decide))
  have hsum : sumN (finN g) = sumN (fin1 g) := sum_congr fun i h1 h2 => by rw [rest i h1 h2, r2 i h1 h2]
  have hc : checkN (finN g) = checkN (fin2 g) := check_congr r1
  have w61 := good_word s1
  have w62 := good_word (d := checkN (fin2 g) / 2048) (by omega)
  have w63 := good_word (d := checkN (fin2 g) % 2048) (by omega)
  have all : ∀ i, i < 64 → 1 ≤ i → goodW (wd (finN g) i) := by
    intro i h1 h2
    by_cases c : i ≤ 60
    · rw [rest i h2 c]; exact hg i h2 c
    · have : i = 61 ∨ i = 62 ∨ i = 63 := by omega
      rcases this with rfl | rfl | rfl
      · rw [a61]; exact w61.1
      · rw [a62]; exact w62.1
      · rw [a63]; exact w63.1
  refine ⟨?_, by rw [hn]; exact a0, by rw [a61, hsum]; exact w61.2, all, by rw [a62, a63, w62.2, w63.2, hc]; omega⟩
  rintro ⟨i, h1, h2⟩
  by_cases c : i = 0
  · subst c; rw [a0] at h2; have := tab_lt (numN g % 4); omega
  · have := (all i h1 (by omega)).1; omega
theorem newR_ok {n : Int} {d : List Int} (h : (newR n d).2 = 0) : ∃ m : Nat, n = m ∧ m < 4194304 ∧ d.length = 58 ∧ (∀ i, i < 58 → okD (d.getD i 0)) ∧ (newR n d).1 = newN m (d.map Int.toNat) := by
  by_cases c0 : n < 0 ∨ 4194304 ≤ n
  · rw [newR_1 c0] at h; exact absurd h (by decide)
  by_cases c1 : d.length = 58
  · by_cases c2 : okAll d
    · have e := newR_4 c0 c1 c2
      exact ⟨n.toNat, by omega, by omega, c1, c2, by rw [e]⟩
    · have e : newR n d = (zero64, 9) := by unfold newR; rw [if_neg c0, if_neg (by simpa using c1), if_neg c2]
      rw [e] at h; exact absurd h (by decide)
  · rw [newR_2 c0 c1] at h; exact absurd h (by decide)
theorem newN_good {m : Nat} {d : List Int} (hm : m < 4194304) (hd : ∀ i, i < 58 → okD (d.getD i 0)) : ∀ i, 1 ≤ i → i ≤ 60 → goodW (wd (newF m (d.map Int.toNat)) i) := by
  intro i h1 h2
  rw [← newF_eq rfl, newTo_wd m _ 58 (Nat.le_refl _) i]
  by_cases c1 : i = 1
  · rw [if_pos c1]; exact (good_word (by omega)).1
  rw [if_neg c1]
  by_cases c2 : i = 2
  · rw [if_pos c2]; exact (good_word (by omega)).1
  rw [if_neg c2, if_pos (by omega), wd_toNat]
  have := hd (i - 3) (by omega)
  unfold okD at this
  exact (good_word (by omega)).1
theorem newN_sound {m : Nat} {d : List Int} (hm : m < 4194304) (hd : ∀ i, i < 58 → okD (d.getD i 0)) : soundN (newN m (d.map Int.toNat)) := fin_sound (newF_len _ _) (newN_good hm hd)
/-! ### Two sound frames that differ in one word at most -/
theorem xor_cancel (a b : Nat) : a ^^^ b ^^^ b = a := by rw [Nat.xor_assoc, Nat.xor_self, Nat.xor_zero]
theorem xorTo_set {f : List Nat} (hl : f.length = 64) {a w : Nat} (h1 : 1 ≤ a) (ha : a < 64) : ∀ k, a ≤ k → xorTo (f.set a w) k = xorTo f k ^^^ (wd f a % 2048) ^^^ (w % 2048)
  | 0, h => by omega
  | k + 1, h => by
    by_cases e : a = k + 1
    · subst e
      rw [xorTo, xorTo, wd_eq (by omega), xorTo_congr (g := f) k (fun i q1 q2 => by rw [wd_ne (by omega)]), xor_cancel]
    · rw [xorTo, xorTo, wd_ne e, xorTo_set hl h1 ha k (by omega)]
      generalize wd f (k + 1) % 2048 = p
      generalize wd f a % 2048 = q
      generalize w % 2048 = r
      generalize xorTo f k = t
      rw [Nat.xor_assoc t q r, Nat.xor_assoc t (q ^^^ r) p, Nat.xor_comm (q ^^^ r) p, ← Nat.xor_assoc t p, ← Nat.xor_assoc (t ^^^ p) q r]
theorem sum_set {f : List Nat} (hl : f.length = 64) {a w : Nat} (h1 : 1 ≤ a) (h2 : a ≤ 60) : sumN (f.set a w) = sumN f ^^^ (wd f a % 2048) ^^^ (w % 2048) := xorTo_set hl h1 (by omega) 60 h2
/-- The word of a sound frame, told by the others. -/
theorem rep_sound {f : List Nat} (hl : f.length = 64) (hs : soundN f) {a w : Nat} (ha : a < 64) : repN (f.set a w) a = f := by
  obtain ⟨c1, c2, c3, c4, c5⟩ := hs
  have hset : ∀ x, (f.set a w).set a x = f.set a x := fun x => by simp
  have fin : ∀ x, x = wd f a → f.set a x = f := by
    intro x hx
    subst hx
    apply wd_ext (len_set hl _ _) hl
    intro i hi
    by_cases e : a = i
    · subst e; exact wd_eq (by omega)
    · exact wd_ne e
  have n3 := checkN_lt f
  have dm : ∀ i, wd f i % 2048 < 2048 := fun i => Nat.mod_lt _ (by decide)
  by_cases e0 : a = 0
  · subst e0
    rw [repN_0, hset]
    refine fin _ ?_
    rw [num_congr (f := f.set 0 w) (g := f) (wd_ne (by decide)) (wd_ne (by decide)), c2]
  by_cases e1 : a = 61
  · subst e1
    rw [repN_61, hset]
    refine fin _ ?_
    rw [sum_congr (f := f.set 61 w) (g := f) (fun i h1 h2 => by rw [wd_ne (by omega)]), ← c3]
    exact (good_uniq (c4 61 (by decide) (by decide))).symm
  by_cases e2 : a = 62
  · subst e2
    rw [repN_62, hset]
    refine fin _ ?_
    rw [check_congr (f := f.set 62 w) (g := f) (fun i h1 => by rw [wd_ne (by omega)])]
    have := dm 63
    rw [show checkN f / 2048 = wd f 62 % 2048 by omega]
    exact (good_uniq (c4 62 (by decide) (by decide))).symm
  by_cases e3 : a = 63
  · subst e3
    rw [repN_63, hset]
    refine fin _ ?_
    rw [check_congr (f := f.set 63 w) (g := f) (fun i h1 => by rw [wd_ne (by omega)])]
    have := dm 63
    rw [show checkN f % 2048 = wd f 63 % 2048 by omega]
    exact (good_uniq (c4 63 (by decide) (by decide))).symm
  rw [repN_e _ e0 e1 e2 e3, hset]
  refine fin _ ?_
  rw [sum_set hl (by omega) (by omega), wd_eq (by omega), wd_ne e1, c3, xor_cancel, Nat.xor_comm (sumN f), xor_cancel]
  exact (good_uniq (c4 a (by omega) (by omega))).symm
/-- Two sound frames that differ in one word at most are equal. -/
theorem sound_uniq {f : List Nat} (hl : f.length = 64) (hs : soundN f) {a w : Nat} (ha : a < 64) (hg : soundN (f.set a w)) : f.set a w = f := by
  have h1 := rep_sound hl hs (w := w) ha
  have h2 := rep_sound (len_set hl a w) hg (w := w) ha
  have : (f.set a w).set a w = f.set a w := by simp
  rw [this] at h2
  exact h2.symm.trans h1
theorem mend_mem {g : List Nat} {a : Nat} (hs : soundN (repN g a)) : ∀ k, a < k → (a : Int) ∈ (mendTo g k).1
  | 0, h => by omega
  | k + 1, h => by
    unfold mendTo
    by_cases e : a = k
    · subst e; rw [if_pos hs]; exact List.mem_append_right _ List.mem_cons_self
    · have ih := mend_mem hs k (by omega)
      split
      · exact List.mem_append_left _ ih
      · exact ih
theorem mend_one {g : List Nat} {a : Nat} : ∀ k, (mendTo g k).1 = [(a : Int)] → (mendTo g k).2 = repN g a
  | 0, h => by simp [mendTo] at h
  | k + 1, h => by
    unfold mendTo at h ⊢
    split at h
    · rename_i c
      rw [if_pos c]
      have e := congrArg List.length h
      simp only [List.length_append, List.length_cons, List.length_nil] at e
      have e2 : (mendTo g k).1 = [] := List.eq_nil_of_length_eq_zero (by omega)
      simp only [e2, List.nil_append, List.cons.injEq, and_true] at h
      have : k = a := by omega
      rw [this]
    · rename_i c
      rw [if_neg c]
      exact mend_one k h
/-- What mending makes of a sound frame with one spoilt word. -/
theorem mend_spoilt {f : List Nat} (hl : f.length = 64) (hs : soundN f) {a w : Nat} (ha : a < 64) (hw : w < 4096) :
    mendR (f.set a w) = (f, [], true) ∧ f.set a w = f ∨ mendR (f.set a w) = (f, [(a : Int)], true) ∧ f.set a w ≠ f ∨ mendR (f.set a w) = (zero64, [], false) ∧ f.set a w ≠ f := by
  by_cases c0 : soundN (f.set a w)
  · have e := sound_uniq hl hs ha c0
    refine .inl ⟨?_, e⟩
    unfold mendR
    rw [if_pos c0, e]
  · have hne : f.set a w ≠ f := fun e => c0 (by rw [e]; exact hs)
    have hnw : ¬ wideN (f.set a w) := by
      rintro ⟨i, h1, h2⟩
      by_cases e : a = i
      · subst e; rw [wd_eq (by omega)] at h2; omega
      · rw [wd_ne e] at h2; exact hs.1 ⟨i, h1, h2⟩
    have hr := rep_sound hl hs (w := w) ha
    have hm := mend_mem (g := f.set a w) (a := a) (by rw [hr]; exact hs) 64 ha
    refine .inr ?_
    unfold mendR
    rw [if_neg c0, if_neg hnw]
    by_cases c1 : (mendTo (f.set a w) 64).1.length = 1
    · obtain ⟨x, hx⟩ := List.length_eq_one_iff.1 c1
      rw [hx] at hm
      have hxa : (a : Int) = x := by simpa using hm
      subst hxa
      rw [if_pos c1, mend_one 64 hx, hr, hx]
      exact .inl ⟨rfl, hne⟩
    · rw [if_neg c1]
      exact .inr ⟨rfl, hne⟩
theorem spoilt_rest {f : List Nat} (hl : f.length = 64) (hsd : soundN f) (hsm : Small f) {i x : Nat} (hi : i < 64) (hx : x < 4096) :
    (bindO (at' (en f hl).l (i : Int)) fun _ =>
      bindO (F_frame_Mend (Arr.set (en f hl) (i : Int) (x : Int))) fun ⟨x93, x94, x95⟩ =>
        iteB (!x95)
          (bindO (iteB (decide ((x93 : Arr 64 Int) = (Arr.rep 64 0 : Arr 64 Int))) (iteB (decide ((x94.length : Int) = 0)) (iteB (!decide (Arr.set (en f hl) (i : Int) (x : Int) = en f hl)) (some true) (some false)) (some false)) (some false)) fun g => some g)
          (bindO (iteB (decide ((x93 : Arr 64 Int) = en f hl))
            (iteB (decide (Arr.set (en f hl) (i : Int) (x : Int) = en f hl))
              (iteB (decide ((x94.length : Int) = 0)) (some true)
                (iteB (!decide (Arr.set (en f hl) (i : Int) (x : Int) = en f hl)) (iteB (decide ((x94.length : Int) = 1)) (bindO (at' x94 0) fun x289 => iteB (decide (x289 = (i : Int))) (some true) (some false)) (some false)) (some false)))
              (iteB (!decide (Arr.set (en f hl) (i : Int) (x : Int) = en f hl)) (iteB (decide ((x94.length : Int) = 1)) (bindO (at' x94 0) fun x319 => iteB (decide (x319 = (i : Int))) (some true) (some false)) (some false)) (some false)))
            (some false)) fun g => some g)) = some true := by
  rw [at_en hi, bindO_s, set_en, Mend_eq (hsm.set i (by omega)), bindO_s]
  simp only [en_rep]
  rcases mend_spoilt hl hsd hi hx with ⟨q1, q2⟩ | ⟨q1, q2⟩ | ⟨q1, q2⟩
  · have e1 : en (f.set i x) (len_set hl i x) = en f hl := en_inj.2 q2
    simp only [q1, e1]
    rfl
  · have e1 : ¬ en (f.set i x) (len_set hl i x) = en f hl := fun h => q2 (en_inj.1 h)
    simp only [q1, decide_eq_false e1]
    simp [iteB, bindO, at']
  · have e1 : ¬ en (f.set i x) (len_set hl i x) = en f hl := fun h => q2 (en_inj.1 h)
    simp only [q1, decide_eq_false e1]
    simp [iteB, bindO]
theorem law_Spoilt (n : Int) (d : List Int) (a w : Int) (hw : i64 w) : F_law1_FrameSpoiltWordIsMended n d a w = some true := by
  unfold F_law1_FrameSpoiltWordIsMended
  simp only [X_New, X_framed, bindO_s, letO_eq]
  by_cases c0 : (newR n d).2 = 0
  · rw [show decide ((newR n d).2 ≠ 0) = false from decide_eq_false (by simpa using c0), iteB_fa]
    by_cases c1 : a < 0
    · rw [decide_eq_true c1, iteB_tr, bindO_s, iteB_tr]
    rw [decide_eq_false c1, iteB_fa]
    by_cases c2 : 63 < a
    · rw [decide_eq_true c2, iteB_tr, bindO_s, iteB_tr]
    rw [decide_eq_false c2, iteB_fa]
    by_cases c3 : w < 0
    · rw [decide_eq_true c3, iteB_tr, bindO_s, iteB_tr]
    rw [decide_eq_false c3, iteB_fa]
    by_cases c4 : 4095 < w
    · rw [decide_eq_true c4, bindO_s, iteB_tr]
    rw [decide_eq_false c4, bindO_s, iteB_fa, wrap_u16 (by omega) (by omega)]
    obtain ⟨m, rfl, hm, hd, hok, hN⟩ := newR_ok c0
    obtain ⟨i, rfl⟩ : ∃ i : Nat, a = i := ⟨a.toNat, by omega⟩
    obtain ⟨x, rfl⟩ : ∃ x : Nat, w = x := ⟨w.toNat, by omega⟩
    have hi : i < 64 := by omega
    have hx : x < 4096 := by omega
    have hsd := newN_sound hm hok
    rw [← hN] at hsd
    have hl := newR_len (m : Int) d
    have hsm := newR_small (m : Int) d
    exact spoilt_rest hl hsd hsm hi hx
  · rw [show decide ((newR n d).2 ≠ 0) = true from decide_eq_true c0, iteB_tr, bindO_s, iteB_tr]
end Go.Lf
namespace Go.Lf
open Go.RowKit Go.OB Go.Fr1
def valL (g : List Nat) : Nat → List Int
  | 0 => []
  | k + 1 => valL g k ++ [if wd g (3 + k) ≤ 4095 then ((wd g (3 + k) % 2048 : Nat) : Int) else 0]
def rigL (g : List Nat) : Nat → List Bool
  | 0 => []
  | k + 1 => rigL g k ++ [decide (goodW (wd g (3 + k)))]
theorem valL_len (g : List Nat) : ∀ k, (valL g k).length = k
  | 0 => rfl
  | k + 1 => by simp [valL, valL_len g k]
theorem rigL_len (g : List Nat) : ∀ k, (rigL g k).length = k
  | 0 => rfl
  | k + 1 => by simp [rigL, rigL_len g k]
theorem app1 {l : List Bool} (x : Bool) (h : l.length ≤ 200) : app' 1 l [x] = some (l ++ [x]) := by
  unfold app'
  rw [if_pos]
  rw [maxLen_eq]; simp; omega
theorem Right_eq {n : Nat} (hn : n < 65536) : F_ref1_Right (n : Int) = some (decide (goodW n)) := by
  unfold F_ref1_Right
  simp only [letO_eq]
  rw [wrap_i64 (by omega) (by omega), xodd_eq hn, bindO_s]
  have e2 : decide ((n : Int) ≤ 4095) = decide (n ≤ 4095) := dec_dec (by omega)
  have e4 : decide (goodW n) = (decide (n ≤ 4095) && decide (oddN n)) := by
    rw [Bool.eq_iff_iff, Bool.and_eq_true, decide_eq_true_eq, decide_eq_true_eq, decide_eq_true_eq]; exact Iff.rfl
  rw [e2, e4]
  generalize decide (oddN n) = z
  cases decide (n ≤ 4095) <;> rfl
theorem sealed_len {g : List Nat} (h : g.length = 64) : (finN (sealF g)).length = 64 := by rw [finN_len, sealF_len]; exact h
section
variable {g : List Nat} {h : g.length = 64}
theorem Number_eq (hs : Small g) : F_frame_Number (en g h) = some ((numR g).1, (numR g).2) := by
  have a1 : at' (en g h).l 1 = some ((wd g 1 : Nat) : Int) := at_en (i := 1) (by decide)
  have a2 : at' (en g h).l 2 = some ((wd g 2 : Nat) : Int) := at_en (i := 2) (by decide)
  unfold F_frame_Number numR
  simp only [a1, a2, bindO_s, letO_eq, odd_eq (hs 1), odd_eq (hs 2), number_eq hs]
  by_cases c1 : goodW (wd g 1)
  · by_cases c2 : goodW (wd g 2)
    · rw [decide_eq_true c1, decide_eq_true c2, if_pos ⟨c1, c2⟩]; rfl
    · rw [decide_eq_true c1, decide_eq_false c2, if_neg (fun q => c2 q.2)]; rfl
  · rw [decide_eq_false c1, if_neg (fun q => c1 q.1)]; rfl
theorem rNumber_eq (hs : Small g) : F_ref1_Number (en g h) = some ((numR g).1, (numR g).2) := by
  have a1 : at' (en g h).l 1 = some ((wd g 1 : Nat) : Int) := at_en (i := 1) (by decide)
  have a2 : at' (en g h).l 2 = some ((wd g 2 : Nat) : Int) := at_en (i := 2) (by decide)
  unfold F_ref1_Number numR
  simp only [a1, a2, bindO_s, letO_eq, Right_eq (hs 1), Right_eq (hs 2), rnumber_eq hs]
  by_cases c1 : goodW (wd g 1)
  · by_cases c2 : goodW (wd g 2)
    · rw [decide_eq_true c1, decide_eq_true c2, if_pos ⟨c1, c2⟩]; rfl
    · rw [decide_eq_true c1, decide_eq_false c2, if_neg (fun q => c2 q.2)]; rfl
  · rw [decide_eq_false c1, if_neg (fun q => c1 q.1)]; rfl
theorem Values_eq (hs : Small g) : F_frame_Values (en g h) = some (valL g 58, rigL g 58) := by
  have e1 : sub' (en g h).l 3 61 = some (((en g h).l.drop 3).take 58) := by
    unfold sub'
    rw [if_pos ⟨by decide, by decide, by rw [(en g h).h]; decide⟩]
    rfl
  have el : (((en g h).l.drop 3).take 58).length = 58 := by rw [List.length_take, List.length_drop, (en g h).h]; decide
  have ea : ∀ i : Nat, i < 58 → at' (((en g h).l.drop 3).take 58) (i : Int) = some ((wd g (3 + i) : Nat) : Int) := by
    intro i hi
    have := at_en (g := g) (h := h) (i := 3 + i) (by omega)
    rw [at_nat] at this ⊢
    rw [List.getElem?_take, if_pos hi, List.getElem?_drop]
    exact this
  unfold F_frame_Values
  rw [e1, bindO_s, letO_eq]
  generalize ((en g h).l.drop 3).take 58 = z at *
  have L : F_frame_Values_L1 z (z.length : Int) ([], [], 0) = some (valL g 58, rigL g 58) := by
    unfold F_frame_Values_L1
    refine loopO_seq (fun i => (valL g i, rigL g i, (i : Int))) 0 58 _ (by decide) (by decide) (fun k i _ hi => ?_) (fun k => ?_)
    · have q1 := valL_len g i
      have q2 := rigL_len g i
      simp only [letO_eq]
      rw [show decide ((i : Int) < (z.length : Int)) = true from decide_eq_true (by omega), iteB_tr, ea i hi, bindO_s, data_eq (hs _), bindO_s, odd_eq (hs _), wrap_i64 (by omega) (by omega)]
      have e : (iteB (decide (((wd g (3 + i) : Nat) : Int) ≤ 4095)) (some ((wd g (3 + i) % 2048 : Nat) : Int)) (some 0)) = some (if wd g (3 + i) ≤ 4095 then ((wd g (3 + i) % 2048 : Nat) : Int) else 0) := by
        by_cases c : wd g (3 + i) ≤ 4095
        · rw [decide_eq_true (by omega), if_pos c]; rfl
        · rw [decide_eq_false (by omega), if_neg c]; rfl
      rw [e, bindO_s, app8 _ (by omega), bindO_s, bindO_s, app1 _ (by omega), bindO_s]
      rfl
    · simp only [letO_eq]
      rw [show decide (((58 : Nat) : Int) < (z.length : Int)) = false from decide_eq_false (by omega), iteB_fa]
  rw [L]; rfl
theorem rValues_eq (hs : Small g) : F_ref1_Values (en g h) = some (valL g 58, rigL g 58) := by
  have L : F_ref1_Values_L1 (en g h) ([], [], 3) = some (valL g 58, rigL g 58) := by
    unfold F_ref1_Values_L1
    refine loopO_seq (fun i => (valL g i, rigL g i, ((3 + i : Nat) : Int))) 0 58 _ (by decide) (by decide) (fun k i _ hi => ?_) (fun k => rfl)
    have q1 := valL_len g i
    have q2 := rigL_len g i
    have q3 := hs (3 + i)
    have m1 : rem' ((wd g (3 + i) : Nat) : Int) 2048 = some ((wd g (3 + i) % 2048 : Nat) : Int) := rem_nat (b := 2048) (by decide)
    simp only [letO_eq]
    rw [show decide (((3 + i : Nat) : Int) ≤ 60) = true from decide_eq_true (by omega), iteB_tr, at_en (by omega), bindO_s, bindO_s, wrap_i64 (by omega) (by omega), m1, bindO_s]
    have e : (iteB (decide (((wd g (3 + i) : Nat) : Int) ≤ 4095)) (some ((wd g (3 + i) % 2048 : Nat) : Int)) (some 0)) = some (if wd g (3 + i) ≤ 4095 then ((wd g (3 + i) % 2048 : Nat) : Int) else 0) := by
      by_cases c : wd g (3 + i) ≤ 4095
      · rw [decide_eq_true (by omega), if_pos c]; rfl
      · rw [decide_eq_false (by omega), if_neg c]; rfl
    rw [e, bindO_s, bindO_s, app8 _ (by omega), bindO_s, Right_eq (hs _), bindO_s, app1 _ (by omega), bindO_s, wrap_i64 (by omega) (by omega)]
    rfl
  unfold F_ref1_Values
  rw [L]; rfl
theorem Seal_eq (hs : Small g) : F_frame_Seal (en g h) = if wideN g then some (en zero64 (by simp [zero64]), 9) else some (en (finN (sealF g)) (sealed_len h), 0) := by
  unfold F_frame_Seal
  rw [wide_eq, bindO_s, en_rep]
  by_cases c : wideN g
  · rw [decide_eq_true c, iteB_tr, if_pos c]
  · rw [decide_eq_false c, iteB_fa, if_neg c]
    have L : F_frame_Seal_L1 (0, en g h) = some (en (sealF g) ((sealF_len g).trans h)) := by
      unfold F_frame_Seal_L1
      refine (loopO_seq (fun i => ((i : Int), en (sealTo g i) ((sealTo_len g i).trans h))) 0 60 (some (en (sealTo g 60) ((sealTo_len g 60).trans h))) (by decide) (by decide) (fun k i _ hi => ?_) (fun k => rfl)).trans ?_
      · have q := sealTo_small hs i
        have e1 : ((i : Int) + 1) = ((i + 1 : Nat) : Int) := by omega
        simp only [letO_eq]
        rw [show decide ((i : Int) < 60) = true from decide_eq_true (by omega), iteB_tr, wrap_i64 (by omega) (by omega), e1, at_en (by omega), bindO_s, data_eq (q _), bindO_s, word_eq (by omega), bindO_s, bindO_s, set_en, show wd (sealTo g i) (i + 1) = wd g (i + 1) by rw [sealTo_wd h i (by omega), if_neg (by omega)]]
        rfl
      · exact congrArg some (en_inj.2 (sealF_eq rfl))
    rw [L, bindO_s, finish_eq (sealF_small hs), bindO_s]
theorem rSeal_eq (hs : Small g) : F_ref1_Seal (en g h) = if wideN g then some (en zero64 (by simp [zero64]), 9) else some (en (finN (sealF g)) (sealed_len h), 0) := by
  unfold F_ref1_Seal X_sealed
  rw [rWide_eq, bindO_s, en_rep, natF_en hs]
  by_cases c : wideN g
  · rw [decide_eq_true c, iteB_tr, if_pos c]
  · rw [decide_eq_false c, iteB_fa, if_neg c]
    show bindO (enO (finN (sealF g))) _ = _
    rw [enO_eq (sealed_len h), bindO_s]
/-! ### Digests -/
def hstep (n x : Int) : Int := IntKind.u64.wrap (bits .xor .u64 n x * 1099511628211)
def hashTo (g : List Nat) : Nat → Int
  | 0 => 14695981039346656037
  | k + 1 => hstep (hstep (hashTo g k) ((wd g k / 256 : Nat) : Int)) ((wd g k % 256 : Nat) : Int)
def digTo (n : Int) : Nat → Arr 8 Int
  | 0 => Arr.rep 8 0
  | k + 1 => Arr.set (digTo n k) (k : Int) (IntKind.u8.wrap (n / 2 ^ (56 - 8 * k)))
def h2 (n a b : Int) : Nat → Int
  | 0 => n
  | 1 => hstep n a
  | _ => hstep (hstep n a) b
theorem hash_L2 (a b n : Int) : F_frame_Hash_L2 a b (n, 0) = some (hstep (hstep n a) b) := by
  unfold F_frame_Hash_L2
  refine loopO_seq (fun i => (h2 n a b i, (i : Int))) 0 2 (some (hstep (hstep n a) b)) (by decide) (by decide) (fun k i _ hi => ?_) (fun k => ?_)
  · match i, hi with
    | 0, _ => rfl
    | 1, _ => rfl
  · rfl
theorem rhash_L2 (a b n : Int) : F_ref1_Hash_L2 a b 2 (n, 0) = some (hstep (hstep n a) b) := by
  unfold F_ref1_Hash_L2
  refine loopO_seq (fun i => (h2 n a b i, (i : Int))) 0 2 (some (hstep (hstep n a) b)) (by decide) (by decide) (fun k i _ hi => ?_) (fun k => ?_)
  · match i, hi with
    | 0, _ => rfl
    | 1, _ => rfl
  · rfl
theorem hash_L3 (n : Int) : F_frame_Hash_L3 n (0, (Arr.rep 8 0 : Arr 8 Int)) = some (digTo n 8) := by
  unfold F_frame_Hash_L3
  refine loopO_seq (fun i => ((i : Int), digTo n i)) 0 8 _ (by decide) (by decide) (fun k i _ hi => ?_) (fun k => rfl)
  have e1 : IntKind.i64.wrap (8 * (i : Int)) = 8 * (i : Int) := wrap_i64 (by omega) (by omega)
  have e2 : IntKind.i64.wrap (56 - 8 * (i : Int)) = ((56 - 8 * i : Nat) : Int) := by rw [wrap_i64 (by omega) (by omega)]; omega
  have e3 : shr' .u64 n ((56 - 8 * i : Nat) : Int) = some (n / 2 ^ (56 - 8 * i)) := by
    unfold shr'
    rw [if_pos ⟨by omega, by show ((56 - 8 * i : Nat) : Int) ≤ 64; omega⟩]
    simp
  obtain ⟨y, hy⟩ : ∃ y, at' (digTo n i).l (i : Int) = some y := by
    rw [at_nat]
    exact ⟨_, List.getElem?_eq_getElem (by rw [(digTo n i).h]; exact hi)⟩
  simp only [letO_eq]
  rw [show decide ((i : Int) < 8) = true from decide_eq_true (by omega), iteB_tr, e1, e2, e3, bindO_s, hy, bindO_s, wrap_i64 (by omega) (by omega)]
  rfl
theorem rhash_L3 (n : Int) : F_ref1_Hash_L3 n (0, (Arr.rep 8 0 : Arr 8 Int)) = some (digTo n 8) := by
  rw [← hash_L3]
  unfold F_ref1_Hash_L3 F_frame_Hash_L3
  rfl
theorem Hash_eq (hs : Small g) : F_frame_Hash (en g h) = some (digTo (hashTo g 64) 8) := by
  have L : F_frame_Hash_L1 (en g h) (14695981039346656037, 0) = some (hashTo g 64) := by
    unfold F_frame_Hash_L1
    refine loopO_seq (fun i => (hashTo g i, (i : Int))) 0 64 _ (by decide) (by decide) (fun k i _ hi => ?_) (fun k => rfl)
    have q := hs i
    have e1 : shr' .u16 ((wd g i : Nat) : Int) 8 = some ((wd g i / 256 : Nat) : Int) := shr_nat (b := 8) (by decide)
    have e2 : bits .and .u16 ((wd g i : Nat) : Int) 255 = ((wd g i % 256 : Nat) : Int) := by rw [mask_u16 (m := 256) 8 (by decide) (by decide) (by omega) (by omega)]; omega
    simp only [letO_eq]
    rw [show decide ((i : Int) < 64) = true from decide_eq_true (by omega), iteB_tr, at_en (by omega), bindO_s, e1, bindO_s, e2, wrap_u64 (by omega) (by omega), wrap_u64 (by omega) (by omega), hash_L2, bindO_s, wrap_i64 (by omega) (by omega)]
    rfl
  unfold F_frame_Hash
  rw [L, bindO_s, hash_L3, bindO_s]
theorem rHash_eq (hs : Small g) : F_ref1_Hash (en g h) = some (digTo (hashTo g 64) 8) := by
  have L : F_ref1_Hash_L1 (en g h) (14695981039346656037, 0) = some (hashTo g 64) := by
    unfold F_ref1_Hash_L1
    refine loopO_seq (fun i => (hashTo g i, (i : Int))) 0 64 _ (by decide) (by decide) (fun k i _ hi => ?_) (fun k => rfl)
    have q := hs i
    have e1 : quo' .u16 ((wd g i : Nat) : Int) 256 = some ((wd g i / 256 : Nat) : Int) := by
      unfold quo'
      rw [if_neg (by decide), Int.tdiv_eq_ediv_of_nonneg (by omega), wrap_u16 (by omega) (by omega)]
      simp
    have e2 : rem' ((wd g i : Nat) : Int) 256 = some ((wd g i % 256 : Nat) : Int) := rem_nat (b := 256) (by decide)
    simp only [letO_eq]
    rw [show decide ((i : Int) < 64) = true from decide_eq_true (by omega), iteB_tr, at_en (by omega), bindO_s, e1, bindO_s, e2, bindO_s, wrap_u64 (by omega) (by omega), wrap_u64 (by omega) (by omega)]
    rw [show ((([((wd g i / 256 : Nat) : Int), ((wd g i % 256 : Nat) : Int)] : List Int).length : Nat) : Int) = 2 from rfl, rhash_L2, bindO_s, wrap_i64 (by omega) (by omega)]
    rfl
  unfold F_ref1_Hash
  rw [L, bindO_s, rhash_L3, bindO_s]
/-- The law of reading. -/
theorem law_Read (hs : Small g) : F_law1_FrameReadMatchesSpec (en g h) = some true := by
  have l1 := valL_len g 58
  have l2 := rigL_len g 58
  have l3 := flawsL_len g
  unfold F_law1_FrameReadMatchesSpec
  simp only [Number_eq hs, rNumber_eq hs, Values_eq hs, rValues_eq hs, Flaws_eq hs, rFlaws_eq hs, Hash_eq hs, rHash_eq hs, bindO_s, letO_eq, X_framed]
  rw [EqualI (by omega) (by omega), EqualB (by omega) (by omega), EqualF (by omega) (by omega), Seal_eq hs, rSeal_eq hs]
  by_cases c : wideN g
  · rw [if_pos c]
    simp [iteB, bindO]
  · rw [if_neg c]
    simp [iteB, bindO]
end
end Go.Lf
namespace Go.Lf
open Go.RowKit Go.OB Go.Fr1
theorem first_at {α : Type} [DecidableEq α] (x : α) : ∀ (l : List α), x ∈ l → ∃ j, j < l.length ∧ l[j]? = some x ∧ ∀ i, i < j → l[i]? ≠ some x
  | [], h => by cases h
  | a :: l, h => by
    by_cases e : a = x
    · exact ⟨0, by simp, by simp [e], fun i hi => by omega⟩
    · have h' : x ∈ l := by
        rcases List.mem_cons.1 h with h | h
        · exact absurd h.symm e
        · exact h
      obtain ⟨j, h1, h2, h3⟩ := first_at x l h'
      refine ⟨j + 1, by simp; omega, by simpa using h2, fun i hi => ?_⟩
      cases i with
      | zero => simpa using e
      | succ i => simpa using h3 i (by omega)
/-- The loop of slices.Index. -/
theorem index_loop {α : Type} [DecidableEq α] {body : (Int → Option Int) → Int → Option Int} {l : List α} {x : α} (hl : l.length ≤ 9223372036854775807)
    (hs : ∀ k (i : Nat) y, l[i]? = some y → i < l.length → body k (i : Int) = if x = y then some (i : Int) else k ((i + 1 : Nat) : Int)) (he : ∀ k, body k (l.length : Int) = some (-1)) :
    ∃ z, loopO body 0 = some z ∧ decide (0 ≤ z) = decide (x ∈ l) := by
  by_cases hm : x ∈ l
  · obtain ⟨j, h1, h2, h3⟩ := first_at x l hm
    refine ⟨(j : Int), ?_, by rw [decide_eq_true hm, decide_eq_true (by omega)]⟩
    refine loopO_seq (fun i => (i : Int)) 0 j _ (Nat.zero_le _) (by omega) (fun k i _ hi => ?_) (fun k => ?_)
    · show body k (i : Int) = _
      rw [hs k i l[i] (List.getElem?_eq_getElem (by omega)) (by omega), if_neg]
      intro e
      exact h3 i hi (by rw [List.getElem?_eq_getElem (by omega), ← e])
    · show body k (j : Int) = _
      rw [hs k j x h2 h1, if_pos rfl]
  · refine ⟨-1, ?_, by rw [decide_eq_false hm]; rfl⟩
    refine loopO_seq (fun i => (i : Int)) 0 l.length _ (Nat.zero_le _) hl (fun k i _ hi => ?_) he
    show body k (i : Int) = _
    rw [hs k i l[i] (List.getElem?_eq_getElem (by omega)) hi, if_neg]
    intro e
    exact hm (e ▸ List.getElem_mem hi)
theorem ContainsB {l : List Bool} (x : Bool) (hl : l.length ≤ 9223372036854775807) : F_slices_Contains___bool_bool_ l x = some (decide (x ∈ l)) := by
  unfold F_slices_Contains___bool_bool_ F_slices_Index___bool_bool_
  rw [joinO_eq, letO_eq]
  unfold F_slices_Index___bool_bool__L1
  obtain ⟨z, h1, h2⟩ := index_loop (body := fun k211 g207 => letO (decide (g207 < (l.length : Int))) fun x215 => iteB x215 (bindO (at' l g207) fun x241 => letO (x == x241) fun x253 => iteB x253 (some g207) (letO (IntKind.i64.wrap (g207 + 1)) fun x257 => k211 x257)) (some (-1))) (l := l) (x := x) hl
    (fun k i y hy hi => by
      simp only [letO_eq]
      rw [lt_true hi, iteB_tr, at_ok hy, bindO_s, wrap1 hi hl]
      by_cases e : x = y
      · rw [if_pos e, show (x == y) = true by simp [e], iteB_tr]
      · rw [if_neg e, show (x == y) = false by simp [e], iteB_fa])
    (fun k => by simp only [letO_eq]; rw [lt_self]; rfl)
  rw [h1, bindO_s, letO_eq, h2]
theorem ContainsI {l : List Int} (x : Int) (hl : l.length ≤ 9223372036854775807) : F_slices_Contains___int_int_ l x = some (decide (x ∈ l)) := by
  unfold F_slices_Contains___int_int_ F_slices_Index___int_int_
  rw [joinO_eq, letO_eq]
  unfold F_slices_Index___int_int__L1
  obtain ⟨z, h1, h2⟩ := index_loop (body := fun k211 g207 => letO (decide (g207 < (l.length : Int))) fun x215 => iteB x215 (bindO (at' l g207) fun x241 => letO (decide (x = x241)) fun x253 => iteB x253 (some g207) (letO (IntKind.i64.wrap (g207 + 1)) fun x257 => k211 x257)) (some (-1))) (l := l) (x := x) hl
    (fun k i y hy hi => by
      simp only [letO_eq]
      rw [lt_true hi, iteB_tr, at_ok hy, bindO_s, wrap1 hi hl]
      by_cases e : x = y
      · rw [if_pos e, decide_eq_true e, iteB_tr]
      · rw [if_neg e, decide_eq_false e, iteB_fa])
    (fun k => by simp only [letO_eq]; rw [lt_self]; rfl)
  rw [h1, bindO_s, letO_eq, h2]
/-! ### New frames -/
theorem newF_words {m : Nat} {d : List Int} (j : Nat) : wd (newF m (d.map Int.toNat)) j = if j = 1 then wordN (m % 2048) else if j = 2 then wordN (m / 2048) else if 3 ≤ j ∧ j < 3 + 58 then wordN (wd (d.map Int.toNat) (j - 3)) else 0 := by
  rw [← newF_eq rfl]; exact newTo_wd m _ 58 (Nat.le_refl _) j
theorem fin_word {g : List Nat} {i : Nat} (h1 : 1 ≤ i) (h2 : i ≤ 60) : wd (finN g) i = wd g i := by
  unfold finN fin3; rw [wd_ne (by omega), wd_ne (by omega)]; unfold fin2; rw [wd_ne (by omega)]; unfold fin1; rw [wd_ne (by omega)]
theorem set_same {f : List Nat} {i x : Nat} (hl : f.length = 64) (hx : x = wd f i) (hi : i < 64) : f.set i x = f := by
  subst hx
  apply wd_ext (len_set hl _ _) hl
  intro j hj
  by_cases e : i = j
  · subst e; exact wd_eq (by omega)
  · exact wd_ne e
/-- Sealing a sound frame turns nothing. -/
theorem seal_sound {f : List Nat} (hl : f.length = 64) (hs : soundN f) : finN (sealF f) = f := by
  obtain ⟨c1, c2, c3, c4, c5⟩ := hs
  have e0 : sealF f = f := by
    rw [← sealF_eq rfl]
    apply wd_ext ((sealTo_len f 60).trans hl) hl
    intro j hj
    rw [sealTo_wd hl 60 (Nat.le_refl _) j]
    split
    · rename_i c
      exact (good_uniq (c4 j hj c.1)).symm
    · rfl
  have dm : ∀ i, wd f i % 2048 < 2048 := fun i => Nat.mod_lt _ (by decide)
  have d63 := dm 63
  rw [e0]
  have e1 : fin1 f = f := set_same hl c2.symm (by decide)
  have e2 : fin2 f = f := by unfold fin2; rw [e1]; exact set_same hl (by rw [← c3]; exact (good_uniq (c4 61 (by decide) (by decide))).symm) (by decide)
  have e3 : fin3 f = f := by unfold fin3; rw [e2]; exact set_same hl (by rw [show checkN f / 2048 = wd f 62 % 2048 by omega]; exact (good_uniq (c4 62 (by decide) (by decide))).symm) (by decide)
  unfold finN
  rw [e3, e2]
  exact set_same hl (by rw [show checkN f % 2048 = wd f 63 % 2048 by omega]; exact (good_uniq (c4 63 (by decide) (by decide))).symm) (by decide)
theorem numN_new {m : Nat} {d : List Int} (hm : m < 4194304) : numN (newN m (d.map Int.toNat)) = m := by
  have h1 : wd (newN m (d.map Int.toNat)) 1 = wordN (m % 2048) := by unfold newN; rw [fin_word (by decide) (by decide), newF_words, if_pos rfl]
  have h2 : wd (newN m (d.map Int.toNat)) 2 = wordN (m / 2048) := by unfold newN; rw [fin_word (by decide) (by decide), newF_words, if_neg (by decide), if_pos rfl]
  unfold numN
  rw [h1, h2, (good_word (show m % 2048 < 2048 by omega)).2, (good_word (show m / 2048 < 2048 by omega)).2]
  omega
theorem rig_true {f : List Nat} (hs : soundN f) : ∀ k, k ≤ 58 → false ∉ rigL f k
  | 0, _ => by simp [rigL]
  | k + 1, h => by
    have ih := rig_true hs k (by omega)
    unfold rigL
    rw [decide_eq_true (hs.2.2.2.1 (3 + k) (by omega) (by omega))]
    simp [ih]
theorem val_new {m : Nat} {d : List Int} (hl : d.length = 58) (hd : ∀ i, i < 58 → okD (d.getD i 0)) : ∀ k, k ≤ 58 → valL (newN m (d.map Int.toNat)) k = d.take k
  | 0, _ => by simp [valL]
  | k + 1, h => by
    have hk := hd k (by omega)
    unfold okD at hk
    have hg := good_word (d := (d.getD k 0).toNat) (by omega)
    have hw : wd (newN m (d.map Int.toNat)) (3 + k) = wordN (d.getD k 0).toNat := by
      unfold newN
      rw [fin_word (by omega) (by omega), newF_words, if_neg (by omega), if_neg (by omega), if_pos (by omega), show 3 + k - 3 = k by omega, wd_toNat]
    rw [valL, val_new hl hd k (by omega), hw, if_pos hg.1.1, hg.2, List.take_add_one]
    congr 1
    rw [List.getD_eq_getElem?_getD] at *
    rw [List.getElem?_eq_getElem (by omega)] at *
    simp at *
    omega
theorem law_New (n : Int) (d : List Int) (hd : d.length ≤ 9223372036854775807) : F_law1_FrameNewMatchesSpec n d = some true := by
  unfold F_law1_FrameNewMatchesSpec
  simp only [X_New, X_framed, bindO_s, letO_eq]
  have q2 : decide ((newR n d).2 ≠ (newR n d).2) = false := by simp
  rw [show (!decide True) = false from rfl, iteB_fa, q2, bindO_s, iteB_fa]
  by_cases c0 : (newR n d).2 = 0
  · rw [show decide ((newR n d).2 ≠ 0) = false from decide_eq_false (by simpa using c0), iteB_fa]
    obtain ⟨m, rfl, hm, hdl, hok, hN⟩ := newR_ok c0
    have hsd := newN_sound hm hok
    have hnum := numN_new (d := d) hm
    have hval := val_new (m := m) hdl hok 58 (Nat.le_refl _)
    have hl := newR_len (m : Int) d
    have hsm := newR_small (m : Int) d
    have hw : ¬ wideN (newR (m : Int) d).1 := by rw [hN]; exact hsd.1
    have hseal := seal_sound (f := newN m (d.map Int.toNat)) (by rw [← hN]; exact hl) hsd
    have hfl : flawsL (newR (m : Int) d).1 = [] := by rw [hN]; exact (flawsL_nil _).2 hsd
    have hgd : numR (newR (m : Int) d).1 = ((m : Int), true) := by
      rw [hN]; unfold numR
      rw [if_pos ⟨hsd.2.2.2.1 1 (by decide) (by decide), hsd.2.2.2.1 2 (by decide) (by decide)⟩, hnum]
    have hv : valL (newR (m : Int) d).1 58 = d := by rw [hN, hval, List.take_of_length_le (by omega)]
    have hr : false ∉ rigL (newR (m : Int) d).1 58 := by rw [hN]; exact rig_true hsd 58 (Nat.le_refl _)
    have hse : finN (sealF (newR (m : Int) d).1) = (newR (m : Int) d).1 := by rw [hN]; exact hseal
    have hrl := rigL_len (newR (m : Int) d).1 58
    have hvl := valL_len (newR (m : Int) d).1 58
    rw [Number_eq hsm, hgd]
    simp only [bindO_s, letO_eq]
    rw [Values_eq hsm]
    simp only [bindO_s, letO_eq]
    rw [Seal_eq hsm, if_neg hw]
    simp only [bindO_s, letO_eq]
    rw [EqualI (by omega) hd, ContainsB _ (by omega), Flaws_eq hsm, hfl, hv, decide_eq_false hr, decide_eq_true (en_inj.2 hse)]
    simp [iteB, bindO]
  · rw [show decide ((newR n d).2 ≠ 0) = true from decide_eq_true c0, iteB_tr]
end Go.Lf
namespace Go.Lf
open Go.RowKit Go.OB Go.Fr1
theorem xm (x y : Nat) : (x ^^^ y) % 2 = x % 2 ^^^ y % 2 := by
  have e := Nat.xor_mod_two_pow (a := x) (b := y) (n := 1)
  simpa using e
theorem popF_par : ∀ (n x y : Nat), popF n (x ^^^ y) % 2 = (popF n x + popF n y) % 2
  | 0, _, _ => rfl
  | n + 1, x, y => by
    have ih := popF_par n (x / 2) (y / 2)
    have e1 : (x ^^^ y) / 2 = x / 2 ^^^ y / 2 := Nat.xor_div_two
    have e2 : (x ^^^ y) % 2 = (x % 2 + y % 2) % 2 := by
      rcases Nat.mod_two_eq_zero_or_one x with h1 | h1 <;> rcases Nat.mod_two_eq_zero_or_one y with h2 | h2 <;> rw [xm, h1, h2] <;> rfl
    rw [popF, popF, popF, e1, e2]
    omega
theorem pop_par (x y : Nat) : pop (x ^^^ y) % 2 = (pop x + pop y) % 2 := popF_par 16 x y
theorem popF_flip : ∀ (n x t : Nat), t < n → x.testBit t = false → popF n (x ^^^ 2 ^ t) = popF n x + 1
  | 0, _, _, h, _ => by omega
  | n + 1, x, 0, _, hb => by
    have h0 : x % 2 = 0 := by
      have : x.testBit 0 = decide (x % 2 = 1) := Nat.testBit_zero x
      rw [this] at hb; have := of_decide_eq_false hb; omega
    have e1 : (x ^^^ 2 ^ 0) / 2 = x / 2 := by rw [Nat.xor_div_two]; simp
    have e2 : (x ^^^ 2 ^ 0) % 2 = 1 := by rw [xm, h0]; rfl
    rw [popF, popF, e1, e2]; omega
  | n + 1, x, t + 1, h, hb => by
    have ih := popF_flip n (x / 2) t (by omega) (by rw [← Nat.testBit_succ]; exact hb)
    have e1 : (x ^^^ 2 ^ (t + 1)) / 2 = x / 2 ^^^ 2 ^ t := by
      rw [Nat.xor_div_two, Nat.pow_succ, Nat.mul_div_cancel _ (by decide)]
    have e2 : (x ^^^ 2 ^ (t + 1)) % 2 = x % 2 := by
      have : 2 ^ (t + 1) % 2 = 0 := by rw [Nat.pow_succ]; exact Nat.mul_mod_left _ _
      rw [xm, this, Nat.xor_zero]
    rw [popF, popF, e1, e2, ih]; omega
/-- In how many bits two words differ. -/
def cF (f g : List Nat) (i : Nat) : Nat := pop (wd f i ^^^ wd g i)
def distL (f g : List Nat) : Nat → Nat
  | 0 => 0
  | k + 1 => distL f g k + cF f g k
theorem distL_le (f g : List Nat) : ∀ k, distL f g k ≤ 16 * k
  | 0 => by simp [distL]
  | k + 1 => by have := distL_le f g k; have := pop_le (wd f k ^^^ wd g k); unfold distL cF; omega
theorem dist_one (f g : List Nat) (i : Nat) : ∀ k, i < k → cF f g i ≤ distL f g k
  | 0, h => by omega
  | k + 1, h => by
    unfold distL
    by_cases e : i = k
    · subst e; omega
    · have := dist_one f g i k (by omega); omega
theorem dist_two (f g : List Nat) (i j : Nat) (hij : i < j) : ∀ k, j < k → cF f g i + cF f g j ≤ distL f g k
  | 0, h => by omega
  | k + 1, h => by
    unfold distL
    by_cases e : j = k
    · subst e; have := dist_one f g i j hij; omega
    · have := dist_two f g i j hij k (by omega); omega
theorem cF_zero {f g : List Nat} (hf : Small f) (hg : Small g) {i : Nat} (h : cF f g i = 0) : wd f i = wd g i := by
  have h1 : wd f i ^^^ wd g i < 2 ^ 16 := Nat.xor_lt_two_pow (n := 16) (hf i) (hg i)
  exact Go.Fr1.xor_self_eq (popF_zero_iff 16 _ h1 h)
theorem dist_zero {f g : List Nat} : ∀ k, (∀ i, i < k → cF f g i = 0) → distL f g k = 0
  | 0, _ => rfl
  | k + 1, h => by unfold distL; rw [dist_zero k (fun i hi => h i (by omega)), h k (by omega)]
/-- A sound frame of which at most three bits are flipped is not sound. -/
theorem flips_unsound {f g : List Nat} (hf : f.length = 64) (hg : g.length = 64) (sf : Small f) (sg : Small g) (hs : soundN f) (h3 : distL f g 64 ≤ 3) (h0 : distL f g 64 ≠ 0) : ¬ soundN g := by
  intro hs'
  have even : ∀ i, 1 ≤ i → i < 64 → cF f g i = 0 ∨ cF f g i = 2 := by
    intro i h1 h2
    have p1 := (hs.2.2.2.1 i h2 h1).2
    have p2 := (hs'.2.2.2.1 i h2 h1).2
    have p3 := pop_par (wd f i) (wd g i)
    have p4 := dist_one f g i 64 h2
    unfold oddN at p1 p2
    unfold cF at p4 ⊢
    omega
  have same : ∀ a, (∀ i, 1 ≤ i → i < 64 → i ≠ a → cF f g i = 0) → ∀ i, 1 ≤ i → i < 64 → i ≠ a → wd f i = wd g i := fun a h i h1 h2 h4 => cF_zero sf sg (h i h1 h2 h4)
  by_cases hx : ∃ a, 1 ≤ a ∧ a < 64 ∧ cF f g a = 2
  · obtain ⟨a, a1, a2, a3⟩ := hx
    have oth : ∀ i, 1 ≤ i → i < 64 → i ≠ a → wd f i = wd g i := by
      refine same a fun i h1 h2 h4 => ?_
      rcases even i h1 h2 with h | h
      · exact h
      · rcases Nat.lt_or_gt_of_ne h4 with q | q
        · have := dist_two f g i a q 64 a2; omega
        · have := dist_two f g a i q 64 h2; omega
    have hne : wd f a ≠ wd g a := by
      intro e
      unfold cF at a3
      rw [e, Nat.xor_self] at a3
      exact absurd a3 (by decide)
    by_cases c : a ≤ 60
    · have e1 : sumN g = sumN (f.set a (wd g a)) := sum_congr fun i h1 h2 => by
        by_cases e : a = i
        · subst e; rw [wd_eq (by omega)]
        · rw [wd_ne e, oth i h1 (by omega) (fun q => e q.symm)]
      rw [sum_set hf a1 c] at e1
      have e2 : sumN g = sumN f := by rw [← hs'.2.2.1, ← hs.2.2.1, oth 61 (by decide) (by decide) (by omega)]
      rw [e2, Nat.xor_assoc] at e1
      have e3 : (wd f a % 2048) ^^^ (wd g a % 2048) = 0 := by
        have := congrArg (sumN f ^^^ ·) e1
        simp only [← Nat.xor_assoc, Nat.xor_self, Nat.zero_xor] at this
        exact this.symm
      have e4 := Go.Fr1.xor_self_eq e3
      apply hne
      rw [good_uniq (hs.2.2.2.1 a a2 a1), good_uniq (hs'.2.2.2.1 a a2 a1), e4]
    · have hn : numN f = numN g := num_congr (oth 1 (by decide) (by decide) (by omega)) (oth 2 (by decide) (by decide) (by omega))
      have h00 : wd f 0 = wd g 0 := by rw [hs.2.1, hs'.2.1, hn]
      have e : g = f.set a (wd g a) := by
        apply wd_ext hg (len_set hf _ _)
        intro i hi
        by_cases q : a = i
        · subst q; rw [wd_eq (by omega)]
        · rw [wd_ne q]
          by_cases q0 : i = 0
          · subst q0; exact h00.symm
          · exact (oth i (by omega) hi (fun z => q z.symm)).symm
      rw [e] at hs'
      have := sound_uniq hf hs a2 hs'
      rw [← e] at this
      exact hne (by rw [this])
  · have all : ∀ i, 1 ≤ i → i < 64 → cF f g i = 0 := fun i h1 h2 => by
      rcases even i h1 h2 with h | h
      · exact h
      · exact absurd ⟨i, h1, h2, h⟩ hx
    have eqs : ∀ i, 1 ≤ i → i < 64 → wd f i = wd g i := fun i h1 h2 => cF_zero sf sg (all i h1 h2)
    have hn : numN f = numN g := num_congr (eqs 1 (by decide) (by decide)) (eqs 2 (by decide) (by decide))
    have h00 : wd f 0 = wd g 0 := by rw [hs.2.1, hs'.2.1, hn]
    apply h0
    refine dist_zero 64 fun i hi => ?_
    by_cases q0 : i = 0
    · subst q0; unfold cF; rw [h00, Nat.xor_self]; exact pop_zero
    · exact all i (by omega) hi
/-! ### Flips -/
def flipN (g : List Nat) (b : Nat) : List Nat := g.set (b / 12) (wd g (b / 12) ^^^ 2 ^ (b % 12))
def flT' (f : List Nat) (l : List Int) : Nat → List Nat
  | 0 => f
  | k + 1 => flipN (flT' f l k) (l.getD k 0).toNat
theorem flT'_len {f : List Nat} (l : List Int) (h : f.length = 64) : ∀ k, (flT' f l k).length = 64
  | 0 => h
  | k + 1 => by unfold flT' flipN; exact len_set (flT'_len l h k) _ _
theorem pow12 (b : Nat) : 2 ^ (b % 12) < 65536 := Nat.lt_of_lt_of_le (Nat.pow_lt_pow_right (by decide) (show b % 12 < 16 by omega)) (by decide)
theorem flT'_small {f : List Nat} (l : List Int) (h : Small f) : ∀ k, Small (flT' f l k)
  | 0 => h
  | k + 1 => by
    unfold flT' flipN
    exact (flT'_small l h k).set _ (Nat.xor_lt_two_pow (n := 16) (flT'_small l h k _) (pow12 _))
/-- A datum of a bit's place: it is one, and no earlier one. -/
def okB (l : List Int) (i : Nat) : Prop := 0 ≤ l.getD i 0 ∧ l.getD i 0 < 768 ∧ l.getD i 0 ∉ l.take i
theorem bit_masks {f : List Nat} (hl : f.length = 64) (l : List Int) : ∀ k, k ≤ l.length → (∀ i, i < k → okB l i) → ∀ i t, i < 64 → t < 12 → (wd f i ^^^ wd (flT' f l k) i).testBit t = decide (((12 * i + t : Nat) : Int) ∈ l.take k)
  | 0, _, _, i, t, _, _ => by simp [flT']
  | k + 1, hk, hok, i, t, hi, ht => by
    have ih := bit_masks hl l k (by omega) (fun i hi => hok i (by omega)) i t hi ht
    obtain ⟨b0, b1, b2⟩ := hok k (by omega)
    obtain ⟨b, hb⟩ : ∃ b : Nat, l.getD k 0 = b := ⟨(l.getD k 0).toNat, by omega⟩
    have ht' : l.take (k + 1) = l.take k ++ [l.getD k 0] := by
      rw [List.take_add_one, List.getD_eq_getElem?_getD, List.getElem?_eq_getElem (by omega)]; rfl
    rw [ht', hb]
    unfold flT' flipN
    rw [hb, Int.toNat_natCast]
    by_cases e : b / 12 = i
    · subst e
      rw [wd_eq (by rw [flT'_len l hl]; exact hi), ← Nat.xor_assoc, Nat.testBit_xor, ih, Nat.testBit_two_pow]
      by_cases e2 : b % 12 = t
      · have e3 : 12 * (b / 12) + t = b := by omega
        rw [e3]
        rw [hb] at b2
        simp [b2, e2]
      · have e3 : 12 * (b / 12) + t ≠ b := by omega
        simp [e2, e3]
        intro h; omega
    · rw [wd_ne e, ih]
      have e3 : 12 * i + t ≠ b := by omega
      simp
      intro h; omega
theorem distL_ne {f g : List Nat} {i x : Nat} : ∀ k, k ≤ i → distL f (g.set i x) k = distL f g k
  | 0, _ => rfl
  | k + 1, h => by unfold distL cF; rw [distL_ne k (by omega), wd_ne (by omega)]
theorem dist_flip {f g : List Nat} (hg : g.length = 64) {i t : Nat} (ht : t < 12) (hb : (wd f i ^^^ wd g i).testBit t = false) : ∀ k, i < k → k ≤ 64 → distL f (g.set i (wd g i ^^^ 2 ^ t)) k = distL f g k + 1
  | 0, h, _ => by omega
  | k + 1, h, h64 => by
    unfold distL
    by_cases e : i = k
    · subst e
      rw [distL_ne i (Nat.le_refl _)]
      unfold cF
      rw [wd_eq (by omega), ← Nat.xor_assoc]
      have := popF_flip 16 _ t (by omega) hb
      unfold pop
      rw [this]; omega
    · rw [dist_flip hg ht hb k (by omega) (by omega)]
      unfold cF
      rw [wd_ne e]; omega
theorem dist_bits {f : List Nat} (hl : f.length = 64) (l : List Int) : ∀ k, k ≤ l.length → (∀ i, i < k → okB l i) → distL f (flT' f l k) 64 = k
  | 0, _, _ => by
    refine dist_zero 64 fun i _ => ?_
    unfold cF flT'; rw [Nat.xor_self]; exact pop_zero
  | k + 1, hk, hok => by
    have ih := dist_bits hl l k (by omega) (fun i hi => hok i (by omega))
    obtain ⟨b0, b1, b2⟩ := hok k (by omega)
    obtain ⟨b, hb⟩ : ∃ b : Nat, l.getD k 0 = b := ⟨(l.getD k 0).toNat, by omega⟩
    have hm := bit_masks hl l k (by omega) (fun i hi => hok i (by omega)) (b / 12) (b % 12) (by omega) (by omega)
    have b3 : ((b : Nat) : Int) ∉ l.take k := by rw [← hb]; exact b2
    rw [show 12 * (b / 12) + b % 12 = b by omega, decide_eq_false b3] at hm
    unfold flT' flipN
    rw [hb, Int.toNat_natCast]
    rw [dist_flip (flT'_len l hl k) (by omega) (by simpa using hm) 64 (by omega) (Nat.le_refl _), ih]
theorem Distance_eq {f g : List Nat} {h : f.length = 64} {h' : g.length = 64} (sf : Small f) (sg : Small g) : F_frame_Distance (en f h) (en g h') = some ((distL f g 64 : Nat) : Int) := by
  have L : F_frame_Distance_L1 (en f h) (en g h') (0, 0) = some ((distL f g 64 : Nat) : Int) := by
    unfold F_frame_Distance_L1
    refine loopO_seq (fun i => (((distL f g i : Nat) : Int), (i : Int))) 0 64 _ (by decide) (by decide) (fun k i _ hi => ?_) (fun k => rfl)
    have q1 := distL_le f g i
    have q2 := pop_le (wd f i ^^^ wd g i)
    have q3 : wd f i ^^^ wd g i < 65536 := Nat.xor_lt_two_pow (n := 16) (sf i) (sg i)
    simp only [letO_eq]
    rw [show decide ((i : Int) < 64) = true from decide_eq_true (by omega), iteB_tr, at_en (by omega), bindO_s, at_en (by omega), bindO_s, xor_u16 _ _ (sf i) (sg i), ones_eq q3, bindO_s, wrap_i64 (by omega) (by omega), wrap_i64 (by omega) (by omega)]
    rfl
  unfold F_frame_Distance
  rw [L, bindO_s]
theorem law_Flips (n : Int) (d l : List Int) (hl : l.length ≤ 9223372036854775807) : F_law1_FrameFlipsAreNoticed n d l = some true := by
  unfold F_law1_FrameFlipsAreNoticed
  simp only [X_New, X_framed, bindO_s, letO_eq, joinO_eq]
  by_cases c0 : (newR n d).2 = 0
  · rw [show decide ((newR n d).2 ≠ 0) = false from decide_eq_false (by simpa using c0), iteB_fa, bindO_s]
    by_cases c1 : 3 < l.length
    · rw [decide_eq_true (show (3 : Int) < (l.length : Int) by omega), iteB_tr]
    rw [decide_eq_false (show ¬ (3 : Int) < (l.length : Int) by omega), iteB_fa]
    obtain ⟨m, rfl, hm, hdl, hok, hN⟩ := newR_ok c0
    have hsd := newN_sound hm hok
    rw [← hN] at hsd
    have hfl := newR_len (m : Int) d
    have hsm := newR_small (m : Int) d
    have step : ∀ (k : Int × Arr 64 Int → Option Bool) (i : Nat), i < l.length → okB l i → ∀ (g : List Nat) (hg : g.length = 64) (_ : Small g),
        (bindO (at' l (i : Int)) fun x908 => bindO (letO (decide (x908 < 0)) fun x966 => iteB x966 (some true) (letO (decide (768 ≤ x908)) fun x969 => iteB x969 (some true) (bindO (sub' l 0 (i : Int)) fun x972 => bindO (F_slices_Contains___int_int_ x972 x908) fun x978 => some x978))) fun g963 =>
          iteB g963 (some true) (bindO (quo' .i64 x908 12) fun x991 => bindO (at' (en g hg).l x991) fun x993 => bindO (rem' x908 12) fun x995 => bindO (shl' .u16 1 x995) fun x997 => letO (bits .xor .u16 x993 x997) fun x999 => bindO (at' (en g hg).l x991) fun _ =>
            letO (Arr.set (en g hg) x991 x999) fun x1003 => letO (IntKind.i64.wrap ((i : Int) + 1)) fun x1007 => k (x1007, x1003))) =
        k (((i + 1 : Nat) : Int), en (flipN g (l.getD i 0).toNat) (len_set hg _ _)) := by
      intro k i hi ⟨b0, b1, b2⟩ g hg sg
      have e0 : at' l (i : Int) = some (l.getD i 0) := by rw [at_nat, List.getD_eq_getElem?_getD, List.getElem?_eq_getElem hi]; rfl
      obtain ⟨b, hb⟩ : ∃ b : Nat, l.getD i 0 = b := ⟨(l.getD i 0).toNat, by omega⟩
      rw [hb] at b0 b1 b2 e0 ⊢
      have hp := pow12 b
      have e1 : quo' .i64 (b : Int) 12 = some ((b / 12 : Nat) : Int) := quo_nat (b := 12) (by decide) (by omega)
      have e2 : rem' (b : Int) 12 = some ((b % 12 : Nat) : Int) := rem_nat (b := 12) (by decide)
      have e3 : shl' .u16 1 ((b % 12 : Nat) : Int) = some ((2 ^ (b % 12) : Nat) : Int) := by
        unfold shl'
        rw [if_pos ⟨by omega, by show ((b % 12 : Nat) : Int) ≤ 16; omega⟩, Int.toNat_natCast, Int.one_mul]
        have e : ((2 : Int) ^ (b % 12)) = ((2 ^ (b % 12) : Nat) : Int) := by simp
        rw [e]
        generalize 2 ^ (b % 12) = p at *
        rw [wrap_u16 (by omega) (by omega)]
      rw [e0, bindO_s]
      simp only [letO_eq]
      rw [show decide ((b : Int) < 0) = false from decide_eq_false (by omega), iteB_fa, show decide ((768 : Int) ≤ (b : Int)) = false from decide_eq_false (by omega), iteB_fa, sub_nat l (by omega), bindO_s, ContainsI _ (by rw [List.length_take]; omega), bindO_s, decide_eq_false b2, bindO_s, iteB_fa,
        e1, bindO_s, at_en (by omega), bindO_s, e2, bindO_s, e3, bindO_s, xor_u16 _ _ (sg _) hp, bindO_s, set_en, wrap1 hi hl]
      rfl
    have key : ∀ n, n ≤ l.length → (∀ i, i < n → okB l i) ∨ ∃ j, j < n ∧ ¬ okB l j ∧ ∀ i, i < j → okB l i := by
      intro n hn
      induction n with
      | zero => exact .inl fun i hi => by omega
      | succ n ih =>
        rcases ih (by omega) with ih | ⟨j, q1, q2, q3⟩
        · by_cases hq : okB l n
          · exact .inl (upto_succ ih hq)
          · exact .inr ⟨n, by omega, hq, ih⟩
        · exact .inr ⟨j, by omega, q2, q3⟩
    unfold F_law1_FrameFlipsAreNoticed_L1
    simp only [X_framed, bindO_s] at step ⊢
    generalize hF : en (newR (m : Int) d).1 hfl = F at *
    rcases key l.length (Nat.le_refl _) with hk | ⟨j, j1, j2, j3⟩
    · refine (loopO_seq (fun i => ((i : Int), en (flT' (newR (m : Int) d).1 l i) (flT'_len l hfl i))) 0 l.length (some true) (Nat.zero_le _) hl (fun k i _ hi => ?_) (fun k => ?_) |> fun e => by rw [← hF]; exact e)
      · simp only [letO_eq] at step ⊢
        rw [lt_true hi, iteB_tr]
        exact step k i hi (hk i hi) _ _ (flT'_small l hsm i)
      · simp only [letO_eq]
        rw [lt_self, iteB_fa]
        have hd := dist_bits hfl l l.length (Nat.le_refl _) hk
        have hsg := flT'_small l hsm l.length
        rw [Distance_eq hsm hsg, bindO_s, hd, decide_eq_true rfl, iteB_tr, Flaws_eq hsg, bindO_s]
        by_cases ce : l.length = 0
        · have e : flT' (newR (m : Int) d).1 l l.length = (newR (m : Int) d).1 := by rw [ce]; rfl
          rw [e, (flawsL_nil _).2 hsd, ce]
          rfl
        · have hu := flips_unsound hfl (flT'_len l hfl l.length) hsm hsg hsd (by omega) (by omega)
          have hne : flawsL (flT' (newR (m : Int) d).1 l l.length) ≠ [] := fun e => hu ((flawsL_nil _).1 e)
          have hpos := List.length_pos_iff.2 hne
          rw [decide_eq_true (show (0 : Int) < ((flawsL (flT' (newR (m : Int) d).1 l l.length)).length : Int) by omega), decide_eq_true (show (0 : Int) < (l.length : Int) by omega)]
          rfl
    · refine (loopO_seq (fun i => ((i : Int), en (flT' (newR (m : Int) d).1 l i) (flT'_len l hfl i))) 0 j (some true) (Nat.zero_le _) (by omega) (fun k i _ hi => ?_) (fun k => ?_) |> fun e => by rw [← hF]; exact e)
      · simp only [letO_eq] at step ⊢
        rw [lt_true (by omega), iteB_tr]
        exact step k i (by omega) (j3 i hi) _ _ (flT'_small l hsm i)
      · have e0 : at' l (j : Int) = some (l.getD j 0) := by rw [at_nat, List.getD_eq_getElem?_getD, List.getElem?_eq_getElem j1]; rfl
        simp only [letO_eq]
        rw [lt_true j1, iteB_tr, e0, bindO_s, sub_nat l (by omega), bindO_s, ContainsI _ (by rw [List.length_take]; omega), bindO_s]
        have e : (iteB (decide (l.getD j 0 < 0)) (some true) (iteB (decide (768 ≤ l.getD j 0)) (some true) (some (decide (l.getD j 0 ∈ l.take j))))) = some true := by
          unfold okB at j2
          by_cases q1 : l.getD j 0 < 0
          · rw [decide_eq_true q1, iteB_tr]
          by_cases q2 : 768 ≤ l.getD j 0
          · rw [decide_eq_false q1, decide_eq_true q2, iteB_fa, iteB_tr]
          · have q3 : l.getD j 0 ∈ l.take j := Decidable.byContradiction fun q => j2 ⟨by omega, by omega, q⟩
            rw [decide_eq_false q1, decide_eq_false q2, decide_eq_true q3, iteB_fa, iteB_fa]
        rw [e, bindO_s, iteB_tr]
  · rw [show decide ((newR n d).2 ≠ 0) = true from decide_eq_true c0, iteB_tr, bindO_s, iteB_tr]
end Go.Lf
namespace Go.Lf
open Go.RowKit Go.OB Go.Fr1
/-- Bytes as numbers. -/
def nb (L : List Nat) : List Int := L.map fun n : Nat => (n : Int)
theorem nb_len (L : List Nat) : (nb L).length = L.length := by simp [nb]
theorem at_nb {L : List Nat} {i : Nat} (hi : i < L.length) : at' (nb L) (i : Int) = some ((wd L i : Nat) : Int) := by
  rw [at_nat]
  simp [nb, wd, List.getD_eq_getElem?_getD, hi]
theorem nb_inj {L M : List Nat} : nb L = nb M ↔ L = M := by
  constructor
  · intro e; exact List.map_inj_right (fun a b h => by omega) |>.1 e
  · rintro rfl; rfl
def eb (L : List Nat) (h : L.length = 96) : Arr 96 Int := ⟨nb L, by rw [nb_len]; exact h⟩
theorem eb_inj {L M : List Nat} {h : L.length = 96} {h' : M.length = 96} : eb L h = eb M h' ↔ L = M := by
  constructor
  · intro e; exact nb_inj.1 (congrArg Arr.l e)
  · rintro rfl; rfl
theorem take96 {L : List Nat} (h : 96 ≤ L.length) : (L.take 96).length = 96 := by rw [List.length_take]; omega
theorem arr_nb {L : List Nat} (h : 96 ≤ L.length) : arr' 96 (nb L) = some (eb (L.take 96) (take96 h)) := by
  unfold arr'
  rw [dif_pos (by rw [nb_len]; exact h)]
  congr 1
  apply Arr.ext
  simp [eb, nb, List.map_take]
theorem sub_nb (L : List Nat) {a b : Nat} (h1 : a ≤ b) (h2 : b ≤ L.length) : sub' (nb L) (a : Int) (b : Int) = some (nb ((L.drop a).take (b - a))) := by
  unfold sub'
  rw [if_pos ⟨by omega, by omega, by rw [nb_len]; omega⟩]
  congr 1
  simp only [nb, List.map_take, List.map_drop, Int.toNat_natCast]
  congr 1
  omega
theorem byte_take {L : List Nat} (h : Byte L) (a b : Nat) : Byte ((L.drop a).take b) := by
  intro i
  unfold wd
  rw [List.getD_eq_getElem?_getD, List.getElem?_take]
  split
  · rw [List.getElem?_drop]
    have := h (a + i)
    unfold wd at this
    rwa [List.getD_eq_getElem?_getD] at this
  · simp
theorem wd_take {L : List Nat} {i k : Nat} (h : i < k) : wd (L.take k) i = wd L i := by
  unfold wd
  rw [List.getD_eq_getElem?_getD, List.getD_eq_getElem?_getD, List.getElem?_take, if_pos h]
theorem getW_take {L : List Nat} {i : Nat} (hi : i < 64) : getW (L.take 96) 0 i = getW L 0 i := by
  unfold getW
  have h1 : 0 + i / 2 * 3 < 96 := by omega
  have h2 : 0 + (i / 2 * 3 + 1) < 96 := by omega
  have h3 : 0 + (i / 2 * 3 + 2) < 96 := by omega
  rw [wd_take h1, wd_take h2, wd_take h3]
theorem loadN_take (L : List Nat) : loadN (L.take 96) 0 = loadN L 0 := by
  apply wd_ext (loadN_len _ _) (loadN_len _ _)
  intro i hi
  rw [loadN_wd, loadN_wd, if_pos hi, if_pos hi, getW_take hi]
theorem wordIn_eq {L : List Nat} {h : L.length = 96} (hB : Byte L) {i : Nat} (hi : i < 64) : F_frame_wordIn (some (eb L h)) (i : Int) = some ((getW L 0 i : Nat) : Int) := by
  have e1 : quo' .i64 (i : Int) 2 = some ((i / 2 : Nat) : Int) := quo_nat (b := 2) (by decide) (by omega)
  have e2 : rem' (i : Int) 2 = some ((i % 2 : Nat) : Int) := rem_nat (b := 2) (by decide)
  have w1 : IntKind.i64.wrap (((i / 2 : Nat) : Int) * 3) = ((i / 2 * 3 : Nat) : Int) := by rw [wrap_i64 (by omega) (by omega)]; omega
  have w2 : IntKind.i64.wrap (((i / 2 * 3 : Nat) : Int) + 1) = ((i / 2 * 3 + 1 : Nat) : Int) := by rw [wrap_i64 (by omega) (by omega)]; omega
  have w3 : IntKind.i64.wrap (((i / 2 * 3 : Nat) : Int) + 2) = ((i / 2 * 3 + 2 : Nat) : Int) := by rw [wrap_i64 (by omega) (by omega)]; omega
  have a1 : at' (eb L h).l ((i / 2 * 3 : Nat) : Int) = some ((wd L (i / 2 * 3) : Nat) : Int) := at_nb (by omega)
  have a2 : at' (eb L h).l ((i / 2 * 3 + 1 : Nat) : Int) = some ((wd L (i / 2 * 3 + 1) : Nat) : Int) := at_nb (by omega)
  have b1 := hB (i / 2 * 3)
  have b2 := hB (i / 2 * 3 + 1)
  have b3 := hB (i / 2 * 3 + 2)
  unfold F_frame_wordIn
  simp only [letO_eq]
  rw [e1, bindO_s, w1, e2, bindO_s, w2, w3]
  simp only [bindO_s]
  rw [a1, a2]
  simp only [bindO_s]
  rw [wrap_u16 (by omega) (by omega), wrap_u16 (by omega) (by omega)]
  by_cases c : i % 2 = 0
  · rw [show decide (((i % 2 : Nat) : Int) = 0) = true from decide_eq_true (by omega), iteB_tr, getW_e c]
    have s1 : shl' .u16 ((wd L (i / 2 * 3) : Nat) : Int) 4 = some ((wd L (i / 2 * 3) * 16 : Nat) : Int) := by
      unfold shl'
      rw [if_pos (by decide), show (2 : Int) ^ (4 : Int).toNat = 16 by decide, wrap_u16 (by omega) (by omega)]
      congr 1
    have s2 : shr' .u16 ((wd L (i / 2 * 3 + 1) : Nat) : Int) 4 = some ((wd L (i / 2 * 3 + 1) / 16 : Nat) : Int) := shr_nat (b := 4) (by decide)
    rw [s1, bindO_s, s2, bindO_s, join_u16 (m := 16) 4 (by decide) (by omega) (by omega) (by omega) (by omega) (by omega) (by omega), Nat.zero_add, Nat.zero_add]
    congr 1
  · have a3 : at' (eb L h).l ((i / 2 * 3 + 2 : Nat) : Int) = some ((wd L (i / 2 * 3 + 2) : Nat) : Int) := at_nb (by omega)
    rw [show decide (((i % 2 : Nat) : Int) = 0) = false from decide_eq_false (by omega), iteB_fa, getW_o c, a3]
    simp only [bindO_s]
    have m1 : bits .and .u16 ((wd L (i / 2 * 3 + 1) : Nat) : Int) 15 = ((wd L (i / 2 * 3 + 1) % 16 : Nat) : Int) := by rw [mask_u16 (m := 16) 4 (by decide) (by decide) (by omega) (by omega)]; omega
    have s1 : shl' .u16 ((wd L (i / 2 * 3 + 1) % 16 : Nat) : Int) 8 = some ((wd L (i / 2 * 3 + 1) % 16 * 256 : Nat) : Int) := by
      unfold shl'
      rw [if_pos (by decide), show (2 : Int) ^ (8 : Int).toNat = 256 by decide, wrap_u16 (by omega) (by omega)]
      congr 1
    rw [m1, s1, bindO_s, wrap_u16 (by omega) (by omega), join_u16 (m := 256) 8 (by decide) (by omega) (by omega) (by omega) (by omega) (by omega) (by omega), Nat.zero_add, Nat.zero_add]
    congr 1
theorem load_eq {L : List Nat} {h : L.length = 96} (hB : Byte L) : F_frame_load (some (eb L h)) = some (en (loadN L 0) (loadN_len L 0)) := by
  have Lp : F_frame_load_L1 (some (eb L h)) (0, (Arr.rep 64 0 : Arr 64 Int)) = some (en (loadN L 0) (loadN_len L 0)) := by
    unfold F_frame_load_L1
    rw [en_rep]
    refine (loopO_seq (fun i => ((i : Int), en (loadTo L 0 i) (loadTo_len L 0 i))) 0 64 (some (en (loadTo L 0 64) (loadTo_len L 0 64))) (by decide) (by decide) (fun k i _ hi => ?_) (fun k => rfl)).trans ?_
    · simp only [letO_eq]
      rw [show decide ((i : Int) < 64) = true from decide_eq_true (by omega), iteB_tr, wordIn_eq hB hi, bindO_s, at_en hi, bindO_s, set_en, wrap_i64 (by omega) (by omega)]
      rfl
    · exact congrArg some (en_inj.2 (loadN_eq rfl))
  unfold F_frame_load
  rw [Lp, bindO_s]
theorem rframe_eq {L : List Nat} (h : 96 ≤ L.length) (hm : L.length ≤ 4611686018427387903) (hB : Byte L) : F_ref1_frame (nb L) = some (en (loadN L 0) (loadN_len L 0)) := by
  have in2 : ∀ i : Nat, i < 64 → F_ref1_frame_L2 (nb L) (i : Int) (0, en (loadTo L 0 i) (loadTo_len L 0 i)) = some (en (loadTo L 0 (i + 1)) (loadTo_len L 0 (i + 1))) := by
    intro i hi
    unfold F_ref1_frame_L2
    have e3 : en (loadTo L 0 i) (loadTo_len L 0 i) = en (frL L i 0) (frL_len L i 0) := en_inj.2 frL_0.symm
    rw [e3]
    refine (loopO_seq (fun j => ((j : Int), en (frL L i j) (frL_len L i j))) 0 3 (some (en (frL L i 3) (frL_len L i 3))) (by decide) (by decide) (fun k j _ hj => ?_) (fun k => rfl)).trans (congrArg some (en_inj.2 (frL_3 hB i)))
    · have w1 : IntKind.i64.wrap (3 * (i : Int)) = ((3 * i : Nat) : Int) := by rw [wrap_i64 (by omega) (by omega)]; omega
      have w2 : IntKind.i64.wrap (((3 * i : Nat) : Int) + (j : Int)) = ((3 * i + j : Nat) : Int) := by rw [wrap_i64 (by omega) (by omega)]; omega
      have e1 : quo' .i64 ((3 * i + j : Nat) : Int) 2 = some (((3 * i + j) / 2 : Nat) : Int) := quo_nat (b := 2) (by decide) (by omega)
      have e2 : rem' ((3 * i + j : Nat) : Int) 2 = some (((3 * i + j) % 2 : Nat) : Int) := rem_nat (b := 2) (by decide)
      have b1 := hB ((3 * i + j) / 2)
      have a1 : at' (nb L) (((3 * i + j) / 2 : Nat) : Int) = some ((wd L ((3 * i + j) / 2) : Nat) : Int) := at_nb (by omega)
      have q1 : quo' .i64 ((wd L ((3 * i + j) / 2) : Nat) : Int) 16 = some ((wd L ((3 * i + j) / 2) / 16 : Nat) : Int) := quo_nat (b := 16) (by decide) (by omega)
      have q2 : rem' ((wd L ((3 * i + j) / 2) : Nat) : Int) 16 = some ((wd L ((3 * i + j) / 2) % 16 : Nat) : Int) := rem_nat (b := 16) (by decide)
      have c1 := acc_lt hB i j hj
      have c2 := hb_lt hB (3 * i + j)
      simp only [letO_eq]
      rw [show decide ((j : Int) < 3) = true from decide_eq_true (by omega), iteB_tr, w1, w2, e1, bindO_s, a1, bindO_s, wrap_i64 (by omega) (by omega), q1, bindO_s, e2, bindO_s]
      simp only [bindO_s]
      rw [a1]
      simp only [bindO_s]
      rw [wrap_i64 (by omega) (by omega), q2, bindO_s]
      have hh : (iteB (decide ((((3 * i + j) % 2 : Nat) : Int) = 1)) (some ((wd L ((3 * i + j) / 2) % 16 : Nat) : Int)) (some ((wd L ((3 * i + j) / 2) / 16 : Nat) : Int))) = some ((hb L (3 * i + j) : Nat) : Int) := by
        unfold hb
        by_cases c : (3 * i + j) % 2 = 0
        · rw [if_pos c, decide_eq_false (by omega)]; rfl
        · rw [if_neg c, decide_eq_true (by omega)]; rfl
      rw [hh, bindO_s, at_en hi, bindO_s, frL_at hi]
      have v1 : IntKind.u16.wrap (((acc L i j : Nat) : Int) * 16) = ((acc L i j * 16 : Nat) : Int) := by rw [wrap_u16 (by omega) (by omega)]; omega
      have v2 : IntKind.u16.wrap ((hb L (3 * i + j) : Nat) : Int) = ((hb L (3 * i + j) : Nat) : Int) := wrap_u16 (by omega) (by omega)
      have v4 : acc L i (j + 1) = acc L i j * 16 + hb L (3 * i + j) := rfl
      have v3 : IntKind.u16.wrap (((acc L i j * 16 : Nat) : Int) + ((hb L (3 * i + j) : Nat) : Int)) = ((acc L i (j + 1) : Nat) : Int) := by
        rw [v4, wrap_u16 (by omega) (by omega)]; omega
      rw [v1, v2, v3, bindO_s, set_en, wrap_i64 (by omega) (by omega)]
      show k (((j + 1 : Nat) : Int), en ((frL L i j).set i (acc L i (j + 1))) _) = k (((j + 1 : Nat) : Int), en (frL L i (j + 1)) _)
      congr 2
      exact en_inj.2 (frL_set i j)
  have Lp : F_ref1_frame_L1 (nb L) (0, (Arr.rep 64 0 : Arr 64 Int)) = some (en (loadN L 0) (loadN_len L 0)) := by
    unfold F_ref1_frame_L1
    rw [en_rep]
    refine (loopO_seq (fun i => ((i : Int), en (loadTo L 0 i) (loadTo_len L 0 i))) 0 64 (some (en (loadTo L 0 64) (loadTo_len L 0 64))) (by decide) (by decide) (fun k i _ hi => ?_) (fun k => rfl)).trans ?_
    · simp only [letO_eq]
      rw [show decide ((i : Int) < 64) = true from decide_eq_true (by omega), iteB_tr, in2 i hi, bindO_s, wrap_i64 (by omega) (by omega)]
      rfl
    · exact congrArg some (en_inj.2 (loadN_eq rfl))
  unfold F_ref1_frame
  rw [Lp, bindO_s]
/-! ### Places -/
theorem place_eq {L : List Nat} {a : Int} {n : Nat} (hm : L.length ≤ 4611686018427387903) (ha : i64 a) (hn : n ≤ 1000) : F_frame_checkPlace (nb L) a (n : Int) = some (placeN L.length a n) ∧ F_ref1_Place (nb L) a (n : Int) = some (placeN L.length a n) := by
  have hl := nb_len L
  unfold i64 at ha
  unfold F_frame_checkPlace F_ref1_Place placeN
  simp only [letO_eq, hl]
  by_cases c : a < 0
  · rw [decide_eq_true c, iteB_tr, iteB_tr, if_pos c]; exact ⟨rfl, rfl⟩
  · rw [decide_eq_false c, iteB_fa, iteB_fa, if_neg c, wrap_i64 (by omega) (by omega), wrap_i64 (by omega) (by omega)]
    by_cases c1 : (L.length : Int) - n < a
    · rw [if_pos c1, decide_eq_true c1]
      refine ⟨rfl, ?_⟩
      by_cases c2 : (L.length : Int) < a
      · rw [decide_eq_true c2]; rfl
      · rw [decide_eq_false c2, iteB_fa, decide_eq_true (by omega)]; rfl
    · rw [if_neg c1, decide_eq_false c1, decide_eq_false (by omega), iteB_fa, decide_eq_false (by omega)]
      exact ⟨rfl, rfl⟩
/-- The bytes at a place. -/
def pl96 (L : List Nat) (a : Nat) : List Nat := (L.drop a).take 96
theorem pl96_len {L : List Nat} {a : Nat} (h : a + 96 ≤ L.length) : (pl96 L a).length = 96 := by unfold pl96; rw [List.length_take, List.length_drop]; omega
theorem pl96_byte {L : List Nat} (h : Byte L) (a : Nat) : Byte (pl96 L a) := byte_take h a 96
theorem sub96 {L : List Nat} {a : Nat} (h : a + 96 ≤ L.length) (hm : L.length ≤ 4611686018427387903) : IntKind.i64.wrap ((a : Int) + 96) = ((a + 96 : Nat) : Int) ∧ sub' (nb L) (a : Int) ((a + 96 : Nat) : Int) = some (nb (pl96 L a)) ∧ arr' 96 (nb (pl96 L a)) = some (eb (pl96 L a) (pl96_len h)) := by
  refine ⟨by rw [wrap_i64 (by omega) (by omega)]; omega, ?_, ?_⟩
  · rw [sub_nb L (by omega) h, show a + 96 - a = 96 by omega]; rfl
  · rw [arr_nb (Nat.le_of_eq (pl96_len h).symm)]
    refine congrArg some (eb_inj.2 ?_)
    rw [List.take_of_length_le (Nat.le_of_eq (pl96_len h))]
theorem inPlace_eq {L : List Nat} {a : Int} (hm : L.length ≤ 4611686018427387903) (ha : i64 a) :
    (∃ h : placeN L.length a 96 ≠ 0, F_frame_inPlace (nb L) a = some (none, placeN L.length a 96) ∧ F_ref1_Place (nb L) a 96 = some (placeN L.length a 96)) ∨
    (∃ (n : Nat) (h : n + 96 ≤ L.length), a = n ∧ F_frame_inPlace (nb L) a = some (some (eb (pl96 L n) (pl96_len h)), 0) ∧ F_ref1_Place (nb L) a 96 = some 0) := by
  have hp := place_eq (L := L) (a := a) (n := 96) hm ha (by decide)
  unfold F_frame_inPlace
  have e1 : F_frame_checkPlace (nb L) a 96 = some (placeN L.length a 96) := hp.1
  have e2 : F_ref1_Place (nb L) a 96 = some (placeN L.length a 96) := hp.2
  rw [e1, bindO_s, letO_eq, e2]
  by_cases c : placeN L.length a 96 = 0
  · obtain ⟨h0, h1⟩ := placeN_0 c
    refine .inr ⟨a.toNat, by omega, by omega, ?_, by rw [c]⟩
    obtain ⟨n, rfl⟩ : ∃ n : Nat, a = n := ⟨a.toNat, by omega⟩
    obtain ⟨q1, q2, q3⟩ := sub96 (L := L) (a := n) (by omega) hm
    simp only [Int.toNat_natCast]
    rw [show decide (placeN L.length (n : Int) 96 ≠ 0) = false from decide_eq_false (by simpa using c), iteB_fa, letO_eq, q1, q2, bindO_s, q3, bindO_s]
  · exact .inl ⟨c, by rw [show decide (placeN L.length a 96 ≠ 0) = true from decide_eq_true c, iteB_tr], rfl⟩
/-- The rest behind a place. -/
theorem rest_eq {L : List Nat} {n : Nat} (h : n + 96 ≤ L.length) (hm : L.length ≤ 4611686018427387903) (hB : Byte L) : ∃ x, sub' (nb L) (n : Int) ((nb L).length : Int) = some x ∧ F_ref1_frame x = some (en (loadN (pl96 L n) 0) (loadN_len _ 0)) := by
  refine ⟨nb (L.drop n), ?_, ?_⟩
  · rw [nb_len, sub_nb L (by omega) (Nat.le_refl _)]
    rw [List.take_of_length_le (by rw [List.length_drop]; omega)]
  · have hb : Byte (L.drop n) := by
      have := byte_take hB n L.length
      rwa [List.take_of_length_le (by rw [List.length_drop]; omega)] at this
    rw [rframe_eq (by rw [List.length_drop]; omega) (by rw [List.length_drop]; omega) hb]
    refine congrArg some (en_inj.2 ?_)
    unfold pl96
    rw [loadN_take]
theorem load_small {L : List Nat} (h : Byte L) : Small (loadN L 0) := fun i => by have := loadN_lt h 0 i; omega
section
variable {L : List Nat}
theorem FromBytes_eq (hm : L.length ≤ 4611686018427387903) (hB : Byte L) : F_frame_FromBytes (nb L) = F_ref1_FromBytes (nb L) ∧ ∃ x y, F_frame_FromBytes (nb L) = some (x, y) := by
  have hl := nb_len L
  unfold F_frame_FromBytes F_ref1_FromBytes
  simp only [letO_eq, hl]
  by_cases c : L.length < 96
  · rw [decide_eq_true (show (L.length : Int) < 96 by omega), iteB_tr, iteB_tr]; exact ⟨rfl, _, _, rfl⟩
  · rw [decide_eq_false (show ¬ (L.length : Int) < 96 by omega), iteB_fa, iteB_fa]
    have q := sub96 (L := L) (a := 0) (by omega) hm
    have q2 : sub' (nb L) 0 96 = some (nb (pl96 L 0)) := q.2.1
    rw [q2, bindO_s, q.2.2, bindO_s, load_eq (pl96_byte hB 0), bindO_s, rframe_eq (by omega) hm hB, bindO_s]
    have e : en (loadN (pl96 L 0) 0) (loadN_len _ 0) = en (loadN L 0) (loadN_len L 0) := en_inj.2 (by unfold pl96; rw [loadN_take]; rfl)
    rw [e]
    exact ⟨rfl, _, _, rfl⟩
theorem Get_eq {a : Int} (hm : L.length ≤ 4611686018427387903) (hB : Byte L) (ha : i64 a) : F_frame_Get (nb L) a = F_ref1_Get (nb L) a ∧ ∃ x y, F_frame_Get (nb L) a = some (x, y) := by
  unfold F_frame_Get F_ref1_Get
  rcases inPlace_eq hm ha with ⟨c, e1, e2⟩ | ⟨n, h, rfl, e1, e2⟩
  · rw [e1, bindO_s, e2, bindO_s]
    simp only [letO_eq]
    rw [show decide (placeN L.length a 96 ≠ 0) = true from decide_eq_true c, iteB_tr, iteB_tr]
    exact ⟨rfl, _, _, rfl⟩
  · obtain ⟨x, x1, x2⟩ := rest_eq h hm hB
    rw [e1, bindO_s, e2, bindO_s]
    simp only [letO_eq]
    rw [show decide ((0 : Int) ≠ 0) = false from rfl, iteB_fa, iteB_fa, load_eq (pl96_byte hB n), bindO_s, x1, bindO_s, x2, bindO_s]
    exact ⟨rfl, _, _, rfl⟩
theorem WordAt_eq {a i : Int} (hm : L.length ≤ 4611686018427387903) (hB : Byte L) (ha : i64 a) : F_frame_WordAt (nb L) a i = F_ref1_WordAt (nb L) a i ∧ ∃ x y, F_frame_WordAt (nb L) a i = some (x, y) := by
  unfold F_frame_WordAt F_ref1_WordAt
  rcases inPlace_eq hm ha with ⟨c, e1, e2⟩ | ⟨n, h, rfl, e1, e2⟩
  · rw [e1, bindO_s, e2, bindO_s]
    simp only [letO_eq]
    rw [show decide (placeN L.length a 96 ≠ 0) = true from decide_eq_true c, iteB_tr, iteB_tr]
    exact ⟨rfl, _, _, rfl⟩
  · obtain ⟨x, x1, x2⟩ := rest_eq h hm hB
    rw [e1, bindO_s, e2, bindO_s]
    simp only [letO_eq]
    rw [show decide ((0 : Int) ≠ 0) = false from rfl, iteB_fa, iteB_fa]
    have b1 : (iteB (decide (i < 0)) (some true) (some (decide (64 ≤ i)))) = some (decide (i < 0 ∨ 64 ≤ i)) := by
      rw [iteB_or2]; congr 1; simp
    have b2 : (iteB (decide (i < 0)) (some true) (some (decide (63 < i)))) = some (decide (i < 0 ∨ 64 ≤ i)) := by
      rw [iteB_or2]; congr 1
      rw [Bool.eq_iff_iff]; simp; omega
    rw [b1, b2, bindO_s, bindO_s]
    by_cases c : i < 0 ∨ 64 ≤ i
    · rw [decide_eq_true c, iteB_tr, iteB_tr]; exact ⟨rfl, _, _, rfl⟩
    · rw [decide_eq_false c, iteB_fa, iteB_fa, x1, bindO_s, x2, bindO_s]
      obtain ⟨j, rfl⟩ : ∃ j : Nat, i = j := ⟨i.toNat, by omega⟩
      have hj : j < 64 := by omega
      rw [wordIn_eq (pl96_byte hB n) hj, bindO_s, at_en hj, bindO_s, loadN_wd, if_pos hj]
      exact ⟨rfl, _, _, rfl⟩
/-- The bytes of a text. -/
def strL (s : Str) : List Nat := s.map UInt8.toNat
theorem str_nb {M : List Nat} (h : Byte M) : strL (str' (nb M)) = M := by
  unfold strL str' nb
  rw [List.map_map, List.map_map]
  conv => rhs; rw [← List.map_id M]
  apply List.map_congr_left
  intro x hx
  have := byte_mem h x hx
  simp [UInt8.toNat_ofNat', Nat.mod_eq_of_lt this]
theorem Same_eq {M : List Nat} {a b : Int} (hm : L.length ≤ 4611686018427387903) (hB : Byte L) (hm2 : M.length ≤ 4611686018427387903) (hM : Byte M) (ha : i64 a) (hb : i64 b) : F_frame_Same (nb L) a (nb M) b = F_ref1_Same (nb L) a (nb M) b ∧ ∃ x y, F_frame_Same (nb L) a (nb M) b = some (x, y) := by
  unfold F_frame_Same F_ref1_Same
  rcases inPlace_eq hm ha with ⟨c, e1, e2⟩ | ⟨n, h, rfl, e1, e2⟩
  · rw [e1, bindO_s, e2, bindO_s]
    simp only [letO_eq]
    rw [show decide (placeN L.length a 96 ≠ 0) = true from decide_eq_true c, iteB_tr, iteB_tr]
    exact ⟨rfl, _, _, rfl⟩
  · rw [e1, bindO_s, e2, bindO_s]
    simp only [letO_eq]
    rw [show decide ((0 : Int) ≠ 0) = false from rfl, iteB_fa, iteB_fa]
    rcases inPlace_eq hm2 hb with ⟨c, f1, f2⟩ | ⟨k, h2, rfl, f1, f2⟩
    · rw [f1, bindO_s, f2, bindO_s]
      simp only
      rw [show decide (placeN M.length b 96 ≠ 0) = true from decide_eq_true c, iteB_tr, iteB_tr]
      exact ⟨rfl, _, _, rfl⟩
    · obtain ⟨q1, q2, q3⟩ := sub96 h hm
      obtain ⟨p1, p2, p3⟩ := sub96 h2 hm2
      rw [f1, bindO_s, f2, bindO_s]
      simp only
      rw [show decide ((0 : Int) ≠ 0) = false from rfl, iteB_fa, iteB_fa, q1, q2, bindO_s, bindO_s, q3, bindO_s, p1, p2, bindO_s, bindO_s, p3, bindO_s]
      have e : decide ((eb (pl96 L n) (pl96_len h)) = eb (pl96 M k) (pl96_len h2)) = decide (str' (nb (pl96 L n)) = str' (nb (pl96 M k))) := dec_dec ⟨fun e => by rw [eb_inj.1 e], fun e => eb_inj.2 (by
        have := congrArg strL e
        rwa [str_nb (pl96_byte hB n), str_nb (pl96_byte hM k)] at this)⟩
      rw [e]
      exact ⟨rfl, _, _, rfl⟩
end
end Go.Lf
namespace Go.Lf
open Go.RowKit Go.OB Go.Fr1
/-- The frame at a place. -/
def frA (L : List Nat) (n : Nat) : Arr 64 Int := en (loadN (pl96 L n) 0) (loadN_len _ 0)
def frs (L : List Nat) (k : Nat) : List (Arr 64 Int) := (List.range k).map fun j => frA L (96 * j)
theorem frs_len (L : List Nat) (k : Nat) : (frs L k).length = k := by simp [frs]
theorem frs_succ (L : List Nat) (k : Nat) : frs L (k + 1) = frs L k ++ [frA L (96 * k)] := by unfold frs; rw [List.range_succ, List.map_append]; rfl
theorem byte_drop {L : List Nat} (h : Byte L) (n : Nat) : Byte (L.drop n) := by
  have := byte_take h n L.length
  rwa [List.take_of_length_le (by rw [List.length_drop]; omega)] at this
theorem app128 {l : List (Arr 64 Int)} (x : Arr 64 Int) (h : l.length ≤ 1099511627775) : app' 128 l [x] = some (l ++ [x]) := by
  unfold app'
  rw [if_pos]
  rw [maxLen_eq]; simp; omega
section
variable {L : List Nat}
theorem frames_step (hm : L.length ≤ 100000000000000) (hB : Byte L) {i : Nat} (hi : 96 * i + 96 ≤ L.length) :
    sub' (nb (L.drop (96 * i))) 0 96 = some (nb (pl96 L (96 * i))) ∧ arr' 96 (nb (pl96 L (96 * i))) = some (eb (pl96 L (96 * i)) (pl96_len hi)) ∧ F_frame_load (some (eb (pl96 L (96 * i)) (pl96_len hi))) = some (frA L (96 * i)) ∧
    sub' (nb (L.drop (96 * i))) 96 ((nb (L.drop (96 * i))).length : Int) = some (nb (L.drop (96 * (i + 1)))) ∧ F_ref1_frame (nb (L.drop (96 * i))) = some (frA L (96 * i)) := by
  have hl : (L.drop (96 * i)).length = L.length - 96 * i := List.length_drop
  refine ⟨?_, (sub96 hi (by omega)).2.2, load_eq (pl96_byte hB _), ?_, ?_⟩
  · have := sub_nb (L.drop (96 * i)) (a := 0) (b := 96) (by decide) (by omega)
    exact this
  · rw [nb_len]
    have := sub_nb (L.drop (96 * i)) (a := 96) (b := (L.drop (96 * i)).length) (by omega) (Nat.le_refl _)
    rw [show ((96 : Nat) : Int) = 96 from rfl] at this
    rw [this, List.take_of_length_le (by rw [List.length_drop]; exact Nat.le_refl _), List.drop_drop]
    rfl
  · rw [rframe_eq (by omega) (by omega) (byte_drop hB _)]
    refine congrArg some (en_inj.2 ?_)
    unfold pl96
    rw [loadN_take]
theorem Frames_eq (hm : L.length ≤ 100000000000000) (hB : Byte L) : F_frame_Frames (nb L) = some (frs L (L.length / 96), ((L.length % 96 : Nat) : Int)) := by
  have hl : ∀ i, (nb (L.drop (96 * i))).length = L.length - 96 * i := fun i => by rw [nb_len, List.length_drop]
  have Lp : F_frame_Frames_L1 (nb L, []) = some (nb (L.drop (96 * (L.length / 96))), frs L (L.length / 96)) := by
    unfold F_frame_Frames_L1
    refine loopO_seq (fun i => (nb (L.drop (96 * i)), frs L i)) 0 (L.length / 96) _ (Nat.zero_le _) (by omega) (fun k i _ hi => ?_) (fun k => ?_)
    · obtain ⟨s1, s2, s3, s4, s5⟩ := frames_step hm hB (i := i) (by omega)
      simp only [letO_eq]
      rw [hl, show decide ((96 : Int) ≤ ((L.length - 96 * i : Nat) : Int)) = true from decide_eq_true (by omega), iteB_tr, s1, bindO_s, s2, bindO_s, s3, bindO_s, app128 _ (by rw [frs_len]; omega), bindO_s, ← hl, s4, bindO_s, frs_succ]
    · simp only [letO_eq]
      rw [hl, show decide ((96 : Int) ≤ ((L.length - 96 * (L.length / 96) : Nat) : Int)) = false from decide_eq_false (by omega), iteB_fa]
  unfold F_frame_Frames
  rw [Lp, bindO_s]
  simp only [letO_eq]
  rw [hl]
  congr 3
  omega
theorem rFrames_eq (hm : L.length ≤ 100000000000000) (hB : Byte L) : F_ref1_Frames (nb L) = some (frs L (L.length / 96), ((L.length % 96 : Nat) : Int)) := by
  have hl : ∀ i, (nb (L.drop (96 * i))).length = L.length - 96 * i := fun i => by rw [nb_len, List.length_drop]
  have Lp : F_ref1_Frames_L1 (nb L, []) = some (nb (L.drop (96 * (L.length / 96))), frs L (L.length / 96)) := by
    unfold F_ref1_Frames_L1
    refine loopO_seq (fun i => (nb (L.drop (96 * i)), frs L i)) 0 (L.length / 96) _ (Nat.zero_le _) (by omega) (fun k i _ hi => ?_) (fun k => ?_)
    · obtain ⟨s1, s2, s3, s4, s5⟩ := frames_step hm hB (i := i) (by omega)
      simp only [letO_eq]
      rw [hl, show decide ((96 : Int) ≤ ((L.length - 96 * i : Nat) : Int)) = true from decide_eq_true (by omega), iteB_tr, s5, bindO_s, app128 _ (by rw [frs_len]; omega), bindO_s, ← hl, s4, bindO_s, frs_succ]
    · simp only [letO_eq]
      rw [hl, show decide ((96 : Int) ≤ ((L.length - 96 * (L.length / 96) : Nat) : Int)) = false from decide_eq_false (by omega), iteB_fa]
  unfold F_ref1_Frames
  rw [Lp, bindO_s]
  simp only [letO_eq]
  rw [hl]
  congr 3
  omega
def secTo (L : List Nat) (n : Nat) : Nat → Arr 8 (Arr 64 Int)
  | 0 => Arr.rep 8 (Arr.rep 64 0)
  | k + 1 => Arr.set (secTo L n k) (k : Int) (frA L (n + 96 * k))
theorem GetSecond_eq {a : Int} (hm : L.length ≤ 100000000000000) (hB : Byte L) (ha : i64 a) : F_frame_GetSecond (nb L) a = F_ref1_GetSecond (nb L) a ∧ ∃ x y, F_frame_GetSecond (nb L) a = some (x, y) := by
  have hp := place_eq (L := L) (a := a) (n := 768) (by omega) ha (by decide)
  have e1 : F_frame_checkPlace (nb L) a 768 = some (placeN L.length a 768) := hp.1
  have e2 : F_ref1_Place (nb L) a 768 = some (placeN L.length a 768) := hp.2
  unfold F_frame_GetSecond F_ref1_GetSecond
  rw [e1, bindO_s, e2, bindO_s]
  simp only [letO_eq]
  by_cases c : placeN L.length a 768 = 0
  · obtain ⟨h0, h1⟩ := placeN_0 c
    obtain ⟨n, rfl⟩ : ∃ n : Nat, a = n := ⟨a.toNat, by omega⟩
    rw [show decide (placeN L.length (n : Int) 768 ≠ 0) = false from decide_eq_false (by simpa using c), iteB_fa, iteB_fa]
    have ex : ∀ i, i < 8 → ∃ y, at' (secTo L n i).l (i : Int) = some y := fun i hi => by
      rw [at_nat]
      exact ⟨_, List.getElem?_eq_getElem (by rw [(secTo L n i).h]; exact hi)⟩
    have ws : ∀ i : Nat, i < 8 → IntKind.i64.wrap ((i : Int) * 96) = ((96 * i : Nat) : Int) ∧ IntKind.i64.wrap ((n : Int) + ((96 * i : Nat) : Int)) = ((n + 96 * i : Nat) : Int) := fun i hi => by
      constructor
      · rw [wrap_i64 (by omega) (by omega)]; omega
      · rw [wrap_i64 (by omega) (by omega)]; omega
    have P1 : F_frame_GetSecond_L1 (nb L) (n : Int) (0, (Arr.rep 8 (Arr.rep 64 0 : Arr 64 Int) : Arr 8 (Arr 64 Int))) = some (secTo L n 8) := by
      unfold F_frame_GetSecond_L1
      refine loopO_seq (fun i => ((i : Int), secTo L n i)) 0 8 _ (by decide) (by decide) (fun k i _ hi => ?_) (fun k => rfl)
      obtain ⟨y, hy⟩ := ex i hi
      obtain ⟨w1, w2⟩ := ws i hi
      simp only [letO_eq]
      rw [show decide ((i : Int) < 8) = true from decide_eq_true (by omega), iteB_tr, w1, w2]
      rcases inPlace_eq (L := L) (a := ((n + 96 * i : Nat) : Int)) (by omega) (by unfold i64; omega) with ⟨cc, _, _⟩ | ⟨q, hq, hqe, f1, f2⟩
      · exfalso
        apply cc
        unfold placeN
        rw [if_neg (by omega), if_neg (by omega)]
      · have : q = n + 96 * i := by omega
        subst this
        rw [f1, bindO_s]
        simp only
        rw [load_eq (pl96_byte hB _), bindO_s, hy, bindO_s, wrap_i64 (by omega) (by omega)]
        rfl
    have P2 : F_ref1_GetSecond_L1 (nb L) (n : Int) (0, (Arr.rep 8 (Arr.rep 64 0 : Arr 64 Int) : Arr 8 (Arr 64 Int))) = some (secTo L n 8) := by
      unfold F_ref1_GetSecond_L1
      refine loopO_seq (fun i => ((i : Int), secTo L n i)) 0 8 _ (by decide) (by decide) (fun k i _ hi => ?_) (fun k => rfl)
      obtain ⟨y, hy⟩ := ex i hi
      obtain ⟨w1, w2⟩ := ws i hi
      obtain ⟨x, x1, x2⟩ := rest_eq (L := L) (n := n + 96 * i) (by omega) (by omega) hB
      simp only [letO_eq]
      rw [show decide ((i : Int) < 8) = true from decide_eq_true (by omega), iteB_tr, w1, w2, x1, bindO_s, x2, bindO_s, hy, bindO_s, wrap_i64 (by omega) (by omega)]
      rfl
    rw [P1, P2, bindO_s]
    exact ⟨rfl, _, _, rfl⟩
  · rw [show decide (placeN L.length a 768 ≠ 0) = true from decide_eq_true c, iteB_tr, iteB_tr]
    exact ⟨rfl, _, _, rfl⟩
theorem Clone_eq (hm : L.length ≤ 100000000000000) : F_slices_Clone___byte_byte_ (nb L) = some (nb L) := by
  have e : app' 1 ([] : List Int) (nb L) = some (nb L) := by
    unfold app'
    rw [if_pos, List.nil_append]
    rw [nb_len, maxLen_eq]; simp; omega
  unfold F_slices_Clone___byte_byte_
  rw [e]
  cases L <;> rfl
end
theorem EqualFr {l m : List (Arr 64 Int)} (hl : l.length ≤ 9223372036854775807) (_hm : m.length ≤ 9223372036854775807) : F_slices_Equal___api_Frame_api_Frame_ l m = some (decide (l = m)) := by
  unfold F_slices_Equal___api_Frame_api_Frame_
  simp only [letO_eq, joinO_eq]
  by_cases c : l.length = m.length
  · rw [show decide ((l.length : Int) ≠ (m.length : Int)) = false from decide_eq_false (by omega), iteB_fa]
    unfold F_slices_Equal___api_Frame_api_Frame__L1
    refine equal_loop hl c (fun k i x y hx hy hi => ?_) (fun k => ?_)
    · simp only [letO_eq]
      rw [lt_true hi, iteB_tr, at_ok hx, bindO_s, at_ok hy, bindO_s, wrap1 hi hl]
      by_cases e : x = y
      · rw [if_pos e, show (!decide (x = y)) = false by simp [e], iteB_fa]
      · rw [if_neg e, show (!decide (x = y)) = true by simp [e], iteB_tr]
    · simp only [letO_eq]; rw [lt_self]; rfl
  · rw [show decide ((l.length : Int) ≠ (m.length : Int)) = true from decide_eq_true (by omega), iteB_tr, decide_eq_false (fun e => c (by rw [e]))]
theorem law_From {L M : List Nat} {a b : Int} (hm : L.length ≤ 100000000000000) (hB : Byte L) (hm2 : M.length ≤ 100000000000000) (hM : Byte M) (ha : i64 a) (hb : i64 b) : F_law1_FrameFromBytesMatchesSpec (nb L) a (nb M) b = some true := by
  obtain ⟨p1, x1, y1, q1⟩ := FromBytes_eq (L := L) (by omega) hB
  obtain ⟨p2, x2, y2, q2⟩ := Get_eq (L := L) (a := a) (by omega) hB ha
  obtain ⟨p3, x3, y3, q3⟩ := WordAt_eq (L := L) (a := a) (i := b) (by omega) hB ha
  obtain ⟨p4, x4, y4, q4⟩ := Same_eq (L := L) (M := M) (a := a) (b := b) (by omega) hB (by omega) hM ha hb
  obtain ⟨p5, x5, y5, q5⟩ := GetSecond_eq (L := L) (a := a) hm hB ha
  have fl := frs_len L (L.length / 96)
  unfold F_law1_FrameFromBytesMatchesSpec
  rw [Clone_eq hm, bindO_s, ← p1, q1]
  simp only [bindO_s, letO_eq]
  rw [← p2, q2]
  simp only [bindO_s, letO_eq]
  rw [← p3, q3]
  simp only [bindO_s, letO_eq]
  rw [← p4, q4]
  simp only [bindO_s, letO_eq]
  rw [← p5, q5, Frames_eq hm hB, rFrames_eq hm hB]
  simp only [bindO_s, letO_eq]
  rw [EqualFr (by omega) (by omega)]
  simp [iteB, bindO, X_framed, F_bytes_Equal, letO]
end Go.Lf
