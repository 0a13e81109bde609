/- Chapter 1: what the plain functions tell of words, numbers, sums and checks. -/
import Derived.Test.YtafgmocdnjdmoaaDoorAP
import Derived.Test.YtafgmocdnjdmoaaDoorPl
import Derived.Test.YtafgmocdnjdmoaaDoorCrc
import Derived.Test.YtafgmocdnjdmoaaDoorSeal
import Derived.Test.YtafgmocdnjdmoaaDoorDist
import Derived.Test.YtafgmocdnjdmoaaDoorBitsx
namespace Go.Lf
open Go.RowKit Go.OB Go.Fr1
/-- A loop whose states are a sequence. -/
theorem loopO_seq {γ β : Type} {body : (γ → Option β) → γ → Option β} (E : Nat → γ) (a n : Nat) (r : Option β) (han : a ≤ n) (hn : n ≤ 9223372036854775807)
    (hs : ∀ k i, a ≤ i → i < n → body k (E i) = k (E (i + 1))) (he : ∀ k, body k (E n) = r) : loopO body (E a) = r := by
  have key : ∀ m fu i, i + m = n → a ≤ i → m < fu → loopN body fu (E i) = r := by
    intro m
    induction m with
    | zero =>
      intro fu i h1 h2 h3
      obtain ⟨fu, rfl⟩ : ∃ k, fu = k + 1 := ⟨fu - 1, by omega⟩
      have : i = n := by omega
      subst this
      exact he _
    | succ m ih =>
      intro fu i h1 h2 h3
      obtain ⟨fu, rfl⟩ : ∃ k, fu = k + 1 := ⟨fu - 1, by omega⟩
      show body (loopN body fu) (E i) = r
      rw [hs _ i h2 (by omega)]
      exact ih fu (i + 1) (by omega) (by omega) (by omega)
  exact key (n - a) FU a (by omega) (Nat.le_refl _) (FU_big (by omega))
theorem at_en {g : List Nat} {h : g.length = 64} {i : Nat} (hi : i < 64) : at' (en g h).l (i : Int) = some ((wd g i : Nat) : Int) := by
  rw [at_nat]
  have : i < g.length := by omega
  simp [en, wd, List.getD_eq_getElem?_getD, this]
theorem set_en {g : List Nat} {h : g.length = 64} (i x : Nat) : Arr.set (en g h) (i : Int) (x : Int) = en (g.set i x) (by rw [List.length_set]; exact h) := by
  apply Arr.ext
  simp [Arr.set, en, List.map_set]
theorem en_inj {g g' : List Nat} {h : g.length = 64} {h' : g'.length = 64} : en g h = en g' h' ↔ g = g' := by
  constructor
  · intro e
    have := congrArg Arr.l e
    simp only [en] at this
    exact List.map_inj_right (fun a b h => by omega) |>.1 this
  · rintro rfl; rfl
theorem en_rep : (Arr.rep 64 0 : Arr 64 Int) = en zero64 (by simp [zero64]) := by
  apply Arr.ext
  simp [Arr.rep, en, zero64]
theorem dec_dec {p q : Prop} [Decidable p] [Decidable q] (h : p ↔ q) : decide p = decide q := decide_eq_decide.2 h
theorem shr_nat {k : IntKind} {a b : Nat} (hb : b ≤ k.bits) : shr' k (a : Int) (b : Int) = some ((a / 2 ^ b : Nat) : Int) := by
  unfold shr'
  rw [if_pos ⟨by omega, by omega⟩]
  simp
theorem rem_nat {a b : Nat} (hb : b ≠ 0) : rem' (a : Int) (b : Int) = some ((a % b : Nat) : Int) := by
  unfold rem'
  rw [if_neg (by omega), Int.tmod_eq_emod_of_nonneg (by omega)]
  simp
theorem quo_nat {a b : Nat} (hb : b ≠ 0) (ha : a < 4611686018427387904) : quo' .i64 (a : Int) (b : Int) = some ((a / b : Nat) : Int) := by
  unfold quo'
  have h1 : a / b ≤ a := Nat.div_le_self _ _
  have e : (a : Int) / (b : Int) = ((a / b : Nat) : Int) := by simp
  rw [if_neg (by omega), Int.tdiv_eq_ediv_of_nonneg (by omega), e]
  generalize a / b = q at *
  rw [wrap_i64 (by omega) (by omega)]
/-! ### Words -/
theorem cnt_tab : ∀ i : Fin 256, byte' [0, 1, 1, 2, 1, 2, 2, 3, 1, 2, 2, 3, 2, 3, 3, 4, 1, 2, 2, 3, 2, 3, 3, 4, 2, 3, 3, 4, 3, 4, 4, 5, 1, 2, 2, 3, 2, 3, 3, 4, 2, 3, 3, 4, 3, 4, 4, 5, 2, 3, 3, 4, 3, 4, 4, 5, 3, 4, 4, 5, 4, 5, 5, 6, 1, 2, 2, 3, 2, 3, 3, 4, 2, 3, 3, 4, 3, 4, 4, 5, 2, 3, 3, 4, 3, 4, 4, 5, 3, 4, 4, 5, 4, 5, 5, 6, 2, 3, 3, 4, 3, 4, 4, 5, 3, 4, 4, 5, 4, 5, 5, 6, 3, 4, 4, 5, 4, 5, 5, 6, 4, 5, 5, 6, 5, 6, 6, 7, 1, 2, 2, 3, 2, 3, 3, 4, 2, 3, 3, 4, 3, 4, 4, 5, 2, 3, 3, 4, 3, 4, 4, 5, 3, 4, 4, 5, 4, 5, 5, 6, 2, 3, 3, 4, 3, 4, 4, 5, 3, 4, 4, 5, 4, 5, 5, 6, 3, 4, 4, 5, 4, 5, 5, 6, 4, 5, 5, 6, 5, 6, 6, 7, 2, 3, 3, 4, 3, 4, 4, 5, 3, 4, 4, 5, 4, 5, 5, 6, 3, 4, 4, 5, 4, 5, 5, 6, 4, 5, 5, 6, 5, 6, 6, 7, 3, 4, 4, 5, 4, 5, 5, 6, 4, 5, 5, 6, 5, 6, 6, 7, 4, 5, 5, 6, 5, 6, 6, 7, 5, 6, 6, 7, 6, 7, 7, 8] (i.val : Int) = some ((popF 8 i.val : Nat) : Int) := by decide +kernel
theorem cnt_at {i : Nat} (hi : i < 256) : byte' [0, 1, 1, 2, 1, 2, 2, 3, 1, 2, 2, 3, 2, 3, 3, 4, 1, 2, 2, 3, 2, 3, 3, 4, 2, 3, 3, 4, 3, 4, 4, 5, 1, 2, 2, 3, 2, 3, 3, 4, 2, 3, 3, 4, 3, 4, 4, 5, 2, 3, 3, 4, 3, 4, 4, 5, 3, 4, 4, 5, 4, 5, 5, 6, 1, 2, 2, 3, 2, 3, 3, 4, 2, 3, 3, 4, 3, 4, 4, 5, 2, 3, 3, 4, 3, 4, 4, 5, 3, 4, 4, 5, 4, 5, 5, 6, 2, 3, 3, 4, 3, 4, 4, 5, 3, 4, 4, 5, 4, 5, 5, 6, 3, 4, 4, 5, 4, 5, 5, 6, 4, 5, 5, 6, 5, 6, 6, 7, 1, 2, 2, 3, 2, 3, 3, 4, 2, 3, 3, 4, 3, 4, 4, 5, 2, 3, 3, 4, 3, 4, 4, 5, 3, 4, 4, 5, 4, 5, 5, 6, 2, 3, 3, 4, 3, 4, 4, 5, 3, 4, 4, 5, 4, 5, 5, 6, 3, 4, 4, 5, 4, 5, 5, 6, 4, 5, 5, 6, 5, 6, 6, 7, 2, 3, 3, 4, 3, 4, 4, 5, 3, 4, 4, 5, 4, 5, 5, 6, 3, 4, 4, 5, 4, 5, 5, 6, 4, 5, 5, 6, 5, 6, 6, 7, 3, 4, 4, 5, 4, 5, 5, 6, 4, 5, 5, 6, 5, 6, 6, 7, 4, 5, 5, 6, 5, 6, 6, 7, 5, 6, 6, 7, 6, 7, 7, 8] (i : Int) = some ((popF 8 i : Nat) : Int) := cnt_tab ⟨i, hi⟩
theorem ones_eq {n : Nat} (hn : n < 65536) : F_math_bits_OnesCount16 (n : Int) = some ((pop n : Nat) : Int) := by
  have h1 := cnt_at (i := n / 256) (by omega)
  have h2 := cnt_at (i := n % 256) (by omega)
  have e1 : shr' .u16 (n : Int) 8 = some ((n / 256 : Nat) : Int) := shr_nat (b := 8) (by decide)
  have e2 : bits .and .u16 (n : Int) 255 = ((n % 256 : Nat) : Int) := by rw [mask_u16 (m := 256) 8 (by decide) (by decide) (by omega) (by omega)]; omega
  have q1 := popF_le 8 (n / 256)
  have q2 := popF_le 8 (n % 256)
  have q3 := pop_eq (n := n)
  unfold F_math_bits_OnesCount16
  rw [e1, bindO_s, h1, bindO_s, letO_eq, e2, h2, bindO_s, letO_eq, letO_eq]
  generalize popF 8 (n / 256) = A at *
  generalize popF 8 (n % 256) = B at *
  rw [wrap_u8 (by omega) (by omega), wrap_i64 (by omega) (by omega)]
  congr 1; omega
theorem odd_eq {n : Nat} (hn : n < 65536) : F_frame_odd (n : Int) = some (decide (goodW n)) := by
  have q := popF_le 16 n
  unfold F_frame_odd
  simp only [letO_eq, ones_eq hn, bindO_s]
  have e : rem' ((pop n : Nat) : Int) 2 = some ((pop n % 2 : Nat) : Int) := rem_nat (b := 2) (by decide)
  rw [e]
  simp only [bindO_s]
  have e2 : decide ((n : Int) ≤ 4095) = decide (n ≤ 4095) := dec_dec (by omega)
  have e3 : decide (((pop n % 2 : Nat) : Int) = 1) = decide (oddN n) := dec_dec (by unfold oddN; omega)
  have e4 : decide (goodW n) = (decide (n ≤ 4095) && decide (oddN n)) := by
    rw [Bool.eq_iff_iff, Bool.and_eq_true, decide_eq_true_eq, decide_eq_true_eq, decide_eq_true_eq]; exact Iff.rfl
  rw [e2, e3, e4]
  generalize decide (oddN n) = z
  cases decide (n ≤ 4095) <;> rfl
theorem word_eq {d : Nat} (hd : d < 2048) : F_frame_word (d : Int) = some ((wordN d : Nat) : Int) := by
  unfold F_frame_word
  simp only [letO_eq]
  rw [wrap_u16 (by omega) (by omega), odd_eq (by omega), bindO_s]
  have e : decide (goodW d) = decide (oddN d) := dec_dec ⟨fun q => q.2, fun q => ⟨by omega, q⟩⟩
  rw [e]
  unfold wordN
  by_cases h : oddN d
  · rw [decide_eq_true h, if_pos h]; rfl
  · rw [decide_eq_false h, if_neg h]
    show some (bits .or .u16 (d : Int) 2048) = _
    rw [OB.or_comm, join_u16 (m := 2048) 11 (by decide) (by omega) (by omega) (by omega) (by omega) (by omega) (by omega)]
    congr 1; omega
theorem data_eq {x : Nat} (hx : x < 65536) : F_frame_data (x : Int) = some ((x % 2048 : Nat) : Int) := by
  unfold F_frame_data
  simp only [letO_eq]
  rw [mask_u16 (m := 2048) 11 (by decide) (by decide) (by omega) (by omega), wrap_i64 (by omega) (by omega)]
  congr 1
/-! ### Number, sum and check -/
section
variable {g : List Nat} {h : g.length = 64}
theorem number_eq (hs : Small g) : F_frame_numberOf (some (en g h)) = some ((numN g : Nat) : Int) := by
  have h1 := hs 1
  have h2 := hs 2
  unfold F_frame_numberOf
  rw [bindO_s, show (1 : Int) = ((1 : Nat) : Int) from rfl, at_en (by decide), bindO_s, data_eq h1, bindO_s, bindO_s, show (2 : Int) = ((2 : Nat) : Int) from rfl, at_en (by decide), bindO_s, data_eq h2, bindO_s]
  have e : shl' .i64 ((wd g 2 % 2048 : Nat) : Int) 11 = some ((wd g 2 % 2048 * 2048 : Nat) : Int) := by
    unfold shl'
    rw [if_pos (by decide)]
    congr 1
    rw [show (2 : Int) ^ (11 : Int).toNat = 2048 by decide, wrap_i64 (by omega) (by omega)]
    omega
  rw [e, bindO_s, letO_eq, OB.or_comm, join_i64 (m := 2048) 11 (by decide) (by omega) (by omega) (by omega) (by omega) (by omega) (by omega)]
  unfold numN
  congr 1; omega
theorem sum_eq (hs : Small g) : F_frame_sumOf (some (en g h)) = some ((sumN g : Nat) : Int) := by
  have L : F_frame_sumOf_L1 (some (en g h)) (0, 0) = some ((sumN g : Nat) : Int) := by
    unfold F_frame_sumOf_L1
    refine loopO_seq (fun i => (((xorTo g i : Nat) : Int), ((i : Nat) : Int))) 0 60 _ (by decide) (by decide) (fun k i _ hi => ?_) (fun k => rfl)
    have h1 := hs (i + 1)
    have h2 := xorTo_lt g i
    have e1 : ((i : Int) + 1) = ((i + 1 : Nat) : Int) := by omega
    simp only [letO_eq]
    rw [show decide ((i : Int) < 60) = true from decide_eq_true (by omega), iteB_tr, wrap_i64 (by omega) (by omega), bindO_s, e1, at_en (by omega), bindO_s, data_eq h1, bindO_s,
      xor_i64 _ _ (by omega) (by omega)]
    rfl
  unfold F_frame_sumOf
  rw [L, bindO_s]
theorem crc_bits (hs : Small g) {i : Nat} (hi : i < 62) (n : Nat) (hn : n < 4194304) : F_frame_checkOf_L2 (some (en g h)) (i : Int) ((n : Int), 11) = some ((crcBits n (wd g i) 12 : Nat) : Int) := by
  unfold F_frame_checkOf_L2
  have h1 := hs i
  refine loopO_seq (fun j => (((crcBits n (wd g i) j : Nat) : Int), 11 - (j : Int))) 0 12 _ (by decide) (by decide) (fun k j _ hj => ?_) (fun k => ?_)
  · have h2 := crcBits_lt (n := n) (w := wd g i) hn j
    generalize hq : crcBits n (wd g i) j = q at *
    have e0 : (11 : Int) - (j : Int) = ((11 - j : Nat) : Int) := by omega
    have e1 : shl' .i64 (q : Int) 1 = some ((q * 2 : Nat) : Int) := by
      unfold shl'
      rw [if_pos (by decide)]
      congr 1
      rw [show (2 : Int) ^ (1 : Int).toNat = 2 by decide, wrap_i64 (by omega) (by omega)]
      omega
    have e2 : bits .and .i64 ((q * 2 : Nat) : Int) 4194303 = ((q * 2 % 4194304 : Nat) : Int) := by
      rw [mask_i64 (m := 4194304) 22 (by decide) (by decide) (by omega) (by omega)]; omega
    have e3 : bits .and .u16 ((wd g i / 2 ^ (11 - j) : Nat) : Int) 1 = ((wd g i / 2 ^ (11 - j) % 2 : Nat) : Int) := by
      have : wd g i / 2 ^ (11 - j) ≤ wd g i := Nat.div_le_self _ _
      generalize wd g i / 2 ^ (11 - j) = z at *
      rw [mask_u16 (m := 2) 1 (by decide) (by decide) (by omega) (by omega)]; omega
    simp only [letO_eq]
    rw [show decide ((0 : Int) ≤ 11 - (j : Int)) = true from decide_eq_true (by omega), iteB_tr, and_top h2, e1, bindO_s, e2, bindO_s, at_en (by omega), bindO_s, e0, shr_nat (by show 11 - j ≤ 16; omega), bindO_s, e3]
    have e4 : decide ((if 2097152 ≤ q then (2097152 : Int) else 0) ≠ 0) = decide (2097152 ≤ q) := by split <;> simp_all
    have e5 : decide (((wd g i / 2 ^ (11 - j) % 2 : Nat) : Int) = 1) = decide (wd g i / 2 ^ (11 - j) % 2 = 1) := dec_dec (by omega)
    have e6 : IntKind.i64.wrap (((11 - j : Nat) : Int) - 1) = 11 - ((j + 1 : Nat) : Int) := by rw [wrap_i64 (by omega) (by omega)]; omega
    rw [e4, e5, e6]
    cases hb : (!(decide (2097152 ≤ q) == decide (wd g i / 2 ^ (11 - j) % 2 = 1))) with
    | true =>
      have e7 : bits .xor .i64 ((q * 2 % 4194304 : Nat) : Int) 2097167 = (((q * 2 % 4194304) ^^^ 2097167 : Nat) : Int) := xor_i64' (q * 2 % 4194304) 2097167 rfl rfl (by omega) (by decide)
      rw [iteB_tr, bindO_s, e7]
      rw [← hq] at hb
      rw [crcBits_ne hb, hq]
    | false =>
      rw [iteB_fa, bindO_s]
      rw [← hq] at hb
      rw [crcBits_eq hb, hq]
  · simp only [letO_eq]
    rw [show decide ((0 : Int) ≤ 11 - ((12 : Nat) : Int)) = false from by decide, iteB_fa]
theorem check_eq (hs : Small g) : F_frame_checkOf (some (en g h)) = some ((checkN g : Nat) : Int) := by
  have L : F_frame_checkOf_L1 (some (en g h)) (0, 0) = some ((checkN g : Nat) : Int) := by
    unfold F_frame_checkOf_L1
    refine loopO_seq (fun i => (((crcTo g i : Nat) : Int), ((i : Nat) : Int))) 0 62 _ (by decide) (by decide) (fun k i _ hi => ?_) (fun k => rfl)
    simp only [letO_eq]
    rw [show decide ((i : Int) < 62) = true from decide_eq_true (by omega), iteB_tr, crc_bits hs hi _ (crcTo_lt g i), bindO_s, wrap_i64 (by omega) (by omega)]
    rfl
  unfold F_frame_checkOf
  rw [L, bindO_s]
end
end Go.Lf
