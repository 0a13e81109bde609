/- Walks: what each function computes, for every argument; no condition but those that stand in the statements. -/
import Derived.Test.YtbjhondbheijiaaGreatZNc
import Derived.Test.YtbjhondbheijiaaGreatBitsx
namespace Go.Lf
open Go.OB Go.RowKit in
theorem mask_u64 {a : Nat} (h : a < 18446744073709551616) : bits .and .u64 (a : Int) 4294967295 = ((a % 4294967296 : Nat) : Int) := by
  have e : (4294967295 : Int) = 2 ^ 32 - 1 := by decide
  have q := bits_mask .u64 64 (by decide) wrapn_u64 32 (by decide) (a : Int) (by omega) (by omega)
  rw [e, q]
  have : (2 : Int) ^ 32 = 4294967296 := by decide
  rw [this, Int.natCast_emod]; rfl
theorem shr_u64 {a : Nat} : shr' .u64 (a : Int) 32 = some ((a / 4294967296 : Nat) : Int) := by
  unfold shr'
  rw [if_pos (by decide)]
  have : (2 : Int) ^ (32 : Int).toNat = 4294967296 := by decide
  rw [this, Int.natCast_ediv]; rfl
theorem w64 {a : Int} (h0 : 0 ≤ a) (h : a < 18446744073709551616) : IntKind.u64.wrap a = a := by rw [IntKind.wrap_u64]; omega
/-- A product that fits. -/
theorem mul64 (a b : Nat) (hb : b < 4294967296) (h : a * b < 18446744073709551616) (ha : a < 18446744073709551616) : F_math_bits_Mul64 (a : Int) (b : Int) = some (0, ((a * b : Nat) : Int)) := by
  unfold F_math_bits_Mul64
  have b0 : b / 4294967296 = 0 := Nat.div_eq_of_lt hb
  have b1 : b % 4294967296 = b := Nat.mod_eq_of_lt hb
  have hsplit : a = 4294967296 * (a / 4294967296) + a % 4294967296 := (Nat.div_add_mod a 4294967296).symm
  have hP : a * b = 4294967296 * (a / 4294967296 * b) + a % 4294967296 * b := by
    conv => lhs; rw [hsplit]
    rw [Nat.add_mul, Nat.mul_assoc]
  generalize hu : a / 4294967296 * b = u at hP
  generalize hv : a % 4294967296 * b = v at hP
  have e1 : ((a % 4294967296 : Nat) : Int) * (b : Int) = (v : Int) := by rw [← hv, Int.natCast_mul]
  have e2 : ((a / 4294967296 : Nat) : Int) * (b : Int) = (u : Int) := by rw [← hu, Int.natCast_mul]
  have e3 : (a : Int) * (b : Int) = ((a * b : Nat) : Int) := by rw [Int.natCast_mul]
  have z1 : ((a % 4294967296 : Nat) : Int) * ((0 : Nat) : Int) = 0 := by simp
  have z2 : ((a / 4294967296 : Nat) : Int) * ((0 : Nat) : Int) = 0 := by simp
  simp only [letO_eq]
  rw [mask_u64 ha, shr_u64, bindO_s, mask_u64 (by omega), b1, shr_u64, bindO_s, b0, e1, e2, e3, z1, z2, w64 (by omega) (by omega), w64 (by omega) (by omega)]
  rw [show shr' .u64 ((v : Nat) : Int) 32 = some ((v / 4294967296 : Nat) : Int) from shr_u64, bindO_s]
  have e4 : (u : Int) + ((v / 4294967296 : Nat) : Int) = ((u + v / 4294967296 : Nat) : Int) := by omega
  have hs : u + v / 4294967296 < 4294967296 := by omega
  rw [e4, w64 (by omega) (by omega), mask_u64 (by omega), shr_u64, bindO_s, Nat.div_eq_of_lt hs, Nat.mod_eq_of_lt hs]
  have w0 : IntKind.u64.wrap 0 = 0 := w64 (by omega) (by omega)
  rw [w0, Int.add_zero, w64 (by omega) (by omega), shr_u64, bindO_s, Nat.div_eq_of_lt hs, Int.zero_add]
  have w0' : IntKind.u64.wrap ((0 : Nat) : Int) = 0 := w64 (by omega) (by omega)
  rw [w0', Int.zero_add, w0', w64 (by omega) (by omega)]
/-- One round of the greatest divisor. -/
def gB : (Int × Int → Option Int) → Int × Int → Option Int := fun k ⟨g80, g81⟩ =>
  letO (decide (g81 ≠ 0)) fun x94 =>
  iteB x94
  (bindO (rem' g80 g81) fun x99 =>
  k (g81, x99))
  (some g80)
theorem gB1 : F_fleet_divisor_L1 = loopO gB := rfl
theorem gB2 : F_ref9_ratio_L1 = loopO gB := rfl
theorem gcd_loop : ∀ (n a b : Nat), b < n → loopN gB n ((a : Int), (b : Int)) = some ((Nat.gcd a b : Nat) : Int)
  | 0, _, _, h => by omega
  | n + 1, a, b, h => by
    rw [loopN]
    unfold gB
    simp only [letO_eq]
    by_cases c : b = 0
    · subst c
      rw [decide_eq_false (by simp), iteB_fa, Nat.gcd_zero_right]
    · have c' : (b : Int) ≠ 0 := by omega
      have hr : rem' (a : Int) (b : Int) = some ((a % b : Nat) : Int) := by
        unfold rem'
        rw [if_neg c', Int.tmod_eq_emod_of_nonneg (by omega), Int.natCast_emod]
      rw [decide_eq_true c', iteB_tr, hr, bindO_s]
      have hlt : a % b < b := Nat.mod_lt _ (by omega)
      have e : Nat.gcd a b = Nat.gcd b (a % b) := by rw [Nat.gcd_comm a b, Nat.gcd_rec b a, Nat.gcd_comm]
      rw [e]
      exact gcd_loop n b (a % b) (by omega)
theorem gcdO (a b : Nat) (h : b ≤ 9223372036854775807) : loopO gB ((a : Int), (b : Int)) = some ((Nat.gcd a b : Nat) : Int) := gcd_loop FU a b (FU_big h)
theorem abs_max (x : Int) : max x (-x) = (x.natAbs : Int) := by omega
theorem quo_nat {k : IntKind} (hk : ∀ z : Int, 0 ≤ z → z ≤ 9223372036854775807 → k.wrap z = z) {a b : Nat} (hb : 1 ≤ b) (ha : a ≤ 9223372036854775807) : quo' k (a : Int) (b : Int) = some ((a / b : Nat) : Int) := by
  unfold quo'
  have h1 := Nat.div_le_self a b
  have e : Int.tdiv (a : Int) (b : Int) = ((a / b : Nat) : Int) := by rw [Int.tdiv_eq_ediv_of_nonneg (by omega), Int.natCast_ediv]
  have f : k.wrap ((a / b : Nat) : Int) = ((a / b : Nat) : Int) := by
    generalize a / b = q at h1
    exact hk _ (by omega) (by omega)
  rw [if_neg (by omega), e, f]
theorem wk_i64 : ∀ z : Int, 0 ≤ z → z ≤ 9223372036854775807 → IntKind.i64.wrap z = z := fun z h1 h2 => Go.OB.wrap_i64 (by omega) h2
theorem wk_u64 : ∀ z : Int, 0 ≤ z → z ≤ 9223372036854775807 → IntKind.u64.wrap z = z := fun z h1 h2 => w64 h1 (by omega)
theorem mixed_eq {W R : Int} {n g a : Nat} (h1 : 1 ≤ n) (h2 : n ≤ 300) (hg : Nat.gcd R.natAbs n = g) (ha : n = g * a) (hR : R.natAbs ≤ 300) (hW : W.natAbs * a ≤ 337769972052787200) (hW2 : W.natAbs ≤ 337769972052787200) :
    F_fleet_mixed W R (n : Int) = some (Ratio.mk (W * (a : Int) + R.tdiv (g : Int)) (a : Int), true) := by
  have g1 : 1 ≤ g := by rw [← hg]; exact Nat.gcd_pos_of_pos_right _ (by omega)
  have a1 : a ≤ n := by rw [ha]; exact Nat.le_mul_of_pos_left _ (by omega)
  have na : n / g = a := by rw [ha]; exact Nat.mul_div_cancel_left _ (by omega)
  have hRt : (R.tdiv (g : Int)).natAbs ≤ 300 := by
    rw [Int.natAbs_tdiv]
    exact Nat.le_trans (Nat.div_le_self _ _) hR
  have hwT : IntKind.i64.wrap (R.tdiv (g : Int)) = R.tdiv (g : Int) := by
    generalize R.tdiv (g : Int) = T at hRt ⊢
    exact Go.OB.wrap_i64 (by omega) (by omega)
  have hq : quo' .i64 R (g : Int) = some (R.tdiv (g : Int)) := by
    unfold quo'
    rw [if_neg (by omega), hwT]
  have hd : F_fleet_divisor R (n : Int) = some (g : Int) := by
    unfold F_fleet_divisor
    simp only [letO_eq]
    have f1 : IntKind.i64.wrap (-R) = -R := Go.OB.wrap_i64 (by omega) (by omega)
    have f2 : IntKind.i64.wrap (-(n : Int)) = -(n : Int) := Go.OB.wrap_i64 (by omega) (by omega)
    rw [f1, f2, abs_max, abs_max, Int.natAbs_natCast, gB1, gcdO _ _ (by omega), hg, bindO_s]
  generalize R.tdiv (g : Int) = T at hRt hq ⊢
  unfold F_fleet_mixed
  simp only [letO_eq]
  have f3 : IntKind.i64.wrap (-W) = -W := Go.OB.wrap_i64 (by omega) (by omega)
  have f4 : IntKind.u64.wrap ((W.natAbs : Nat) : Int) = ((W.natAbs : Nat) : Int) := w64 (by omega) (by omega)
  have f5 : IntKind.u64.wrap ((a : Nat) : Int) = ((a : Nat) : Int) := w64 (by omega) (by omega)
  rw [hd, bindO_s, hq, bindO_s, quo_nat wk_i64 g1 (by omega), na, bindO_s, f3, abs_max, f4, f5, mul64 W.natAbs a (by omega) (by omega) (by omega), bindO_s]
  simp only [Int.lt_irrefl, decide_false, iteB_fa, bindO_s]
  have e1 : IntKind.u64.wrap (2 * (a : Int)) = 2 * a := w64 (by omega) (by omega)
  have e2 : IntKind.u64.wrap (4611686018427387904 + 2 * (a : Int)) = 4611686018427387904 + 2 * a := w64 (by omega) (by omega)
  rw [e1, e2, decide_eq_false (by omega), iteB_fa]
  have f6 : IntKind.i64.wrap ((W.natAbs * a : Nat) : Int) = ((W.natAbs * a : Nat) : Int) := Go.OB.wrap_i64 (by omega) (by omega)
  rw [f6]
  have e3 : ∀ X : Nat, X = W.natAbs * a → iteB (decide (W < 0)) (some (IntKind.i64.wrap (-(X : Int)))) (some (X : Int)) = some (W * (a : Int)) := by
    intro X hX
    have hX2 : X ≤ 337769972052787200 := by omega
    by_cases c : W < 0
    · rw [decide_eq_true c, iteB_tr, Go.OB.wrap_i64 (by omega) (by omega), hX]
      have : W = -(W.natAbs : Int) := by omega
      conv => rhs; rw [this]
      rw [Int.natCast_mul, Int.neg_mul]
    · rw [decide_eq_false c, iteB_fa, hX]
      have : W = (W.natAbs : Int) := by omega
      conv => rhs; rw [this]
      rw [Int.natCast_mul]
  rw [e3 _ rfl, bindO_s]
  have hWa : (W * (a : Int)).natAbs ≤ 337769972052787200 := by rw [Int.natAbs_mul, Int.natAbs_natCast]; exact hW
  generalize W * (a : Int) = Z at hWa ⊢
  rw [Go.OB.wrap_i64 (by omega) (by omega), fwithin, bindO_s, decide_eq_true (by omega), decide_eq_true (by omega)]
  rfl
theorem told_eq {S n g a : Nat} (neg : Bool) (h1 : 1 ≤ n) (h2 : n ≤ 300) (hg : Nat.gcd (S % n) n = g) (ha : n = g * a) (hS : S ≤ 337769972052787200) (hneg : S = 0 → neg = false) :
    F_ref9_told (Orangeboxref9Wide.mk neg 0 (S : Int)) (n : Int) = some (Ratio.mk (if neg = true then -((S / g : Nat) : Int) else ((S / g : Nat) : Int)) (a : Int), 0) := by
  have g1 : 1 ≤ g := by rw [← hg]; exact Nat.gcd_pos_of_pos_right _ (by omega)
  have a1 : a ≤ n := by rw [ha]; exact Nat.le_mul_of_pos_left _ (by omega)
  have na : n / g = a := by rw [ha]; exact Nat.mul_div_cancel_left _ (by omega)
  have gn : g ≤ n := by rw [ha]; exact Nat.le_mul_of_pos_right _ (by rcases Nat.eq_zero_or_pos a with h | h; rw [h] at ha; omega; exact h)
  have hr : F_ref9_ratio (Orangeboxref9Wide.mk neg 0 (S : Int)) (n : Int) = some (Ratio.mk (if neg = true then -((S / g : Nat) : Int) else ((S / g : Nat) : Int)) (a : Int), true) := by
    unfold F_ref9_ratio
    simp only [letO_eq, decide_true, iteB_tr, bindO_s]
    by_cases c : S = 0
    · subst c
      have : a = 1 := by
        rw [Nat.zero_mod, Nat.gcd_zero_left] at hg
        subst hg
        exact Nat.eq_of_mul_eq_mul_left (by omega) (by omega : n * a = n * 1)
      rw [hneg rfl, this, show decide (((0 : Nat) : Int) = 0) = true from rfl, iteB_tr, Nat.zero_div]
      rfl
    · have z1 : rem' 0 (n : Int) = some 0 := by unfold rem'; rw [if_neg (by omega)]; rfl
      have z2 : rem' 0 (g : Int) = some 0 := by unfold rem'; rw [if_neg (by omega)]; rfl
      have z3 : quo' .u64 0 (g : Int) = some 0 := by
        unfold quo'
        rw [if_neg (by omega), Int.zero_tdiv, w64 (by omega) (by omega)]
      have d1 : X_Div64 0 (S : Int) (n : Int) = some ((S : Int) / (n : Int), ((S % n : Nat) : Int)) := by
        unfold X_Div64; rw [if_pos ⟨rfl, by omega, by omega, by omega, by omega⟩, Int.natCast_emod]
      have d2 : X_Div64 0 (S : Int) (g : Int) = some (((S / g : Nat) : Int), (S : Int) % (g : Int)) := by
        unfold X_Div64; rw [if_pos ⟨rfl, by omega, by omega, by omega, by omega⟩, Int.natCast_ediv]
      have hl : S / g ≤ S := Nat.div_le_self _ _
      have hmod : S % n < n := Nat.mod_lt _ (by omega)
      rw [decide_eq_false (show ¬ (S : Int) = 0 by omega), iteB_fa, z1, bindO_s, d1, bindO_s]
      simp only []
      rw [gB2, gcdO _ _ (by omega), Nat.gcd_comm, hg, bindO_s, z3, bindO_s, z2, bindO_s, d2, bindO_s]
      simp only []
      rw [quo_nat wk_u64 g1 (by omega), na, bindO_s, decide_eq_false (show ¬ (0 : Int) ≠ 0 from fun h => h rfl), iteB_fa]
      generalize S / g = Q at hl ⊢
      have f1 : IntKind.i64.wrap ((Q : Nat) : Int) = ((Q : Nat) : Int) := Go.OB.wrap_i64 (by omega) (by omega)
      have f2 : IntKind.i64.wrap ((a : Nat) : Int) = ((a : Nat) : Int) := Go.OB.wrap_i64 (by omega) (by omega)
      have f3 : IntKind.i64.wrap (-((Q : Nat) : Int)) = -((Q : Nat) : Int) := Go.OB.wrap_i64 (by omega) (by omega)
      rw [decide_eq_false (show ¬ (4611686018427387904 : Int) < ((Q : Nat) : Int) by omega), iteB_fa, decide_eq_false (show ¬ (4611686018427387904 : Int) < (a : Int) by omega), bindO_s, iteB_fa, f1, f2, f3]
      cases neg <;> rfl
  unfold F_ref9_told
  rw [hr, bindO_s]
  rfl
/-- The mean of a sum of n numbers. -/
theorem mean_eq (s : Int) (n : Nat) (h1 : 1 ≤ n) (h2 : n ≤ 300) (hs : -337769972052787200 ≤ s ∧ s ≤ 337769972052787200) :
    ∃ x91 x93 r, quo' .i64 s (n : Int) = some x91 ∧ rem' s (n : Int) = some x93 ∧ F_fleet_mixed x91 x93 (n : Int) = some (r, true) ∧
      ∃ w, F_ref9_times s 1 = some w ∧ F_ref9_told w (n : Int) = some (r, 0) := by
  obtain ⟨S, hS⟩ : ∃ S : Nat, s.natAbs = S := ⟨_, rfl⟩
  obtain ⟨g, hg⟩ : ∃ g, Nat.gcd (S % n) n = g := ⟨_, rfl⟩
  obtain ⟨a, ha⟩ : g ∣ n := by rw [← hg]; exact Nat.gcd_dvd_right _ _
  obtain ⟨b, hb⟩ : g ∣ S % n := by rw [← hg]; exact Nat.gcd_dvd_left _ _
  have g1 : 1 ≤ g := by rw [← hg]; exact Nat.gcd_pos_of_pos_right _ (by omega)
  have hmod : S % n < n := Nat.mod_lt _ (by omega)
  have hSl : S ≤ 337769972052787200 := by omega
  have hdm := Nat.div_add_mod S n
  have hq : S / n ≤ S := Nat.div_le_self _ _
  have hSg : S / g = (S / n) * a + b := by
    have e : S = g * ((S / n) * a + b) := by
      rw [Nat.mul_add, ← hb, Nat.mul_comm (S / n) a, ← Nat.mul_assoc, ← ha]; exact hdm.symm
    conv => lhs; rw [e]
    exact Nat.mul_div_cancel_left _ (by omega)
  have hqa : S / n * a ≤ 337769972052787200 := by
    have := Nat.div_le_self S g
    omega
  have nW : (s.tdiv (n : Int)).natAbs = S / n := by rw [Int.natAbs_tdiv, Int.natAbs_natCast, hS]; rfl
  have nR : (s.tmod (n : Int)).natAbs = S % n := by rw [Int.natAbs_tmod, Int.natAbs_natCast, hS]
  refine ⟨s.tdiv (n : Int), s.tmod (n : Int), _, ?_, ?_, mixed_eq h1 h2 (by rw [nR]; exact hg) ha (by omega) (by rw [nW]; exact hqa) (by omega), ?_⟩
  · unfold quo'
    rw [if_neg (by omega), Go.OB.wrap_i64 (by omega) (by omega)]
  · unfold rem'
    rw [if_neg (by omega)]
  refine ⟨Orangeboxref9Wide.mk (decide (s < 0)) 0 (S : Int), ?_, ?_⟩
  · unfold F_ref9_times
    simp only [letO_eq]
    rw [Go.OB.wrap_i64 (by omega) (by omega), abs_max, hS, w64 (by omega) (by omega)]
    have e1 : IntKind.u64.wrap (max 1 (IntKind.i64.wrap (-1))) = ((1 : Nat) : Int) := by decide
    rw [e1, mul64 S 1 (by decide) (by omega) (by omega), bindO_s, Nat.mul_one]
    have e2 : (!(decide (s < 0) == decide ((1 : Int) < 0))) = decide (s < 0) := by cases decide (s < 0) <;> rfl
    rw [e2]
  · rw [told_eq (decide (s < 0)) h1 h2 hg ha hSl (fun h => decide_eq_false (by omega)), hSg]
    congr 2
    congr 1
    have hbg : (g * b) / g = b := Nat.mul_div_cancel_left _ (by omega)
    by_cases c : s < 0
    · rw [if_pos (decide_eq_true c)]
      have e : s = -(S : Int) := by omega
      have e1 : s.tdiv (n : Int) = -((S / n : Nat) : Int) := by rw [e, Int.neg_tdiv, Int.tdiv_eq_ediv_of_nonneg (by omega), Int.natCast_ediv]
      have e2 : s.tmod (n : Int) = -((S % n : Nat) : Int) := by rw [e, Int.neg_tmod, Int.tmod_eq_emod_of_nonneg (by omega), Int.natCast_emod]
      rw [e1, e2, Int.neg_tdiv, Int.tdiv_eq_ediv_of_nonneg (by omega), ← Int.natCast_ediv, hb, hbg, Int.neg_mul, ← Int.natCast_mul]
      omega
    · rw [if_neg (by simpa using c)]
      have e : s = (S : Int) := by omega
      have e1 : s.tdiv (n : Int) = ((S / n : Nat) : Int) := by rw [e, Int.tdiv_eq_ediv_of_nonneg (by omega), Int.natCast_ediv]
      have e2 : s.tmod (n : Int) = ((S % n : Nat) : Int) := by rw [e, Int.tmod_eq_emod_of_nonneg (by omega), Int.natCast_emod]
      rw [e1, e2, Int.tdiv_eq_ediv_of_nonneg (by omega), ← Int.natCast_ediv, hb, hbg, ← Int.natCast_mul]
      omega
end Go.Lf
namespace Go.Lf
def sumL : List Int → Int
  | [] => 0
  | x :: l => x + sumL l
theorem sumL_app (l : List Int) (x : Int) : sumL (l ++ [x]) = sumL l + x := by
  induction l with
  | nil => simp [sumL]
  | cons y l ih => simp only [List.cons_append, sumL, ih]; omega
theorem sumL_rng : ∀ (l : List Int), (∀ p ∈ l, -1125899906842624 ≤ p ∧ p ≤ 1125899906842624) → -1125899906842624 * (l.length : Int) ≤ sumL l ∧ sumL l ≤ 1125899906842624 * (l.length : Int)
  | [], _ => by simp [sumL]
  | x :: l, h => by
    have h1 := h x (List.mem_cons_self ..)
    have h2 := sumL_rng l (fun p hp => h p (List.mem_cons_of_mem _ hp))
    simp only [sumL, List.length_cons, Int.natCast_add, Int.natCast_one]
    omega
theorem sum_step {l : List Int} (hl : l.length ≤ 300) (h : ∀ p ∈ l, -1125899906842624 ≤ p ∧ p ≤ 1125899906842624) {i : Nat} {x : Int} (hx : l[i]? = some x) (hi : i < l.length) : IntKind.i64.wrap (sumL (l.take i) + x) = sumL (l.take (i + 1)) := by
  have e : l.take (i + 1) = l.take i ++ [x] := by rw [List.take_add_one, hx]; rfl
  have h1 := sumL_rng (l.take i) (fun p hp => h p (List.mem_of_mem_take hp))
  have h2 := h x (List.mem_of_getElem? hx)
  have h3 : (l.take i).length ≤ 300 := by rw [List.length_take]; omega
  rw [e, sumL_app, Go.OB.wrap_i64 (by omega) (by omega)]
theorem fsum_eq {l : List Int} (hl : l.length ≤ 300) (h : ∀ p ∈ l, -1125899906842624 ≤ p ∧ p ≤ 1125899906842624) : F_fleet_sum l = some (sumL l) := by
  have e : F_fleet_sum_L1 l (l.length : Int) (0, 0) = some (sumL l) := by
    unfold F_fleet_sum_L1
    refine loopO_eq (fun (i : Nat) (b : Int) => (b, (i : Int))) l (fun i b => b = sumL (l.take i)) _ (by omega) ?_ ?_ 0 rfl
    · intro kk i b x hx hi hI
      subst hI
      refine ⟨_, rfl, ?_⟩
      simp only [letO_eq]
      rw [lt_true hi, iteB_tr, at_ok hx, bindO_s, wrap1 hi (by omega), sum_step hl h hx hi]
    · intro kk b hI
      subst hI
      simp only [letO_eq]
      rw [lt_self, iteB_fa, List.take_length]
  unfold F_fleet_sum
  simp only [letO_eq]
  rw [e, bindO_s]
theorem rsum_eq {l : List Int} (hl : l.length ≤ 300) (h : ∀ p ∈ l, -1125899906842624 ≤ p ∧ p ≤ 1125899906842624) : F_ref9_sum l = some (sumL l) := by
  have e : F_ref9_sum_L1 l (0, 0) = some (sumL l) := by
    unfold F_ref9_sum_L1
    refine loopO_eq (fun (i : Nat) (b : Int) => (b, (i : Int))) l (fun i b => b = sumL (l.take i)) _ (by omega) ?_ ?_ 0 rfl
    · intro kk i b x hx hi hI
      subst hI
      refine ⟨_, rfl, ?_⟩
      simp only [letO_eq]
      rw [lt_true hi, iteB_tr, at_ok hx, bindO_s, wrap1 hi (by omega), sum_step hl h hx hi]
    · intro kk b hI
      subst hI
      simp only [letO_eq]
      rw [lt_self, iteB_fa, List.take_length]
  unfold F_ref9_sum
  rw [e, bindO_s]
/-- Both tell the same mean. -/
theorem Mean_eq {l : List Flight} {m : Mask} {s : Str} (h : okL okFlight l) (hm : okMask m) (hs : okS s) : ∃ r, F_fleet_Mean l m s = some r ∧ F_ref9_Mean l m s = some r := by
  obtain ⟨c, hc⟩ := lfF_some l
  obtain ⟨cm, hcm⟩ := mskE_some m
  unfold F_fleet_Mean F_ref9_Mean
  simp only [letO_eq]
  rw [peaksOf_eq h hm hs hc hcm, peaksFault_eq h hm hs hc hcm]
  simp only [bindO_s]
  by_cases e1 : pfE c cm s = 0
  · have hc0 : c = 0 := by unfold pfE at e1; split at e1 <;> simp_all
    subst hc0
    have hcm0 : cm = 0 := by unfold pfE at e1; simp only [ne_eq, not_true, if_false] at e1; split at e1 <;> simp_all
    subst hcm0
    have n1 : ¬ (pfE 0 0 s ≠ 0) := fun h => h e1
    have ep : poE m s l 0 0 = pE m s l := by unfold poE; rw [if_neg n1]
    rw [rpeaks_eq h hm hc hcm, ep, decide_eq_false n1, iteB_fa, bindO_s]
    by_cases e2 : pE m s l = 0
    · rw [if_pos e2, if_pos e2, e2]
      simp only [ne_eq, not_true, decide_false, iteB_fa]
      obtain ⟨h1, h2⟩ := lfF_zero hc
      have gm2 := good2_of hcm
      have j := jn_all gm2.toGm (s := s) (fun f hf => good_of (h2 f hf)) l.length
      have hps : (psL m s l).length ≤ 300 := Nat.le_trans j.lp h1
      have hrng : ∀ p ∈ psL m s l, -1125899906842624 ≤ p ∧ p ≤ 1125899906842624 := j.rng
      have hleast : (1 : Int) ≤ (psL m s l).length := by
        unfold pE at e2
        split at e2
        · cases e2
        · rename_i hx
          have hx : ¬ ((psL m s l).length : Int) < m.Least := by simpa using hx
          have := least_of hcm
          omega
      have a0 : at' [FleetPeaks.mk (psL m s l) (RS m s l l.length).2.1 0] 0 = some (FleetPeaks.mk (psL m s l) (RS m s l l.length).2.1 0) := rfl
      rw [a0, bindO_s]
      simp only []
      rw [fsum_eq hps hrng, rsum_eq hps hrng, bindO_s, bindO_s, bindO_s]
      have hr := sumL_rng _ hrng
      obtain ⟨x91, x93, r, q1, q2, q3, w, q4, q5⟩ := mean_eq (sumL (psL m s l)) (psL m s l).length (by omega) hps (by omega)
      rw [q1, bindO_s, q2, bindO_s, q3, bindO_s, q4, bindO_s, w64 (by omega) (by omega), q5]
      exact ⟨_, rfl, rfl⟩
    · rw [if_neg e2, if_neg e2, decide_eq_true e2]
      exact ⟨_, rfl, rfl⟩
  · have ep : poE m s l c cm = pfE c cm s := by unfold poE; rw [if_pos e1]
    rw [ep, decide_eq_true e1]
    exact ⟨_, rfl, rfl⟩
theorem totals_ok : F_law9_totals = some true := by decide +kernel
/-- The law of quantiles. -/
theorem law_Quantile (l : List Flight) (m : Mask) (s : Str) (n d : Int) (h : okL okFlight l) (hm : okMask m) (hs : okS s) (_ : i64 n) (_ : i64 d) : F_law9_FleetQuantileMatchesSpec l m s n d = some true := by
  obtain ⟨⟨q1, q2⟩, a1, a2⟩ := Quantile_eq (n := n) (d := d) h hm hs
  obtain ⟨⟨m1, m2⟩, b1, b2⟩ := Mean_eq h hm hs
  unfold F_law9_FleetQuantileMatchesSpec
  rw [a1, a2, b1, b2, totals_ok]
  simp [letO_eq, bindO_s, iteB_fa, iteB_tr]
end Go.Lf
