/- What the walks and the laws stand on; no condition but those that stand in the statements. -/
import Derived.Test.YtafgmocdnjdmoaaDoorRows
import Derived.Test.YtafgmocdnjdmoaaDoorFrm
import Derived.Test.YtafgmocdnjdmoaaDoorOps4
namespace Go.Proofs.YtafgmocdnjdmoaaDoor
open Go.RowKit Go.OB Go.Fr1
theorem u3 : Tryd.prog.underlying 3 = some (.int .i64) := Tryd.underlying3
theorem u4 : Tryd.prog.underlying 4 = some .bool := Tryd.underlying4
theorem u5 : Tryd.prog.underlying 5 = some (.int .u8) := Tryd.underlying5
theorem u9 : Tryd.prog.underlying 9 = some .string := Tryd.underlying9
theorem u23 : Tryd.prog.underlying 23 = some (.int .u16) := Tryd.underlying23
theorem u25 : Tryd.prog.underlying 25 = some (.array 64 23) := Tryd.underlying25
theorem sz23 : Sz Tryd.prog 23 1 := by unfold Sz; kernel_rfl
theorem one23 : OneC Tryd.prog 23 := by unfold OneC; kernel_rfl
theorem en80 : Enters Tryd.prog 80 := ⟨_, Tryd.func80, rfl, by kernel_rfl⟩
theorem en85 : Enters Tryd.prog 85 := ⟨_, Tryd.func85, rfl, by kernel_rfl⟩
theorem en86 : Enters Tryd.prog 86 := ⟨_, Tryd.func86, rfl, by kernel_rfl⟩
theorem mixed : Tryd.prog.follows .mixedOrders = true := by kernel_rfl
/-- math/bits.OnesCount16 -/
theorem ones_c (x : Int) (n : Nat) (hx : x = n) (hn : n < 65536) (w : World) :
    Calls Tryd.prog 80 #[.int .u16 x] w fun e w' => e = .returned (.int .i64 (pop n : Nat)) ∧ Below w.heap.size w w' := by
  have q1 : (x / 256).toNat = n / 256 := by omega
  have q2 : (x % 256).toNat = n % 256 := by omega
  have q3 := popF_le 8 (n / 256)
  have q4 := popF_le 8 (n % 256)
  have q5 : pop n = popF 8 (n / 256) + popF 8 (n % 256) := pop_eq.symm
  refine calls_of_WP (args := [.int .u16 x]) 11 Tryd.func80 rfl rfl rfl ?_
  have H := Sep.start [] w
  refine WP_seq_k fun K1 hK1 => ?_
  refine WP_region ?_
  refine RL_do rfl rfl (Do_assign rfl) ?_
  refine (RL_nil (thenQ_n (hK1 _ _ ?_)))
  refine WP_seq_k fun K2 hK2 => ?_
  refine WP_mix [.pure, .pure, .pure, .pure, .pure, .pure, .pure, .pure, .pure] mixed (by kernel_rfl) (by kernel_rfl) (by kernel_rfl) ?_
  refine XL_pure rfl rfl rfl (fun w' => Do_move (v := .int _ _) rfl) ?_
  refine XL_pure rfl rfl rfl (fun w' => Do_shr rfl rfl (by decide) (by decide) (rfl : _ = (256 : Int))) ?_
  refine XL_pure rfl rfl rfl (fun w' => Do_index_str u9 (s := popTab) (by kernel_rfl) rfl (by omega) (by rw [q1]; exact popTab_at (by omega)) (congrArg _ (popTab_nat (by omega)))) ?_
  refine XL_pure rfl rfl rfl (fun w' => Do_move (v := .int _ _) rfl) ?_
  refine XL_pure rfl rfl rfl (fun w' => Do_and rfl rfl (mask_u16 8 (by decide) (rfl : _ = (256 : Int)) (by omega) (by omega))) ?_
  refine XL_pure rfl rfl rfl (fun w' => Do_index_str u9 (s := popTab) (by kernel_rfl) rfl (by omega) (by rw [q2]; exact popTab_at (by omega)) (congrArg _ (popTab_nat (by omega)))) ?_
  refine XL_pure rfl rfl rfl (fun w' => Do_add rfl rfl (wrap_u8 (by omega) (by omega))) ?_
  refine XL_pure rfl rfl rfl (fun w' => Do_conv u5 u3 rfl (wrap_i64 (by omega) (by omega))) ?_
  refine XL_pure rfl rfl rfl (fun w' => Do_assign (v := .int _ _) rfl) ?_
  refine XL_nil fun w1 hS => ?_
  replace H := H.sees hS
  refine (thenQ_n (hK2 _ _ ?_))
  refine (WP_ret (post1 (v1 := .int _ _) rfl rfl ?_))
  exact ⟨by rw [q5]; rfl, H.kept⟩

/-- orangebox/frame.odd -/
theorem odd_c (x : Int) (n : Nat) (hx : x = n) (hn : n < 65536) (w : World) :
    Calls Tryd.prog 86 #[.int .u16 x] w fun e w' => e = .returned (.bool (decide (n ≤ 4095 ∧ oddN n))) ∧ Below w.heap.size w w' := by
  refine calls_of_WP (args := [.int .u16 x]) 11 Tryd.func86 rfl rfl rfl ?_
  have H := Sep.start [] w
  refine WP_seq_k fun K1 hK1 => ?_
  refine WP_region ?_
  refine RL_do rfl rfl (Do_assign rfl) ?_
  refine (RL_nil (thenQ_n (hK1 _ _ ?_)))
  refine WP_seq_k fun K2 hK2 => ?_
  refine WP_region ?_
  refine RL_do rfl rfl (Do_move (v := .int _ _) rfl) ?_
  refine RL_do rfl rfl (Do_leq rfl rfl) ?_
  first | refine RL_split rfl rfl rfl (fun c1 => ?_) (fun c1 => ?_) | refine RL_splitb rfl rfl rfl (fun c1 => ?_) (fun c1 => ?_)
  · skip
    refine RL_do rfl rfl (Do_move (v := .int _ _) rfl) ?_
    refine RL_call rfl rfl (DoC_func en80 rfl) (ones_c _ n hx hn w) ?_
    rintro _ w2 ⟨rfl, hB⟩
    replace H := H.below hB
    refine ⟨_, rfl, ?_⟩
    refine RL_do rfl rfl (Do_rem rfl rfl (by omega) (by omega)) ?_
    refine RL_do rfl rfl (Do_eql rfl rfl) ?_
    refine RL_do rfl rfl (Do_pick_t (v := .bool _) rfl rfl) ?_
    refine RL_do rfl rfl (Do_assign (v := .bool _) rfl) ?_
    refine (RL_nil (thenQ_n (hK2 _ _ ?_)))
    refine (WP_ret (post1 (v1 := .bool _) rfl rfl ?_))
    exact ⟨retb (by unfold oddN; omega), H.kept⟩
  · skip
    refine RL_off rfl rfl ?_
    refine RL_off rfl rfl ?_
    refine RL_off rfl rfl ?_
    refine RL_off rfl rfl ?_
    refine RL_do rfl rfl (Do_pick_f (v := .bool _) rfl rfl) ?_
    refine RL_do rfl rfl (Do_assign (v := .bool _) rfl) ?_
    refine (RL_nil (thenQ_n (hK2 _ _ ?_)))
    refine (WP_ret (post1 (v1 := .bool _) rfl rfl ?_))
    exact ⟨retbf (by omega), H.kept⟩

/-- orangebox/frame.data -/
theorem data_c (x : Int) (h0 : 0 ≤ x) (h1 : x < 65536) (w : World) :
    Calls Tryd.prog 85 #[.int .u16 x] w fun e w' => e = .returned (.int .i64 (x % 2048)) ∧ Below w.heap.size w w' := by
  refine calls_of_WP (args := [.int .u16 x]) 6 Tryd.func85 rfl rfl rfl ?_
  have H := Sep.start [] w
  refine WP_seq_k fun K1 hK1 => ?_
  refine WP_region ?_
  refine RL_do rfl rfl (Do_assign rfl) ?_
  refine (RL_nil (thenQ_n (hK1 _ _ ?_)))
  refine WP_seq_k fun K2 hK2 => ?_
  refine WP_region ?_
  refine RL_do rfl rfl (Do_move (v := .int _ _) rfl) ?_
  refine RL_do rfl rfl (Do_and rfl rfl (mask_u16 11 (by decide) (rfl : _ = (2048 : Int)) (by omega) (by omega))) ?_
  refine RL_do rfl rfl (Do_conv u23 u3 rfl (wrap_i64 (by omega) (by omega))) ?_
  refine RL_do rfl rfl (Do_assign (v := .int _ _) rfl) ?_
  refine (RL_nil (thenQ_n (hK2 _ _ ?_)))
  refine (WP_ret (post1 (v1 := .int _ _) rfl rfl ?_))
  exact ⟨rfl, H.kept⟩

/-- orangebox/frame.word -/
theorem word_c (x : Int) (n : Nat) (hx : x = n) (hn : n < 2048) (w : World) :
    Calls Tryd.prog 83 #[.int .i64 x] w fun e w' => e = .returned (.int .u16 (wordN n : Nat)) ∧ Below w.heap.size w w' := by
  refine calls_of_WP (args := [.int .i64 x]) 12 Tryd.func83 rfl rfl rfl ?_
  have H := Sep.start [] w
  refine WP_seq_k fun K1 hK1 => ?_
  refine WP_region ?_
  refine RL_do rfl rfl (Do_assign rfl) ?_
  refine (RL_nil (thenQ_n (hK1 _ _ ?_)))
  refine WP_seq_k fun K2 hK2 => ?_
  refine WP_region ?_
  refine RL_do rfl rfl (Do_move (v := .int _ _) rfl) ?_
  refine RL_do rfl rfl (Do_conv u3 u23 rfl (wrap_u16 (by omega) (by omega))) ?_
  refine RL_do rfl rfl (Do_assign (v := .int _ _) rfl) ?_
  refine (RL_nil (thenQ_n (hK2 _ _ ?_)))
  refine WP_seq_k fun K3 hK3 => ?_
  refine WP_seq_k fun K4 hK4 => ?_
  refine WP_region ?_
  refine RL_do rfl rfl (Do_move (v := .int _ _) rfl) ?_
  refine RL_call rfl rfl (DoC_func en86 rfl) (odd_c _ n hx (by omega) w) ?_
  rintro _ w3 ⟨rfl, hB⟩
  replace H := H.below hB
  refine ⟨_, rfl, ?_⟩
  refine RL_do rfl rfl (Do_not' rfl) ?_
  refine (RL_nil (thenQ_n (hK4 _ _ ?_)))
  first | refine WP_if rfl (fun c1 => ?_) (fun c1 => ?_) | refine WP_ifb rfl (fun c1 => ?_) (fun c1 => ?_)
  · skip
    refine WP_region ?_
    refine RL_do rfl rfl (Do_move (v := .int _ _) rfl) ?_
    refine RL_do rfl rfl (Do_or rfl rfl (or_comm.trans (join_u16 11 (rfl : _ = (2048 : Int)) (by omega) (by omega) rfl (by omega) (by omega) (by omega)))) ?_
    refine RL_do rfl rfl (Do_assign (v := .int _ _) rfl) ?_
    refine (RL_nil (thenQ_n (hK3 _ _ ?_)))
    refine WP_seq_k fun K5 hK5 => ?_
    refine WP_region ?_
    refine RL_do rfl rfl (Do_move (v := .int _ _) rfl) ?_
    refine RL_do rfl rfl (Do_assign (v := .int _ _) rfl) ?_
    refine (RL_nil (thenQ_n (hK5 _ _ ?_)))
    refine (WP_ret (post1 (v1 := .int _ _) rfl rfl ?_))
    exact ⟨reti (by have h : ¬ oddN n := fun h => c1 ⟨by omega, h⟩; rw [wordN, if_neg h]; omega), H.kept⟩
  · skip
    refine (WP_skip (thenQ_n (hK3 _ _ ?_)))
    refine WP_seq_k fun K6 hK6 => ?_
    refine WP_region ?_
    refine RL_do rfl rfl (Do_move (v := .int _ _) rfl) ?_
    refine RL_do rfl rfl (Do_assign (v := .int _ _) rfl) ?_
    refine (RL_nil (thenQ_n (hK6 _ _ ?_)))
    refine (WP_ret (post1 (v1 := .int _ _) rfl rfl ?_))
    exact ⟨reti (by have h : oddN n := (Classical.not_not.1 c1).2; rw [wordN, if_pos h]; exact hx), H.kept⟩

/-- orangebox/frame.numberOf -/
theorem number_c (f : List Nat) (hl : f.length = 64) (hs : Small f) (b o : Nat) (w : World) (hc : Cells w ⟨b, o, none⟩ (wds f)) :
    Calls Tryd.prog 91 #[.pointer (some ⟨b, o, none⟩)] w fun e w' => e = .returned (.int .i64 (numN f : Nat)) ∧ Below w.heap.size w w' := by
  have q1 := hs 1
  have q2 := hs 2
  refine calls_of_WP (args := [.pointer (some ⟨b, o, none⟩)]) 15 Tryd.func91 rfl rfl rfl ?_
  have H := Sep.start [] w
  refine WP_seq_k fun K1 hK1 => ?_
  refine WP_region ?_
  refine RL_do rfl rfl (Do_assign rfl) ?_
  refine (RL_nil (thenQ_n (hK1 _ _ ?_)))
  refine WP_seq_k fun K2 hK2 => ?_
  refine WP_mix [.pure, .pure, .pure, .read, .read, .pure, .pure, .pure, .read, .read, .pure, .pure, .pure] mixed (by kernel_rfl) (by kernel_rfl) (by kernel_rfl) ?_
  refine XL_pure rfl rfl rfl (fun w' => Do_move (v := .pointer _) rfl) ?_
  refine XL_pure rfl rfl rfl (fun w' => Do_nilCheck rfl) ?_
  refine XL_pure rfl rfl rfl (fun w' => Do_idxa1 u25 sz23 rfl rfl (by omega) (by omega) (rfl : _ = 1) (by first | exact Nat.zero_add _ | rfl)) ?_
  refine XL_read rfl rfl rfl (fun w' hw' => Do_load one23 rfl (Cells.get (hc.only (Sep.only (Sep.sees H hw')) (by simp)) (wds_get (by omega)))) ?_
  refine XL_call rfl rfl rfl (fun w' hw' => DoC_func en85 rfl) (fun w' hw' => data_c _ (by omega) (by omega) w') ?_
  refine XL_pure rfl rfl rfl (fun w' => Do_move (v := .pointer _) rfl) ?_
  refine XL_pure rfl rfl rfl (fun w' => Do_nilCheck rfl) ?_
  refine XL_pure rfl rfl rfl (fun w' => Do_idxa1 u25 sz23 rfl rfl (by omega) (by omega) (rfl : _ = 2) (by first | exact Nat.zero_add _ | rfl)) ?_
  refine XL_read rfl rfl rfl (fun w' hw' => Do_load one23 rfl (Cells.get (hc.only (Sep.only (Sep.sees H hw')) (by simp)) (wds_get (by omega)))) ?_
  refine XL_call rfl rfl rfl (fun w' hw' => DoC_func en85 rfl) (fun w' hw' => data_c _ (by omega) (by omega) w') ?_
  refine XL_pure rfl rfl rfl (fun w' => Do_shl rfl rfl (by decide) (by decide) (rfl : _ = (2048 : Int)) (wrap_i64 (by omega) (by omega))) ?_
  refine XL_pure rfl rfl rfl (fun w' => Do_or rfl rfl (or_comm.trans (join_i64 11 (rfl : _ = (2048 : Int)) (by omega) (by omega) (by omega) (by omega) (by omega) (by omega)))) ?_
  refine XL_pure rfl rfl rfl (fun w' => Do_assign (v := .int _ _) rfl) ?_
  refine XL_nil fun w4 hS => ?_
  replace H := H.sees hS
  refine (thenQ_n (hK2 _ _ ?_))
  refine (WP_ret (post1 (v1 := .int _ _) rfl rfl ?_))
  exact ⟨reti (by unfold numN; omega), H.kept⟩

/-- orangebox/frame.sumOf -/
theorem sum_c (f : List Nat) (hl : f.length = 64) (hs : Small f) (b o : Nat) (w : World) (hc : Cells w ⟨b, o, none⟩ (wds f)) :
    Calls Tryd.prog 92 #[.pointer (some ⟨b, o, none⟩)] w fun e w' => e = .returned (.int .i64 (sumN f : Nat)) ∧ Below w.heap.size w w' := by
  refine calls_of_WP (args := [.pointer (some ⟨b, o, none⟩)]) 19 Tryd.func92 rfl rfl rfl ?_
  have H := Sep.start [] w
  refine WP_seq_k fun K1 hK1 => ?_
  refine WP_region ?_
  refine RL_do rfl rfl (Do_assign rfl) ?_
  refine (RL_nil (thenQ_n (hK1 _ _ ?_)))
  refine WP_seq_k fun K2 hK2 => ?_
  refine WP_region ?_
  refine RL_do rfl rfl (Do_assign rfl) ?_
  refine (RL_nil (thenQ_n (hK2 _ _ ?_)))
  refine WP_seq_k fun K3 hK3 => ?_
  refine WP_seq_k fun K4 hK4 => ?_
  refine WP_region ?_
  refine RL_do rfl rfl (Do_move rfl) ?_
  refine (RL_nil (thenQ_n (hK4 _ _ ?_)))
  refine WP_block ?_
  refine WP_loopS [3, 4, 5, 6, 7, 8, 9, 10, 11, 12, 13, 14, 15, 16, 17] (fun (g : Nat) => [(3, .int .i64 (xorTo f g : Nat)), (5, .int .i64 (g : Nat))]) (fun (g : Nat) wl => Sep [] w wl [] ∧ g ≤ 60) (fun (g : Nat) => 60 - g) (0) (Sl_cons rfl (Sl_cons rfl Sl_nil)) ⟨H, by decide⟩ ?_
  clear H
  rintro k ρ w5 ⟨H, hk⟩
  refine WP_seq_k fun K5 hK5 => ?_
  refine WP_region ?_
  refine RL_do rfl rfl (Do_lss rfl rfl) ?_
  refine (RL_nil (thenQ_n (hK5 _ _ ?_)))
  refine WP_seq_k fun K6 hK6 => ?_
  first | refine WP_if rfl (fun c1 => ?_) (fun c1 => ?_) | refine WP_ifb rfl (fun c1 => ?_) (fun c1 => ?_)
  · skip
    refine (WP_skip (thenQ_n (hK6 _ _ ?_)))
    refine WP_seq_k fun K7 hK7 => ?_
    refine WP_block ?_
    refine WP_seq_k fun K8 hK8 => ?_
    refine WP_region ?_
    refine RL_do rfl rfl (Do_move (v := .int _ _) rfl) ?_
    refine RL_do rfl rfl (Do_assign (v := .int _ _) rfl) ?_
    refine (RL_nil (thenQ_n (hK8 _ _ ?_)))
    refine WP_region ?_
    refine RL_do rfl rfl (Do_move (v := .int _ _) rfl) ?_
    have q1 := hs (k + 1)
    have q2 := xorTo_lt f k
    refine RL_do rfl rfl (Do_move (v := .pointer _) rfl) ?_
    refine RL_do rfl rfl (Do_move (v := .int _ _) rfl) ?_
    refine RL_do rfl rfl (Do_add rfl rfl (wrap_i64 (by omega) (by omega))) ?_
    refine RL_do rfl rfl (Do_nilCheck rfl) ?_
    refine RL_do rfl rfl (Do_idxa1 u25 sz23 rfl rfl (by omega) (by omega) (by omega : _ = k + 1) (by first | exact Nat.zero_add _ | rfl)) ?_
    refine RL_do rfl rfl (Do_load one23 rfl (Cells.get (hc.only (Sep.only H) (by simp)) (wds_get (by omega)))) ?_
    refine RL_call rfl rfl (DoC_func en85 rfl) (data_c _ (by omega) (by omega) w5) ?_
    rintro _ w6 ⟨rfl, hB⟩
    replace H := H.below hB
    refine ⟨_, rfl, ?_⟩
    refine RL_do rfl rfl (Do_xor rfl rfl (xor_i64' (xorTo f k) (wd f (k + 1) % 2048) rfl (by omega) (by omega) (by omega))) ?_
    refine RL_do rfl rfl (Do_assign (v := .int _ _) rfl) ?_
    refine (RL_nil (blockQ_n (thenQ_n (hK7 _ _ ?_))))
    refine WP_region ?_
    refine RL_do rfl rfl (Do_add rfl rfl (wrap_i64 (by omega) (by omega))) ?_
    refine RL_do rfl rfl (Do_move (v := .int _ _) rfl) ?_
    refine (RL_nil (thenQ_n (And.intro ?_ ?_)))
    · repeat' (first | with_reducible exact Fr_refl | refine Fr_upd rfl ?_ | refine Fr_over rfl rfl ?_)
    · refine ⟨k + 1, (Sl_cons (by first | rfl | exact congrArg (Value.int _) (by omega)) (Sl_cons (by first | rfl | exact congrArg (Value.int _) (by omega)) Sl_nil)), ?_, ?_⟩
      · exact ⟨H, by omega⟩
      · simp; omega
  · skip
    refine (WP_exit (thenQ_x (thenQ_x (blockQ_eq (thenQ_n (hK3 _ _ ?_))))))
    refine WP_seq_k fun K9 hK9 => ?_
    refine WP_region ?_
    refine RL_do rfl rfl (Do_move (v := .int _ _) rfl) ?_
    refine RL_do rfl rfl (Do_assign (v := .int _ _) rfl) ?_
    refine (RL_nil (thenQ_n (hK9 _ _ ?_)))
    refine (WP_ret (post1 (v1 := .int _ _) rfl rfl ?_))
    exact ⟨reti (by (have q : k = 60 := by omega); subst q; rfl), H.kept⟩

/-- orangebox/frame.checkOf -/
theorem check_c (f : List Nat) (hl : f.length = 64) (hs : Small f) (b o : Nat) (w : World) (hc : Cells w ⟨b, o, none⟩ (wds f)) :
    Calls Tryd.prog 93 #[.pointer (some ⟨b, o, none⟩)] w fun e w' => e = .returned (.int .i64 (checkN f : Nat)) ∧ Below w.heap.size w w' := by
  refine calls_of_WP (args := [.pointer (some ⟨b, o, none⟩)]) 35 Tryd.func93 rfl rfl rfl ?_
  have H := Sep.start [] w
  refine WP_seq_k fun K1 hK1 => ?_
  refine WP_region ?_
  refine RL_do rfl rfl (Do_assign rfl) ?_
  refine (RL_nil (thenQ_n (hK1 _ _ ?_)))
  refine WP_seq_k fun K2 hK2 => ?_
  refine WP_region ?_
  refine RL_do rfl rfl (Do_assign rfl) ?_
  refine (RL_nil (thenQ_n (hK2 _ _ ?_)))
  refine WP_seq_k fun K3 hK3 => ?_
  refine WP_seq_k fun K4 hK4 => ?_
  refine WP_region ?_
  refine RL_do rfl rfl (Do_move rfl) ?_
  refine (RL_nil (thenQ_n (hK4 _ _ ?_)))
  refine WP_block ?_
  refine WP_loopS [3, 4, 5, 6, 7, 8, 9, 10, 11, 12, 13, 14, 15, 16, 17, 18, 19, 20, 21, 22, 23, 24, 25, 26, 27, 28, 29, 30, 31, 32, 33] (fun (g : Nat) => [(3, .int .i64 (crcTo f g : Nat)), (7, .int .i64 (g : Nat))]) (fun (g : Nat) wl => Sep [] w wl [] ∧ g ≤ 62) (fun (g : Nat) => 62 - g) (0) (Sl_cons rfl (Sl_cons rfl Sl_nil)) ⟨H, by decide⟩ ?_
  clear H
  rintro k ρ w7 ⟨H, hk⟩
  refine WP_seq_k fun K5 hK5 => ?_
  refine WP_region ?_
  refine RL_do rfl rfl (Do_lss rfl rfl) ?_
  refine (RL_nil (thenQ_n (hK5 _ _ ?_)))
  refine WP_seq_k fun K6 hK6 => ?_
  first | refine WP_if rfl (fun c1 => ?_) (fun c1 => ?_) | refine WP_ifb rfl (fun c1 => ?_) (fun c1 => ?_)
  · skip
    refine (WP_skip (thenQ_n (hK6 _ _ ?_)))
    refine WP_seq_k fun K7 hK7 => ?_
    refine WP_block ?_
    refine WP_seq_k fun K8 hK8 => ?_
    refine WP_region ?_
    refine RL_do rfl rfl (Do_move (v := .int _ _) rfl) ?_
    refine RL_do rfl rfl (Do_assign (v := .int _ _) rfl) ?_
    refine (RL_nil (thenQ_n (hK8 _ _ ?_)))
    refine WP_seq_k fun K9 hK9 => ?_
    refine WP_region ?_
    refine RL_do rfl rfl (Do_assign rfl) ?_
    refine (RL_nil (thenQ_n (hK9 _ _ ?_)))
    refine WP_block ?_
    refine WP_loopS [3, 5, 6, 10, 11, 12, 13, 14, 15, 16, 17, 18, 19, 20, 21, 22, 23, 24, 25, 26, 27, 28, 29, 30, 31, 32] (fun (g : Nat) => [(3, .int .i64 (crcBits (crcTo f k) (wd f k) g : Nat)), (5, .int .i64 (11 - (g : Nat)))]) (fun (g : Nat) wl => Sep [] w wl [] ∧ g ≤ 12) (fun (g : Nat) => 12 - g) (0) (Sl_cons rfl (Sl_cons rfl Sl_nil)) ⟨H, by decide⟩ ?_
    clear H
    rintro j ρ w8 ⟨H, hj⟩
    refine WP_seq_k fun K10 hK10 => ?_
    refine WP_seq_k fun K11 hK11 => ?_
    refine WP_region ?_
    refine RL_do rfl rfl (Do_move (v := .int _ _) rfl) ?_
    refine RL_do rfl rfl (Do_geq rfl rfl) ?_
    refine (RL_nil (thenQ_n (hK11 _ _ ?_)))
    first | refine WP_if rfl (fun c2 => ?_) (fun c2 => ?_) | refine WP_ifb rfl (fun c2 => ?_) (fun c2 => ?_)
    · skip
      refine (WP_skip (thenQ_n (hK10 _ _ ?_)))
      refine WP_seq_k fun K12 hK12 => ?_
      refine WP_block ?_
      refine WP_seq_k fun K13 hK13 => ?_
      refine WP_region ?_
      refine RL_do rfl rfl (Do_move (v := .int _ _) rfl) ?_
      have q0 := crcBits_lt (w := wd f k) (crcTo_lt f k) j
      refine RL_do rfl rfl (Do_and rfl rfl (and_top q0)) ?_
      refine RL_do rfl rfl (Do_as (Do_neq rfl rfl) (vbool (q := 2097152 ≤ crcBits (crcTo f k) (wd f k) j) (by split <;> omega))) ?_
      refine RL_do rfl rfl (Do_assign (v := .bool _) rfl) ?_
      refine (RL_nil (thenQ_n (hK13 _ _ ?_)))
      refine WP_seq_k fun K14 hK14 => ?_
      refine WP_region ?_
      refine RL_do rfl rfl (Do_move (v := .int _ _) rfl) ?_
      refine RL_do rfl rfl (Do_shl rfl rfl (by decide) (by decide) (rfl : _ = (2 : Int)) (wrap_i64 (by omega) (by omega))) ?_
      refine RL_do rfl rfl (Do_and rfl rfl (mask_i64 22 (by decide) (rfl : _ = (4194304 : Int)) (by omega) (by omega))) ?_
      refine RL_do rfl rfl (Do_assign (v := .int _ _) rfl) ?_
      refine (RL_nil (thenQ_n (hK14 _ _ ?_)))
      refine WP_seq_k fun K15 hK15 => ?_
      refine WP_region ?_
      refine RL_do rfl rfl (Do_move (v := .bool _) rfl) ?_
      refine RL_do rfl rfl (Do_move (v := .pointer _) rfl) ?_
      refine RL_do rfl rfl (Do_move (v := .int _ _) rfl) ?_
      refine RL_do rfl rfl (Do_nilCheck rfl) ?_
      refine RL_do rfl rfl (Do_idxa1 u25 sz23 rfl rfl (by omega) (by omega) (Int.toNat_natCast _) (by first | exact Nat.zero_add _ | rfl)) ?_
      refine RL_do rfl rfl (Do_load one23 rfl (Cells.get (hc.only (Sep.only H) (by simp)) (wds_get (by omega)))) ?_
      have q1 := hs k
      have q2 := Nat.div_le_self (wd f k) (2 ^ (11 - j))
      have q3 : (0 : Int) ≤ ((wd f k / 2 ^ (11 - j) : Nat) : Int) := Int.natCast_nonneg _
      refine RL_do rfl rfl (Do_move (v := .int _ _) rfl) ?_
      refine RL_do rfl rfl (Do_as (Do_shr rfl rfl (by omega) (by show _ ≤ (16 : Int); omega) rfl) (Go.OB.shr_var (wd f k) (11 - j) rfl (by omega))) ?_
      refine RL_do rfl rfl (Do_and rfl rfl (mask_u16 1 (by decide) (rfl : _ = (2 : Int)) (by omega) (by omega))) ?_
      refine RL_do rfl rfl (Do_as (Do_eql rfl rfl) (vbool (q := wd f k / 2 ^ (11 - j) % 2 = 1) (by omega))) ?_
      refine RL_do rfl rfl (Do_neqb u4 rfl rfl) ?_
      refine (RL_nil (thenQ_n (hK15 _ _ ?_)))
      first | refine WP_if rfl (fun c3 => ?_) (fun c3 => ?_) | refine WP_ifb rfl (fun c3 => ?_) (fun c3 => ?_)
      · skip
        refine WP_region ?_
        refine RL_do rfl rfl (Do_move (v := .int _ _) rfl) ?_
        refine RL_do rfl rfl (Do_xor rfl rfl (xor_i64' (crcBits (crcTo f k) (wd f k) j * 2 % 4194304) 2097167 (by omega) rfl (by omega) (by omega))) ?_
        refine RL_do rfl rfl (Do_assign (v := .int _ _) rfl) ?_
        refine (RL_nil (blockQ_n (thenQ_n (hK12 _ _ ?_))))
        refine WP_region ?_
        refine RL_do rfl rfl (Do_move (v := .int _ _) rfl) ?_
        refine RL_do rfl rfl (Do_sub rfl rfl (wrap_i64 (by omega) (by omega))) ?_
        refine RL_do rfl rfl (Do_assign (v := .int _ _) rfl) ?_
        refine (RL_nil (thenQ_n (And.intro ?_ ?_)))
        · repeat' (first | with_reducible exact Fr_refl | refine Fr_upd rfl ?_ | refine Fr_over rfl rfl ?_)
        · refine ⟨j + 1, (Sl_cons (by first | exact vint (by rw [crcBits_eq (by assumption)]; omega) | exact vint (by rw [crcBits_ne (by assumption)])) (Sl_cons (vint (by omega)) Sl_nil)), ?_, ?_⟩
          · exact ⟨H, by omega⟩
          · simp; omega
      · skip
        refine (WP_skip (blockQ_n (thenQ_n (hK12 _ _ ?_))))
        refine WP_region ?_
        refine RL_do rfl rfl (Do_move (v := .int _ _) rfl) ?_
        refine RL_do rfl rfl (Do_sub rfl rfl (wrap_i64 (by omega) (by omega))) ?_
        refine RL_do rfl rfl (Do_assign (v := .int _ _) rfl) ?_
        refine (RL_nil (thenQ_n (And.intro ?_ ?_)))
        · repeat' (first | with_reducible exact Fr_refl | refine Fr_upd rfl ?_ | refine Fr_over rfl rfl ?_)
        · refine ⟨j + 1, (Sl_cons (by first | exact vint (by rw [crcBits_eq (by assumption)]; omega) | exact vint (by rw [crcBits_ne (by assumption)])) (Sl_cons (vint (by omega)) Sl_nil)), ?_, ?_⟩
          · exact ⟨H, by omega⟩
          · simp; omega
    · skip
      refine (WP_exit (thenQ_x (thenQ_x (blockQ_eq (blockQ_n (thenQ_n (hK7 _ _ ?_)))))))
      refine WP_region ?_
      refine RL_do rfl rfl (Do_add rfl rfl (wrap_i64 (by omega) (by omega))) ?_
      refine RL_do rfl rfl (Do_move (v := .int _ _) rfl) ?_
      refine (RL_nil (thenQ_n (And.intro ?_ ?_)))
      · repeat' (first | with_reducible exact Fr_refl | refine Fr_upd rfl ?_ | refine Fr_over rfl rfl ?_)
      · refine ⟨k + 1, (Sl_cons (by (have q : j = 12 := by omega); subst q; rfl) (Sl_cons (by first | rfl | exact vint (by omega)) Sl_nil)), ?_, ?_⟩
        · exact ⟨H, by omega⟩
        · simp; omega
  · skip
    refine (WP_exit (thenQ_x (thenQ_x (blockQ_eq (thenQ_n (hK3 _ _ ?_))))))
    refine WP_seq_k fun K16 hK16 => ?_
    refine WP_region ?_
    refine RL_do rfl rfl (Do_move (v := .int _ _) rfl) ?_
    refine RL_do rfl rfl (Do_assign (v := .int _ _) rfl) ?_
    refine (RL_nil (thenQ_n (hK16 _ _ ?_)))
    refine (WP_ret (post1 (v1 := .int _ _) rfl rfl ?_))
    exact ⟨reti (by (have q : k = 62 := by omega); subst q; rfl), H.kept⟩

/-- orangebox/frame.wide -/
theorem wide_c (f : List Nat) (hl : f.length = 64) (hs : Small f) (b o : Nat) (w : World) (hc : Cells w ⟨b, o, none⟩ (wds f)) :
    Calls Tryd.prog 78 #[.pointer (some ⟨b, o, none⟩)] w fun e w' => e = .returned (.bool (decide (wideN f))) ∧ Below w.heap.size w w' := by
  refine calls_of_WP (args := [.pointer (some ⟨b, o, none⟩)]) 14 Tryd.func78 rfl rfl rfl ?_
  have H := Sep.start [] w
  refine WP_seq_k fun K1 hK1 => ?_
  refine WP_region ?_
  refine RL_do rfl rfl (Do_assign rfl) ?_
  refine (RL_nil (thenQ_n (hK1 _ _ ?_)))
  refine WP_seq_k fun K2 hK2 => ?_
  refine WP_seq_k fun K3 hK3 => ?_
  refine WP_region ?_
  refine RL_do rfl rfl (Do_move rfl) ?_
  refine (RL_nil (thenQ_n (hK3 _ _ ?_)))
  refine WP_block ?_
  refine WP_loopS [2, 3, 4, 5, 6, 7, 8, 9, 10, 11, 12, 13] (fun (g : Nat) => [(4, .int .i64 (g : Nat))]) (fun (g : Nat) wl => Sep [] w wl [] ∧ g ≤ 64 ∧ ∀ i, i < g → ¬ 4095 < wd f i) (fun (g : Nat) => 64 - g) (0) (Sl_cons rfl Sl_nil) ⟨H, ⟨by decide, fun i h => by omega⟩⟩ ?_
  clear H
  rintro k ρ w9 ⟨H, ⟨hk, hi⟩⟩
  refine WP_seq_k fun K4 hK4 => ?_
  refine WP_region ?_
  refine RL_do rfl rfl (Do_lss rfl rfl) ?_
  refine (RL_nil (thenQ_n (hK4 _ _ ?_)))
  refine WP_seq_k fun K5 hK5 => ?_
  first | refine WP_if rfl (fun c1 => ?_) (fun c1 => ?_) | refine WP_ifb rfl (fun c1 => ?_) (fun c1 => ?_)
  · skip
    refine (WP_skip (thenQ_n (hK5 _ _ ?_)))
    refine WP_seq_k fun K6 hK6 => ?_
    refine WP_block ?_
    refine WP_seq_k fun K7 hK7 => ?_
    refine WP_region ?_
    refine RL_do rfl rfl (Do_move (v := .int _ _) rfl) ?_
    refine RL_do rfl rfl (Do_assign (v := .int _ _) rfl) ?_
    refine (RL_nil (thenQ_n (hK7 _ _ ?_)))
    refine WP_seq_k fun K8 hK8 => ?_
    refine WP_region ?_
    refine RL_do rfl rfl (Do_move (v := .pointer _) rfl) ?_
    refine RL_do rfl rfl (Do_move (v := .int _ _) rfl) ?_
    refine RL_do rfl rfl (Do_nilCheck rfl) ?_
    refine RL_do rfl rfl (Do_idxa1 u25 sz23 rfl rfl (by omega) (by omega) (Int.toNat_natCast _) (by first | exact Nat.zero_add _ | rfl)) ?_
    refine RL_do rfl rfl (Do_load one23 rfl (Cells.get (hc.only (Sep.only H) (by simp)) (wds_get (by omega)))) ?_
    refine RL_do rfl rfl (Do_gtr rfl rfl) ?_
    refine (RL_nil (thenQ_n (hK8 _ _ ?_)))
    first | refine WP_if rfl (fun c2 => ?_) (fun c2 => ?_) | refine WP_ifb rfl (fun c2 => ?_) (fun c2 => ?_)
    · skip
      refine WP_seq_k fun K9 hK9 => ?_
      refine WP_region ?_
      refine RL_do rfl rfl (Do_assign rfl) ?_
      refine (RL_nil (thenQ_n (hK9 _ _ ?_)))
      refine (WP_ret (blockQ_r (thenQ_r (thenQ_r (blockQ_r (thenQ_r (post1 (v1 := .bool _) rfl rfl ?_)))))))
      exact ⟨retbt ⟨k, by omega, by omega⟩, H.kept⟩
    · skip
      refine (WP_skip (blockQ_n (thenQ_n (hK6 _ _ ?_))))
      refine WP_region ?_
      refine RL_do rfl rfl (Do_add rfl rfl (wrap_i64 (by omega) (by omega))) ?_
      refine RL_do rfl rfl (Do_move (v := .int _ _) rfl) ?_
      refine (RL_nil (thenQ_n (And.intro ?_ ?_)))
      · repeat' (first | with_reducible exact Fr_refl | refine Fr_upd rfl ?_ | refine Fr_over rfl rfl ?_)
      · refine ⟨k + 1, (Sl_cons (by first | rfl | exact congrArg (Value.int _) (by omega)) Sl_nil), ?_, ?_⟩
        · exact ⟨H, by omega, upto_succ hi (by omega)⟩
        · simp; omega
  · skip
    refine (WP_exit (thenQ_x (thenQ_x (blockQ_eq (thenQ_n (hK2 _ _ ?_))))))
    refine WP_seq_k fun K10 hK10 => ?_
    refine WP_region ?_
    refine RL_do rfl rfl (Do_assign rfl) ?_
    refine (RL_nil (thenQ_n (hK10 _ _ ?_)))
    refine (WP_ret (post1 (v1 := .bool _) rfl rfl ?_))
    exact ⟨retbf (fun ⟨i, h1, h2⟩ => hi i (by omega) h2), H.kept⟩
end Go.Proofs.YtafgmocdnjdmoaaDoor
