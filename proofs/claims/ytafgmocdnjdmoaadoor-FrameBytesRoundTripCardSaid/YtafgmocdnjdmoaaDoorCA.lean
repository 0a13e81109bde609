/- Walks: what each function computes, for every argument; no condition but those that stand in the statements. -/
import Derived.Test.YtafgmocdnjdmoaaDoorRows
import Derived.Test.YtafgmocdnjdmoaaDoorFrm
import Derived.Test.YtafgmocdnjdmoaaDoorOps4
namespace Go.Proofs.YtafgmocdnjdmoaaDoor
open Go.RowKit Go.OB Go.Fr1
theorem u3 : Tryd.prog.underlying 3 = some (.int .i64) := Tryd.underlying3
theorem u4 : Tryd.prog.underlying 4 = some .bool := Tryd.underlying4
theorem u5 : Tryd.prog.underlying 5 = some (.int .u8) := Tryd.underlying5
theorem u9 : Tryd.prog.underlying 9 = some .string := Tryd.underlying9
theorem u23 : Tryd.prog.underlying 23 = some (.int .u16) := Tryd.underlying23
theorem u25 : Tryd.prog.underlying 25 = some (.array 64 23) := Tryd.underlying25
theorem sz23 : Sz Tryd.prog 23 1 := by unfold Sz; kernel_rfl
theorem one23 : OneC Tryd.prog 23 := by unfold OneC; kernel_rfl
theorem en80 : Enters Tryd.prog 80 := ⟨_, Tryd.func80, rfl, by kernel_rfl⟩
theorem en85 : Enters Tryd.prog 85 := ⟨_, Tryd.func85, rfl, by kernel_rfl⟩
theorem en86 : Enters Tryd.prog 86 := ⟨_, Tryd.func86, rfl, by kernel_rfl⟩
theorem mixed : Tryd.prog.follows .mixedOrders = true := by kernel_rfl
/-- math/bits.OnesCount16 -/
theorem ones_c (x : Int) (n : Nat) (hx : x = n) (hn : n < 65536) (w : World) :
    Calls Tryd.prog 80 #[.int .u16 x] w fun e w' => e = .returned (.int .i64 (pop n : Nat)) ∧ Below w.heap.size w w' := by
  have q1 : (x / 256).toNat = n / 256 := by omega
  have q2 : (x % 256).toNat = n % 256 := by omega
  have q3 := popF_le 8 (n / 256)
  have q4 := popF_le 8 (n % 256)
  have q5 : pop n = popF 8 (n / 256) + popF 8 (n % 256) := pop_eq.symm
  refine calls_of_WP (args := [.int .u16 x]) 11 Tryd.func80 rfl rfl rfl ?_
  have H := Sep.start [] w
  refine WP_seq_k fun K1 hK1 => ?_
  refine WP_region ?_
  refine RL_do rfl rfl (Do_assign rfl) ?_
  refine (RL_nil (thenQ_n (hK1 _ _ ?_)))
  refine WP_seq_k fun K2 hK2 => ?_
  refine WP_mix [.pure, .pure, .pure, .pure, .pure, .pure, .pure, .pure, .pure] mixed (by kernel_rfl) (by kernel_rfl) (by kernel_rfl) ?_
  refine XL_pure rfl rfl rfl (fun w' => Do_move (v := .int _ _) rfl) ?_
  refine XL_pure rfl rfl rfl (fun w' => Do_shr rfl rfl (by decide) (by decide) (rfl : _ = (256 : Int))) ?_
  refine XL_pure rfl rfl rfl (fun w' => Do_index_str u9 (s := popTab) (by kernel_rfl) rfl (by omega) (by rw [q1]; exact popTab_at (by omega)) (congrArg _ (popTab_nat (by omega)))) ?_
  refine XL_pure rfl rfl rfl (fun w' => Do_move (v := .int _ _) rfl) ?_
  refine XL_pure rfl rfl rfl (fun w' => Do_and rfl rfl (mask_u16 8 (by decide) (rfl : _ = (256 : Int)) (by omega) (by omega))) ?_
  refine XL_pure rfl rfl rfl (fun w' => Do_index_str u9 (s := popTab) (by kernel_rfl) rfl (by omega) (by rw [q2]; exact popTab_at (by omega)) (congrArg _ (popTab_nat (by omega)))) ?_
  refine XL_pure rfl rfl rfl (fun w' => Do_add rfl rfl (wrap_u8 (by omega) (by omega))) ?_
  refine XL_pure rfl rfl rfl (fun w' => Do_conv u5 u3 rfl (wrap_i64 (by omega) (by omega))) ?_
  refine XL_pure rfl rfl rfl (fun w' => Do_assign (v := .int _ _) rfl) ?_
  refine XL_nil fun w1 hS => ?_
  replace H := H.sees hS
  refine (thenQ_n (hK2 _ _ ?_))
  refine (WP_ret (post1 (v1 := .int _ _) rfl rfl ?_))
  exact ⟨by rw [q5]; rfl, H.kept⟩

/-- orangebox/frame.odd -/
theorem odd_c (x : Int) (n : Nat) (hx : x = n) (hn : n < 65536) (w : World) :
    Calls Tryd.prog 86 #[.int .u16 x] w fun e w' => e = .returned (.bool (decide (n ≤ 4095 ∧ oddN n))) ∧ Below w.heap.size w w' := by
  refine calls_of_WP (args := [.int .u16 x]) 11 Tryd.func86 rfl rfl rfl ?_
  have H := Sep.start [] w
  refine WP_seq_k fun K1 hK1 => ?_
  refine WP_region ?_
  refine RL_do rfl rfl (Do_assign rfl) ?_
  refine (RL_nil (thenQ_n (hK1 _ _ ?_)))
  refine WP_seq_k fun K2 hK2 => ?_
  refine WP_region ?_
  refine RL_do rfl rfl (Do_move (v := .int _ _) rfl) ?_
  refine RL_do rfl rfl (Do_leq rfl rfl) ?_
  first | refine RL_split rfl rfl rfl (fun c1 => ?_) (fun c1 => ?_) | refine RL_splitb rfl rfl rfl (fun c1 => ?_) (fun c1 => ?_)
  · skip
    refine RL_do rfl rfl (Do_move (v := .int _ _) rfl) ?_
    refine RL_call rfl rfl (DoC_func en80 rfl) (ones_c _ n hx hn w) ?_
    rintro _ w2 ⟨rfl, hB⟩
    replace H := H.below hB
    refine ⟨_, rfl, ?_⟩
    refine RL_do rfl rfl (Do_rem rfl rfl (by omega) (by omega)) ?_
    refine RL_do rfl rfl (Do_eql rfl rfl) ?_
    refine RL_do rfl rfl (Do_pick_t (v := .bool _) rfl rfl) ?_
    refine RL_do rfl rfl (Do_assign (v := .bool _) rfl) ?_
    refine (RL_nil (thenQ_n (hK2 _ _ ?_)))
    refine (WP_ret (post1 (v1 := .bool _) rfl rfl ?_))
    exact ⟨retb (by unfold oddN; omega), H.kept⟩
  · skip
    refine RL_off rfl rfl ?_
    refine RL_off rfl rfl ?_
    refine RL_off rfl rfl ?_
    refine RL_off rfl rfl ?_
    refine RL_do rfl rfl (Do_pick_f (v := .bool _) rfl rfl) ?_
    refine RL_do rfl rfl (Do_assign (v := .bool _) rfl) ?_
    refine (RL_nil (thenQ_n (hK2 _ _ ?_)))
    refine (WP_ret (post1 (v1 := .bool _) rfl rfl ?_))
    exact ⟨retbf (by omega), H.kept⟩

/-- orangebox/frame.data -/
theorem data_c (x : Int) (h0 : 0 ≤ x) (h1 : x < 65536) (w : World) :
    Calls Tryd.prog 85 #[.int .u16 x] w fun e w' => e = .returned (.int .i64 (x % 2048)) ∧ Below w.heap.size w w' := by
  refine calls_of_WP (args := [.int .u16 x]) 6 Tryd.func85 rfl rfl rfl ?_
  have H := Sep.start [] w
  refine WP_seq_k fun K1 hK1 => ?_
  refine WP_region ?_
  refine RL_do rfl rfl (Do_assign rfl) ?_
  refine (RL_nil (thenQ_n (hK1 _ _ ?_)))
  refine WP_seq_k fun K2 hK2 => ?_
  refine WP_region ?_
  refine RL_do rfl rfl (Do_move (v := .int _ _) rfl) ?_
  refine RL_do rfl rfl (Do_and rfl rfl (mask_u16 11 (by decide) (rfl : _ = (2048 : Int)) (by omega) (by omega))) ?_
  refine RL_do rfl rfl (Do_conv u23 u3 rfl (wrap_i64 (by omega) (by omega))) ?_
  refine RL_do rfl rfl (Do_assign (v := .int _ _) rfl) ?_
  refine (RL_nil (thenQ_n (hK2 _ _ ?_)))
  refine (WP_ret (post1 (v1 := .int _ _) rfl rfl ?_))
  exact ⟨rfl, H.kept⟩

/-- orangebox/frame.word -/
theorem word_c (x : Int) (n : Nat) (hx : x = n) (hn : n < 2048) (w : World) :
    Calls Tryd.prog 83 #[.int .i64 x] w fun e w' => e = .returned (.int .u16 (wordN n : Nat)) ∧ Below w.heap.size w w' := by
  refine calls_of_WP (args := [.int .i64 x]) 12 Tryd.func83 rfl rfl rfl ?_
  have H := Sep.start [] w
  refine WP_seq_k fun K1 hK1 => ?_
  refine WP_region ?_
  refine RL_do rfl rfl (Do_assign rfl) ?_
  refine (RL_nil (thenQ_n (hK1 _ _ ?_)))
  refine WP_seq_k fun K2 hK2 => ?_
  refine WP_region ?_
  refine RL_do rfl rfl (Do_move (v := .int _ _) rfl) ?_
  refine RL_do rfl rfl (Do_conv u3 u23 rfl (wrap_u16 (by omega) (by omega))) ?_
  refine RL_do rfl rfl (Do_assign (v := .int _ _) rfl) ?_
  refine (RL_nil (thenQ_n (hK2 _ _ ?_)))
  refine WP_seq_k fun K3 hK3 => ?_
  refine WP_seq_k fun K4 hK4 => ?_
  refine WP_region ?_
  refine RL_do rfl rfl (Do_move (v := .int _ _) rfl) ?_
  refine RL_call rfl rfl (DoC_func en86 rfl) (odd_c _ n hx (by omega) w) ?_
  rintro _ w3 ⟨rfl, hB⟩
  replace H := H.below hB
  refine ⟨_, rfl, ?_⟩
  refine RL_do rfl rfl (Do_not' rfl) ?_
  refine (RL_nil (thenQ_n (hK4 _ _ ?_)))
  first | refine WP_if rfl (fun c1 => ?_) (fun c1 => ?_) | refine WP_ifb rfl (fun c1 => ?_) (fun c1 => ?_)
  · skip
    refine WP_region ?_
    refine RL_do rfl rfl (Do_move (v := .int _ _) rfl) ?_
    refine RL_do rfl rfl (Do_or rfl rfl (or_comm.trans (join_u16 11 (rfl : _ = (2048 : Int)) (by omega) (by omega) rfl (by omega) (by omega) (by omega)))) ?_
    refine RL_do rfl rfl (Do_assign (v := .int _ _) rfl) ?_
    refine (RL_nil (thenQ_n (hK3 _ _ ?_)))
    refine WP_seq_k fun K5 hK5 => ?_
    refine WP_region ?_
    refine RL_do rfl rfl (Do_move (v := .int _ _) rfl) ?_
    refine RL_do rfl rfl (Do_assign (v := .int _ _) rfl) ?_
    refine (RL_nil (thenQ_n (hK5 _ _ ?_)))
    refine (WP_ret (post1 (v1 := .int _ _) rfl rfl ?_))
    exact ⟨reti (by have h : ¬ oddN n := fun h => c1 ⟨by omega, h⟩; rw [wordN, if_neg h]; omega), H.kept⟩
  · skip
    refine (WP_skip (thenQ_n (hK3 _ _ ?_)))
    refine WP_seq_k fun K6 hK6 => ?_
    refine WP_region ?_
    refine RL_do rfl rfl (Do_move (v := .int _ _) rfl) ?_
    refine RL_do rfl rfl (Do_assign (v := .int _ _) rfl) ?_
    refine (RL_nil (thenQ_n (hK6 _ _ ?_)))
    refine (WP_ret (post1 (v1 := .int _ _) rfl rfl ?_))
    exact ⟨reti (by have h : oddN n := (Classical.not_not.1 c1).2; rw [wordN, if_pos h]; exact hx), H.kept⟩

/-- orangebox/frame.numberOf -/
theorem number_c (f : List Nat) (hl : f.length = 64) (hs : Small f) (b o : Nat) (w : World) (hc : Cells w ⟨b, o, none⟩ (wds f)) :
    Calls Tryd.prog 91 #[.pointer (some ⟨b, o, none⟩)] w fun e w' => e = .returned (.int .i64 (numN f : Nat)) ∧ Below w.heap.size w w' := by
  have q1 := hs 1
  have q2 := hs 2
  refine calls_of_WP (args := [.pointer (some ⟨b, o, none⟩)]) 15 Tryd.func91 rfl rfl rfl ?_
  have H := Sep.start [] w
  refine WP_seq_k fun K1 hK1 => ?_
  refine WP_region ?_
  refine RL_do rfl rfl (Do_assign rfl) ?_
  refine (RL_nil (thenQ_n (hK1 _ _ ?_)))
  refine WP_seq_k fun K2 hK2 => ?_
  refine WP_mix [.pure, .pure, .pure, .read, .read, .pure, .pure, .pure, .read, .read, .pure, .pure, .pure] mixed (by kernel_rfl) (by kernel_rfl) (by kernel_rfl) ?_
  refine XL_pure rfl rfl rfl (fun w' => Do_move (v := .pointer _) rfl) ?_
  refine XL_pure rfl rfl rfl (fun w' => Do_nilCheck rfl) ?_
  refine XL_pure rfl rfl rfl (fun w' => Do_idxa1 u25 sz23 rfl rfl (by omega) (by omega) (rfl : _ = 1) (by first | exact Nat.zero_add _ | rfl)) ?_
  refine XL_read rfl rfl rfl (fun w' hw' => Do_load one23 rfl (Cells.get (hc.only (Sep.only (Sep.sees H hw')) (by simp)) (wds_get (by omega)))) ?_
  refine XL_call rfl rfl rfl (fun w' hw' => DoC_func en85 rfl) (fun w' hw' => data_c _ (by omega) (by omega) w') ?_
  refine XL_pure rfl rfl rfl (fun w' => Do_move (v := .pointer _) rfl) ?_
  refine XL_pure rfl rfl rfl (fun w' => Do_nilCheck rfl) ?_
  refine XL_pure rfl rfl rfl (fun w' => Do_idxa1 u25 sz23 rfl rfl (by omega) (by omega) (rfl : _ = 2) (by first | exact Nat.zero_add _ | rfl)) ?_
  refine XL_read rfl rfl rfl (fun w' hw' => Do_load one23 rfl (Cells.get (hc.only (Sep.only (Sep.sees H hw')) (by simp)) (wds_get (by omega)))) ?_
  refine XL_call rfl rfl rfl (fun w' hw' => DoC_func en85 rfl) (fun w' hw' => data_c _ (by omega) (by omega) w') ?_
  refine XL_pure rfl rfl rfl (fun w' => Do_shl rfl rfl (by decide) (by decide) (rfl : _ = (2048 : Int)) (wrap_i64 (by omega) (by omega))) ?_
  refine XL_pure rfl rfl rfl (fun w' => Do_or rfl rfl (or_comm.trans (join_i64 11 (rfl : _ = (2048 : Int)) (by omega) (by omega) (by omega) (by omega) (by omega) (by omega)))) ?_
  refine XL_pure rfl rfl rfl (fun w' => Do_assign (v := .int _ _) rfl) ?_
  refine XL_nil fun w4 hS => ?_
  replace H := H.sees hS
  refine (thenQ_n (hK2 _ _ ?_))
  refine (WP_ret (post1 (v1 := .int _ _) rfl rfl ?_))
  exact ⟨reti (by unfold numN; omega), H.kept⟩

/-- orangebox/frame.sumOf -/
theorem sum_c (f : List Nat) (hl : f.length = 64) (hs : Small f) (b o : Nat) (w : World) (hc : Cells w ⟨b, o, none⟩ (wds f)) :
    Calls Tryd.prog 92 #[.pointer (some ⟨b, o, none⟩)] w fun e w' => e = .returned (.int .i64 (sumN f : Nat)) ∧ Below w.heap.size w w' := by
  refine calls_of_WP (args := [.pointer (some ⟨b, o, none⟩)]) 19 Tryd.func92 rfl rfl rfl ?_
  have H := Sep.start [] w
  refine WP_seq_k fun K1 hK1 => ?_
  refine WP_region ?_
  refine RL_do rfl rfl (Do_assign rfl) ?_
  refine (RL_nil (thenQ_n (hK1 _ _ ?_)))
  refine WP_seq_k fun K2 hK2 => ?_
  refine WP_region ?_
  refine RL_do rfl rfl (Do_assign rfl) ?_
  refine (RL_nil (thenQ_n (hK2 _ _ ?_)))
  refine WP_seq_k fun K3 hK3 => ?_
  refine WP_seq_k fun K4 hK4 => ?_
  refine WP_region ?_
  refine RL_do rfl rfl (Do_move rfl) ?_
  refine (RL_nil (thenQ_n (hK4 _ _ ?_)))
  refine WP_block ?_
  refine WP_loopS [3, 4, 5, 6, 7, 8, 9, 10, 11, 12, 13, 14, 15, 16, 17] (fun (g : Nat) => [(3, .int .i64 (xorTo f g : Nat)), (5, .int .i64 (g : Nat))]) (fun (g : Nat) wl => Sep [] w wl [] ∧ g ≤ 60) (fun (g : Nat) => 60 - g) (0) (Sl_cons rfl (Sl_cons rfl Sl_nil)) ⟨H, by decide⟩ ?_
  clear H
  rintro k ρ w5 ⟨H, hk⟩
  refine WP_seq_k fun K5 hK5 => ?_
  refine WP_region ?_
  refine RL_do rfl rfl (Do_lss rfl rfl) ?_
  refine (RL_nil (thenQ_n (hK5 _ _ ?_)))
  refine WP_seq_k fun K6 hK6 => ?_
  first | refine WP_if rfl (fun c1 => ?_) (fun c1 => ?_) | refine WP_ifb rfl (fun c1 => ?_) (fun c1 => ?_)
  · skip
    refine (WP_skip (thenQ_n (hK6 _ _ ?_)))
    refine WP_seq_k fun K7 hK7 => ?_
    refine WP_block ?_
    refine WP_seq_k fun K8 hK8 => ?_
    refine WP_region ?_
    refine RL_do rfl rfl (Do_move (v := .int _ _) rfl) ?_
    refine RL_do rfl rfl (Do_assign (v := .int _ _) rfl) ?_
    refine (RL_nil (thenQ_n (hK8 _ _ ?_)))
    refine WP_region ?_
    refine RL_do rfl rfl (Do_move (v := .int _ _) rfl) ?_
    have q1 := hs (k + 1)
    have q2 := xorTo_lt f k
    refine RL_do rfl rfl (Do_move (v := .pointer _) rfl) ?_
    refine RL_do rfl rfl (Do_move (v := .int _ _) rfl) ?_
    refine RL_do rfl rfl (Do_add rfl rfl (wrap_i64 (by omega) (by omega))) ?_
    refine RL_do rfl rfl (Do_nilCheck rfl) ?_
    refine RL_do rfl rfl (Do_idxa1 u25 sz23 rfl rfl (by omega) (by omega) (by omega : _ = k + 1) (by first | exact Nat.zero_add _ | rfl)) ?_
    refine RL_do rfl rfl (Do_load one23 rfl (Cells.get (hc.only (Sep.only H) (by simp)) (wds_get (by omega)))) ?_
    refine RL_call rfl rfl (DoC_func en85 rfl) (data_c _ (by omega) (by omega) w5) ?_
    rintro _ w6 ⟨rfl, hB⟩
    replace H := H.below hB
    refine ⟨_, rfl, ?_⟩
    refine RL_do rfl rfl (Do_xor rfl rfl (xor_i64' (xorTo f k) (wd f (k + 1) % 2048) rfl (by omega) (by omega) (by omega))) ?_
    refine RL_do rfl rfl (Do_assign (v := .int _ _) rfl) ?_
    refine (RL_nil (blockQ_n (thenQ_n (hK7 _ _ ?_))))
    refine WP_region ?_
    refine RL_do rfl rfl (Do_add rfl rfl (wrap_i64 (by omega) (by omega))) ?_
    refine RL_do rfl rfl (Do_move (v := .int _ _) rfl) ?_
    refine (RL_nil (thenQ_n (And.intro ?_ ?_)))
    · repeat' (first | with_reducible exact Fr_refl | refine Fr_upd rfl ?_ | refine Fr_over rfl rfl ?_)
    · refine ⟨k + 1, (Sl_cons (by first | rfl | exact congrArg (Value.int _) (by omega)) (Sl_cons (by first | rfl | exact congrArg (Value.int _) (by omega)) Sl_nil)), ?_, ?_⟩
      · exact ⟨H, by omega⟩
      · simp; omega
  · skip
    refine (WP_exit (thenQ_x (thenQ_x (blockQ_eq (thenQ_n (hK3 _ _ ?_))))))
    refine WP_seq_k fun K9 hK9 => ?_
    refine WP_region ?_
    refine RL_do rfl rfl (Do_move (v := .int _ _) rfl) ?_
    refine RL_do rfl rfl (Do_assign (v := .int _ _) rfl) ?_
    refine (RL_nil (thenQ_n (hK9 _ _ ?_)))
    refine (WP_ret (post1 (v1 := .int _ _) rfl rfl ?_))
    exact ⟨reti (by (have q : k = 60 := by omega); subst q; rfl), H.kept⟩

/-- orangebox/frame.checkOf -/
theorem check_c (f : List Nat) (hl : f.length = 64) (hs : Small f) (b o : Nat) (w : World) (hc : Cells w ⟨b, o, none⟩ (wds f)) :
    Calls Tryd.prog 93 #[.pointer (some ⟨b, o, none⟩)] w fun e w' => e = .returned (.int .i64 (checkN f : Nat)) ∧ Below w.heap.size w w' := by
  refine calls_of_WP (args := [.pointer (some ⟨b, o, none⟩)]) 35 Tryd.func93 rfl rfl rfl ?_
  have H := Sep.start [] w
  refine WP_seq_k fun K1 hK1 => ?_
  refine WP_region ?_
  refine RL_do rfl rfl (Do_assign rfl) ?_
  refine (RL_nil (thenQ_n (hK1 _ _ ?_)))
  refine WP_seq_k fun K2 hK2 => ?_
  refine WP_region ?_
  refine RL_do rfl rfl (Do_assign rfl) ?_
  refine (RL_nil (thenQ_n (hK2 _ _ ?_)))
  refine WP_seq_k fun K3 hK3 => ?_
  refine WP_seq_k fun K4 hK4 => ?_
  refine WP_region ?_
  refine RL_do rfl rfl (Do_move rfl) ?_
  refine (RL_nil (thenQ_n (hK4 _ _ ?_)))
  refine WP_block ?_
  refine WP_loopS [3, 4, 5, 6, 7, 8, 9, 10, 11, 12, 13, 14, 15, 16, 17, 18, 19, 20, 21, 22, 23, 24, 25, 26, 27, 28, 29, 30, 31, 32, 33] (fun (g : Nat) => [(3, .int .i64 (crcTo f g : Nat)), (7, .int .i64 (g : Nat))]) (fun (g : Nat) wl => Sep [] w wl [] ∧ g ≤ 62) (fun (g : Nat) => 62 - g) (0) (Sl_cons rfl (Sl_cons rfl Sl_nil)) ⟨H, by decide⟩ ?_
  clear H
  rintro k ρ w7 ⟨H, hk⟩
  refine WP_seq_k fun K5 hK5 => ?_
  refine WP_region ?_
  refine RL_do rfl rfl (Do_lss rfl rfl) ?_
  refine (RL_nil (thenQ_n (hK5 _ _ ?_)))
  refine WP_seq_k fun K6 hK6 => ?_
  first | refine WP_if rfl (fun c1 => ?_) (fun c1 => ?_) | refine WP_ifb rfl (fun c1 => ?_) (fun c1 => ?_)
  · skip
    refine (WP_skip (thenQ_n (hK6 _ _ ?_)))
    refine WP_seq_k fun K7 hK7 => ?_
    refine WP_block ?_
    refine WP_seq_k fun K8 hK8 => ?_
    refine WP_region ?_
    refine RL_do rfl rfl (Do_move (v := .int _ _) rfl) ?_
    refine RL_do rfl rfl (Do_assign (v := .int _ _) rfl) ?_
    refine (RL_nil (thenQ_n (hK8 _ _ ?_)))
    refine WP_seq_k fun K9 hK9 => ?_
    refine WP_region ?_
    refine RL_do rfl rfl (Do_assign rfl) ?_
    refine (RL_nil (thenQ_n (hK9 _ _ ?_)))
    refine WP_block ?_
    refine WP_loopS [3, 5, 6, 10, 11, 12, 13, 14, 15, 16, 17, 18, 19, 20, 21, 22, 23, 24, 25, 26, 27, 28, 29, 30, 31, 32] (fun (g : Nat) => [(3, .int .i64 (crcBits (crcTo f k) (wd f k) g : Nat)), (5, .int .i64 (11 - (g : Nat)))]) (fun (g : Nat) wl => Sep [] w wl [] ∧ g ≤ 12) (fun (g : Nat) => 12 - g) (0) (Sl_cons rfl (Sl_cons rfl Sl_nil)) ⟨H, by decide⟩ ?_
    clear H
    rintro j ρ w8 ⟨H, hj⟩
    refine WP_seq_k fun K10 hK10 => ?_
    refine WP_seq_k fun K11 hK11 => ?_
    refine WP_region ?_
    refine RL_do rfl rfl (Do_move (v := .int _ _) rfl) ?_
    refine RL_do rfl rfl (Do_geq rfl rfl) ?_
    refine (RL_nil (thenQ_n (hK11 _ _ ?_)))
    first | refine WP_if rfl (fun c2 => ?_) (fun c2 => ?_) | refine WP_ifb rfl (fun c2 => ?_) (fun c2 => ?_)
    · skip
      refine (WP_skip (thenQ_n (hK10 _ _ ?_)))
      refine WP_seq_k fun K12 hK12 => ?_
      refine WP_block ?_
      refine WP_seq_k fun K13 hK13 => ?_
      refine WP_region ?_
      refine RL_do rfl rfl (Do_move (v := .int _ _) rfl) ?_
      have q0 := crcBits_lt (w := wd f k) (crcTo_lt f k) j
      refine RL_do rfl rfl (Do_and rfl rfl (and_top q0)) ?_
      refine RL_do rfl rfl (Do_as (Do_neq rfl rfl) (vbool (q := 2097152 ≤ crcBits (crcTo f k) (wd f k) j) (by split <;> omega))) ?_
      refine RL_do rfl rfl (Do_assign (v := .bool _) rfl) ?_
      refine (RL_nil (thenQ_n (hK13 _ _ ?_)))
      refine WP_seq_k fun K14 hK14 => ?_
      refine WP_region ?_
      refine RL_do rfl rfl (Do_move (v := .int _ _) rfl) ?_
      refine RL_do rfl rfl (Do_shl rfl rfl (by decide) (by decide) (rfl : _ = (2 : Int)) (wrap_i64 (by omega) (by omega))) ?_
      refine RL_do rfl rfl (Do_and rfl rfl (mask_i64 22 (by decide) (rfl : _ = (4194304 : Int)) (by omega) (by omega))) ?_
      refine RL_do rfl rfl (Do_assign (v := .int _ _) rfl) ?_
      refine (RL_nil (thenQ_n (hK14 _ _ ?_)))
      refine WP_seq_k fun K15 hK15 => ?_
      refine WP_region ?_
      refine RL_do rfl rfl (Do_move (v := .bool _) rfl) ?_
      refine RL_do rfl rfl (Do_move (v := .pointer _) rfl) ?_
      refine RL_do rfl rfl (Do_move (v := .int _ _) rfl) ?_
      refine RL_do rfl rfl (Do_nilCheck rfl) ?_
      refine RL_do rfl rfl (Do_idxa1 u25 sz23 rfl rfl (by omega) (by omega) (Int.toNat_natCast _) (by first | exact Nat.zero_add _ | rfl)) ?_
      refine RL_do rfl rfl (Do_load one23 rfl (Cells.get (hc.only (Sep.only H) (by simp)) (wds_get (by omega)))) ?_
      have q1 := hs k
      have q2 := Nat.div_le_self (wd f k) (2 ^ (11 - j))
      have q3 : (0 : Int) ≤ ((wd f k / 2 ^ (11 - j) : Nat) : Int) := Int.natCast_nonneg _
      refine RL_do rfl rfl (Do_move (v := .int _ _) rfl) ?_
      refine RL_do rfl rfl (Do_as (Do_shr rfl rfl (by omega) (by show _ ≤ (16 : Int); omega) rfl) (Go.OB.shr_var (wd f k) (11 - j) rfl (by omega))) ?_
      refine RL_do rfl rfl (Do_and rfl rfl (mask_u16 1 (by decide) (rfl : _ = (2 : Int)) (by omega) (by omega))) ?_
      refine RL_do rfl rfl (Do_as (Do_eql rfl rfl) (vbool (q := wd f k / 2 ^ (11 - j) % 2 = 1) (by omega))) ?_
      refine RL_do rfl rfl (Do_neqb u4 rfl rfl) ?_
      refine (RL_nil (thenQ_n (hK15 _ _ ?_)))
      first | refine WP_if rfl (fun c3 => ?_) (fun c3 => ?_) | refine WP_ifb rfl (fun c3 => ?_) (fun c3 => ?_)
      · skip
        refine WP_region ?_
        refine RL_do rfl rfl (Do_move (v := .int _ _) rfl) ?_
        refine RL_do rfl rfl (Do_xor rfl rfl (xor_i64' (crcBits (crcTo f k) (wd f k) j * 2 % 4194304) 2097167 (by omega) rfl (by omega) (by omega))) ?_
        refine RL_do rfl rfl (Do_assign (v := .int _ _) rfl) ?_
        refine (RL_nil (blockQ_n (thenQ_n (hK12 _ _ ?_))))
        refine WP_region ?_
        refine RL_do rfl rfl (Do_move (v := .int _ _) rfl) ?_
        refine RL_do rfl rfl (Do_sub rfl rfl (wrap_i64 (by omega) (by omega))) ?_
        refine RL_do rfl rfl (Do_assign (v := .int _ _) rfl) ?_
        refine (RL_nil (thenQ_n (And.intro ?_ ?_)))
        · repeat' (first | with_reducible exact Fr_refl | refine Fr_upd rfl ?_ | refine Fr_over rfl rfl ?_)
        · refine ⟨j + 1, (Sl_cons (by first | exact vint (by rw [crcBits_eq (by assumption)]; omega) | exact vint (by rw [crcBits_ne (by assumption)])) (Sl_cons (vint (by omega)) Sl_nil)), ?_, ?_⟩
          · exact ⟨H, by omega⟩
          · simp; omega
      · skip
        refine (WP_skip (blockQ_n (thenQ_n (hK12 _ _ ?_))))
        refine WP_region ?_
        refine RL_do rfl rfl (Do_move (v := .int _ _) rfl) ?_
        refine RL_do rfl rfl (Do_sub rfl rfl (wrap_i64 (by omega) (by omega))) ?_
        refine RL_do rfl rfl (Do_assign (v := .int _ _) rfl) ?_
        refine (RL_nil (thenQ_n (And.intro ?_ ?_)))
        · repeat' (first | with_reducible exact Fr_refl | refine Fr_upd rfl ?_ | refine Fr_over rfl rfl ?_)
        · refine ⟨j + 1, (Sl_cons (by first | exact vint (by rw [crcBits_eq (by assumption)]; omega) | exact vint (by rw [crcBits_ne (by assumption)])) (Sl_cons (vint (by omega)) Sl_nil)), ?_, ?_⟩
          · exact ⟨H, by omega⟩
          · simp; omega
    · skip
      refine (WP_exit (thenQ_x (thenQ_x (blockQ_eq (blockQ_n (thenQ_n (hK7 _ _ ?_)))))))
      refine WP_region ?_
      refine RL_do rfl rfl (Do_add rfl rfl (wrap_i64 (by omega) (by omega))) ?_
      refine RL_do rfl rfl (Do_move (v := .int _ _) rfl) ?_
      refine (RL_nil (thenQ_n (And.intro ?_ ?_)))
      · repeat' (first | with_reducible exact Fr_refl | refine Fr_upd rfl ?_ | refine Fr_over rfl rfl ?_)
      · refine ⟨k + 1, (Sl_cons (by (have q : j = 12 := by omega); subst q; rfl) (Sl_cons (by first | rfl | exact vint (by omega)) Sl_nil)), ?_, ?_⟩
        · exact ⟨H, by omega⟩
        · simp; omega
  · skip
    refine (WP_exit (thenQ_x (thenQ_x (blockQ_eq (thenQ_n (hK3 _ _ ?_))))))
    refine WP_seq_k fun K16 hK16 => ?_
    refine WP_region ?_
    refine RL_do rfl rfl (Do_move (v := .int _ _) rfl) ?_
    refine RL_do rfl rfl (Do_assign (v := .int _ _) rfl) ?_
    refine (RL_nil (thenQ_n (hK16 _ _ ?_)))
    refine (WP_ret (post1 (v1 := .int _ _) rfl rfl ?_))
    exact ⟨reti (by (have q : k = 62 := by omega); subst q; rfl), H.kept⟩

/-- orangebox/frame.wide -/
theorem wide_c (f : List Nat) (hl : f.length = 64) (hs : Small f) (b o : Nat) (w : World) (hc : Cells w ⟨b, o, none⟩ (wds f)) :
    Calls Tryd.prog 78 #[.pointer (some ⟨b, o, none⟩)] w fun e w' => e = .returned (.bool (decide (wideN f))) ∧ Below w.heap.size w w' := by
  refine calls_of_WP (args := [.pointer (some ⟨b, o, none⟩)]) 14 Tryd.func78 rfl rfl rfl ?_
  have H := Sep.start [] w
  refine WP_seq_k fun K1 hK1 => ?_
  refine WP_region ?_
  refine RL_do rfl rfl (Do_assign rfl) ?_
  refine (RL_nil (thenQ_n (hK1 _ _ ?_)))
  refine WP_seq_k fun K2 hK2 => ?_
  refine WP_seq_k fun K3 hK3 => ?_
  refine WP_region ?_
  refine RL_do rfl rfl (Do_move rfl) ?_
  refine (RL_nil (thenQ_n (hK3 _ _ ?_)))
  refine WP_block ?_
  refine WP_loopS [2, 3, 4, 5, 6, 7, 8, 9, 10, 11, 12, 13] (fun (g : Nat) => [(4, .int .i64 (g : Nat))]) (fun (g : Nat) wl => Sep [] w wl [] ∧ g ≤ 64 ∧ ∀ i, i < g → ¬ 4095 < wd f i) (fun (g : Nat) => 64 - g) (0) (Sl_cons rfl Sl_nil) ⟨H, ⟨by decide, fun i h => by omega⟩⟩ ?_
  clear H
  rintro k ρ w9 ⟨H, ⟨hk, hi⟩⟩
  refine WP_seq_k fun K4 hK4 => ?_
  refine WP_region ?_
  refine RL_do rfl rfl (Do_lss rfl rfl) ?_
  refine (RL_nil (thenQ_n (hK4 _ _ ?_)))
  refine WP_seq_k fun K5 hK5 => ?_
  first | refine WP_if rfl (fun c1 => ?_) (fun c1 => ?_) | refine WP_ifb rfl (fun c1 => ?_) (fun c1 => ?_)
  · skip
    refine (WP_skip (thenQ_n (hK5 _ _ ?_)))
    refine WP_seq_k fun K6 hK6 => ?_
    refine WP_block ?_
    refine WP_seq_k fun K7 hK7 => ?_
    refine WP_region ?_
    refine RL_do rfl rfl (Do_move (v := .int _ _) rfl) ?_
    refine RL_do rfl rfl (Do_assign (v := .int _ _) rfl) ?_
    refine (RL_nil (thenQ_n (hK7 _ _ ?_)))
    refine WP_seq_k fun K8 hK8 => ?_
    refine WP_region ?_
    refine RL_do rfl rfl (Do_move (v := .pointer _) rfl) ?_
    refine RL_do rfl rfl (Do_move (v := .int _ _) rfl) ?_
    refine RL_do rfl rfl (Do_nilCheck rfl) ?_
    refine RL_do rfl rfl (Do_idxa1 u25 sz23 rfl rfl (by omega) (by omega) (Int.toNat_natCast _) (by first | exact Nat.zero_add _ | rfl)) ?_
    refine RL_do rfl rfl (Do_load one23 rfl (Cells.get (hc.only (Sep.only H) (by simp)) (wds_get (by omega)))) ?_
    refine RL_do rfl rfl (Do_gtr rfl rfl) ?_
    refine (RL_nil (thenQ_n (hK8 _ _ ?_)))
    first | refine WP_if rfl (fun c2 => ?_) (fun c2 => ?_) | refine WP_ifb rfl (fun c2 => ?_) (fun c2 => ?_)
    · skip
      refine WP_seq_k fun K9 hK9 => ?_
      refine WP_region ?_
      refine RL_do rfl rfl (Do_assign rfl) ?_
      refine (RL_nil (thenQ_n (hK9 _ _ ?_)))
      refine (WP_ret (blockQ_r (thenQ_r (thenQ_r (blockQ_r (thenQ_r (post1 (v1 := .bool _) rfl rfl ?_)))))))
      exact ⟨retbt ⟨k, by omega, by omega⟩, H.kept⟩
    · skip
      refine (WP_skip (blockQ_n (thenQ_n (hK6 _ _ ?_))))
      refine WP_region ?_
      refine RL_do rfl rfl (Do_add rfl rfl (wrap_i64 (by omega) (by omega))) ?_
      refine RL_do rfl rfl (Do_move (v := .int _ _) rfl) ?_
      refine (RL_nil (thenQ_n (And.intro ?_ ?_)))
      · repeat' (first | with_reducible exact Fr_refl | refine Fr_upd rfl ?_ | refine Fr_over rfl rfl ?_)
      · refine ⟨k + 1, (Sl_cons (by first | rfl | exact congrArg (Value.int _) (by omega)) Sl_nil), ?_, ?_⟩
        · exact ⟨H, by omega, upto_succ hi (by omega)⟩
        · simp; omega
  · skip
    refine (WP_exit (thenQ_x (thenQ_x (blockQ_eq (thenQ_n (hK2 _ _ ?_))))))
    refine WP_seq_k fun K10 hK10 => ?_
    refine WP_region ?_
    refine RL_do rfl rfl (Do_assign rfl) ?_
    refine (RL_nil (thenQ_n (hK10 _ _ ?_)))
    refine (WP_ret (post1 (v1 := .bool _) rfl rfl ?_))
    exact ⟨retbf (fun ⟨i, h1, h2⟩ => hi i (by omega) h2), H.kept⟩
end Go.Proofs.YtafgmocdnjdmoaaDoor
namespace Go.Proofs.YtafgmocdnjdmoaaDoor
open Go.RowKit Go.OB Go.Fr1
theorem u46 : Tryd.prog.underlying 46 = some (.slice 3) := Tryd.underlying46
theorem u111 : Tryd.prog.underlying 111 = some (.array 4 23) := Tryd.underlying111
theorem sz3 : Sz Tryd.prog 3 1 := by unfold Sz; kernel_rfl
theorem sz25 : Sz Tryd.prog 25 64 := by unfold Sz; kernel_rfl
theorem one3 : OneC Tryd.prog 3 := by unfold OneC; kernel_rfl
theorem agg25 : Agg Tryd.prog 25 := by unfold Agg; kernel_rfl
theorem zero25 : Go.OB.Zero Tryd.prog 25 (List.replicate 64 (.int .u16 0)) := by unfold Go.OB.Zero; kernel_rfl
abbrev zs25 : List Value := List.replicate 64 (.int .u16 0)
theorem bz25 : Tryd.prog.built 25 [] = some zs25.toArray := by kernel_rfl
theorem en83 : Enters Tryd.prog 83 := ⟨_, Tryd.func83, rfl, by kernel_rfl⟩
theorem en89 : Enters Tryd.prog 89 := ⟨_, Tryd.func89, rfl, by kernel_rfl⟩
theorem en91 : Enters Tryd.prog 91 := ⟨_, Tryd.func91, rfl, by kernel_rfl⟩
theorem en92 : Enters Tryd.prog 92 := ⟨_, Tryd.func92, rfl, by kernel_rfl⟩
theorem en93 : Enters Tryd.prog 93 := ⟨_, Tryd.func93, rfl, by kernel_rfl⟩
/-- orangebox/frame.finish -/
theorem finish_c (f : List Nat) (hl : f.length = 64) (hs : Small f) (b : Nat) (hb0 : 0 < b) (w : World) (hg : Cells w ⟨0, 0, none⟩ (wds tab)) (hb : Blk w b (wds f) 25) :
    Calls Tryd.prog 89 #[.pointer (some ⟨b, 0, none⟩)] w fun e w' => e = .returned (.tuple #[]) ∧ Only [b] w w' ∧ Blk w' b (wds (finN f)) 25 := by
  have l0 : (wds f).length = 64 := by rw [wds_length]; exact hl
  have l1 := (fin1_len f).trans hl
  have l2 := (fin2_len f).trans hl
  have l3 := (fin3_len f).trans hl
  have s1 := fin1_small hs
  have s2 := fin2_small hs
  have s3 := fin3_small hs
  have n1 := sumN_lt (fin1 f)
  have n2 := checkN_lt (fin2 f)
  have n3 := numN_lt f
  refine calls_of_WP (args := [.pointer (some ⟨b, 0, none⟩)]) 31 Tryd.func89 rfl rfl rfl ?_
  have H := Sep.start1 hb
  refine WP_seq_k fun K1 hK1 => ?_
  refine WP_mix [.pure, .pure, .read, .pure, .pure, .read, .pure, .pure, .eff] mixed (by kernel_rfl) (by kernel_rfl) (by kernel_rfl) ?_
  refine XL_pure rfl rfl rfl (fun w' => Do_move (v := .pointer _) rfl) ?_
  refine XL_pure rfl rfl rfl (fun w' => Do_move (v := .pointer _) rfl) ?_
  refine XL_call rfl rfl rfl (fun w' hw' => DoC_func en91 rfl) (fun w' hw' => number_c f hl hs _ _ w' (Blk.cells (Sep.blk (i := 0) (Sep.sees H hw') rfl))) ?_
  refine XL_pure rfl rfl rfl (fun w' => Do_rem rfl rfl (by omega) (by omega)) ?_
  refine XL_pure rfl rfl rfl (fun w' => Do_idxa1 u111 sz23 rfl rfl (by omega) (by omega) (by omega : _ = numN f % 4) (by first | exact Nat.zero_add _ | rfl)) ?_
  refine XL_read rfl rfl rfl (fun w' hw' => Do_load one23 rfl (Cells.get0 (hg.only (Sep.only (Sep.sees H hw')) (by simp; omega)) (i := numN f % 4) (wds_get (by show _ < 4; omega)))) ?_
  refine XL_pure rfl rfl rfl (fun w' => Do_nilCheck rfl) ?_
  refine XL_pure rfl rfl rfl (fun w' => Do_idxa1 u25 sz23 rfl rfl (by omega) (by omega) (rfl : _ = 0) (by first | exact Nat.zero_add _ | rfl)) ?_
  refine XL_exU rfl rfl (fun w' hw' => Ex_store1 sz23 rfl rfl rfl (Sep.blk (i := 0) (Sep.sees H hw') rfl) (by rw [wds_length, hl]; omega)) ?_
  rintro w' w10 hw' hW
  replace H := (Sep.sees H hw').wr (i := 0) rfl hW
  replace H := H.conv (i := 0) rfl (wds_set f 0 (wd tab (numN f % 4)) : _ = wds (fin1 f))
  refine XL_nil fun w11 hS => ?_
  replace H := H.sees hS
  refine (thenQ_n (hK1 _ _ ?_))
  refine WP_seq_k fun K2 hK2 => ?_
  refine WP_mix [.pure, .pure, .read, .read, .pure, .pure, .eff] mixed (by kernel_rfl) (by kernel_rfl) (by kernel_rfl) ?_
  refine XL_pure rfl rfl rfl (fun w' => Do_move (v := .pointer _) rfl) ?_
  refine XL_pure rfl rfl rfl (fun w' => Do_move (v := .pointer _) rfl) ?_
  refine XL_call rfl rfl rfl (fun w' hw' => DoC_func en92 rfl) (fun w' hw' => sum_c (fin1 f) l1 s1 _ _ w' (Blk.cells (Sep.blk (i := 0) (Sep.sees H hw') rfl))) ?_
  refine XL_call rfl rfl rfl (fun w' hw' => DoC_func en83 rfl) (fun w' hw' => word_c _ _ rfl n1 w') ?_
  refine XL_pure rfl rfl rfl (fun w' => Do_nilCheck rfl) ?_
  refine XL_pure rfl rfl rfl (fun w' => Do_idxa1 u25 sz23 rfl rfl (by omega) (by omega) (rfl : _ = 61) (by first | exact Nat.zero_add _ | rfl)) ?_
  refine XL_exU rfl rfl (fun w' hw' => Ex_store1 sz23 rfl rfl rfl (Sep.blk (i := 0) (Sep.sees H hw') rfl) (by simp [wds_length, hl])) ?_
  rintro w' w12 hw' hW
  replace H := (Sep.sees H hw').wr (i := 0) rfl hW
  replace H := H.conv (i := 0) rfl (wds_set (fin1 f) 61 _ : _ = wds (fin2 f))
  refine XL_nil fun w13 hS => ?_
  replace H := H.sees hS
  refine (thenQ_n (hK2 _ _ ?_))
  refine WP_seq_k fun K3 hK3 => ?_
  refine WP_region ?_
  refine RL_do rfl rfl (Do_move (v := .pointer _) rfl) ?_
  refine RL_call rfl rfl (DoC_func en93 rfl) (check_c (fin2 f) l2 s2 _ _ w13 (Blk.cells (Sep.blk (i := 0) H rfl))) ?_
  rintro _ w14 ⟨rfl, hB⟩
  replace H := H.below hB
  refine ⟨_, rfl, ?_⟩
  refine RL_do rfl rfl (Do_assign (v := .int _ _) rfl) ?_
  refine (RL_nil (thenQ_n (hK3 _ _ ?_)))
  refine WP_mix [.pure, .pure, .pure, .pure, .read, .pure, .pure, .read, .pure, .pure, .eff, .pure, .pure, .eff] mixed (by kernel_rfl) (by kernel_rfl) (by kernel_rfl) ?_
  refine XL_pure rfl rfl rfl (fun w' => Do_move (v := .pointer _) rfl) ?_
  refine XL_pure rfl rfl rfl (fun w' => Do_move (v := .pointer _) rfl) ?_
  refine XL_pure rfl rfl rfl (fun w' => Do_move (v := .int _ _) rfl) ?_
  refine XL_pure rfl rfl rfl (fun w' => Do_shr rfl rfl (by decide) (by decide) (rfl : _ = (2048 : Int))) ?_
  refine XL_call rfl rfl rfl (fun w' hw' => DoC_func en83 rfl) (fun w' hw' => word_c _ (checkN (fin2 f) / 2048) (by omega) (by omega) w') ?_
  refine XL_pure rfl rfl rfl (fun w' => Do_move (v := .int _ _) rfl) ?_
  refine XL_pure rfl rfl rfl (fun w' => Do_and rfl rfl (mask_i64 11 (by decide) (rfl : _ = (2048 : Int)) (by omega) (by omega))) ?_
  refine XL_call rfl rfl rfl (fun w' hw' => DoC_func en83 rfl) (fun w' hw' => word_c _ (checkN (fin2 f) % 2048) (by omega) (by omega) w') ?_
  refine XL_pure rfl rfl rfl (fun w' => Do_nilCheck rfl) ?_
  refine XL_pure rfl rfl rfl (fun w' => Do_idxa1 u25 sz23 rfl rfl (by omega) (by omega) (rfl : _ = 62) (by first | exact Nat.zero_add _ | rfl)) ?_
  refine XL_exU rfl rfl (fun w' hw' => Ex_store1 sz23 rfl rfl rfl (Sep.blk (i := 0) (Sep.sees H hw') rfl) (by simp [wds_length, fin1_len, hl])) ?_
  rintro w' w15 hw' hW
  replace H := (Sep.sees H hw').wr (i := 0) rfl hW
  replace H := H.conv (i := 0) rfl (wds_set (fin2 f) 62 _ : _ = wds (fin3 f))
  refine XL_pure rfl rfl rfl (fun w' => Do_nilCheck rfl) ?_
  refine XL_pure rfl rfl rfl (fun w' => Do_idxa1 u25 sz23 rfl rfl (by omega) (by omega) (rfl : _ = 63) (by first | exact Nat.zero_add _ | rfl)) ?_
  refine XL_exU rfl rfl (fun w' hw' => Ex_store1 sz23 rfl rfl rfl (Sep.blk (i := 0) (Sep.sees H hw') rfl) (by simp [wds_length, fin2_len, hl])) ?_
  rintro w' w16 hw' hW
  replace H := (Sep.sees H hw').wr (i := 0) rfl hW
  replace H := H.conv (i := 0) rfl (wds_set (fin3 f) 63 _ : _ = wds (finN f))
  refine XL_nil fun w17 hS => ?_
  replace H := H.sees hS
  refine (post0n rfl ?_)
  exact ⟨rfl, H.only, H.blk (i := 0) rfl⟩

/-- orangebox/frame.New -/
theorem New_c (n : Int) (v : Value) (m : Nat) (d : List Int) (hm : m = d.length) (w : World) (hg : Cells w ⟨0, 0, none⟩ (wds tab)) (hd : SlR w v 1 m (ints d)) (hw0 : 0 < w.heap.size) :
    Calls Tryd.prog 32 #[.int .i64 n, v] w fun e w' => e = .returned (.tuple #[.agg (wds (newR n d).1).toArray, .int .i64 (newR n d).2]) ∧ Below w.heap.size w w' := by
  refine calls_of_WP (args := [.int .i64 n, v]) 50 Tryd.func32 rfl rfl rfl ?_
  obtain ⟨va, vc, rfl⟩ := hd.shape
  have ml := hd.len_le
  rw [maxLen_eq] at ml
  have H := Sep.start [] w
  refine WP_seq_k fun K1 hK1 => ?_
  refine WP_region ?_
  refine RL_ex rfl rfl (Ex_alloc zero25) ?_
  rintro _ w18 ⟨b1, rfl, hA⟩
  replace H := H.alloc hA
  refine RL_do rfl rfl (Do_assign rfl) ?_
  refine (RL_nil (thenQ_n (hK1 _ _ ?_)))
  refine WP_seq_k fun K2 hK2 => ?_
  refine WP_seq_k fun K3 hK3 => ?_
  refine WP_region ?_
  refine RL_do rfl rfl (Do_move (v := .int _ _) rfl) ?_
  refine RL_do rfl rfl (Do_lss rfl rfl) ?_
  first | refine RL_split rfl rfl rfl (fun c1 => ?_) (fun c1 => ?_) | refine RL_splitb rfl rfl rfl (fun c1 => ?_) (fun c1 => ?_)
  · skip
    refine RL_off rfl rfl ?_
    refine RL_off rfl rfl ?_
    refine RL_do rfl rfl (Do_pick_t (v := .bool _) rfl rfl) ?_
    refine (RL_nil (thenQ_n (hK3 _ _ ?_)))
    refine WP_ift rfl ?_
    refine WP_seq_k fun K4 hK4 => ?_
    refine WP_region ?_
    refine RL_do rfl rfl (Do_build (cs := zs25) bz25) ?_
    refine RL_exU rfl (Ex_storeAll sz25 (by simp [wds_length, bys_length, newTo_len, finN_len, newF_len]) rfl rfl (by simp [Value.oneCell']) (Sep.blk (i := 0) H rfl) (by simp [wds_length, bys_length, newTo_len, finN_len, newF_len])) ?_
    rintro w19 hW
    replace H := H.wr (i := 0) rfl hW
    refine RL_do rfl rfl (Do_assign rfl) ?_
    refine (RL_nil (thenQ_n (hK4 _ _ ?_)))
    refine (WP_ret (thenQ_r (postc1 (v1 := .int _ _) rfl rfl (run_loadVar_agg agg25 sz25 (by simp [wds_length, bys_length, newTo_len, finN_len, newF_len]) (Blk.cells (Sep.blk (i := 0) H rfl))) rfl ?_)))
    exact ⟨by rw [newR_1 (by omega)]; exact congrArg (fun l : List Value => Ending.returned (.tuple #[.agg l.toArray, _])) wds_zero, H.kept⟩
  · skip
    refine RL_do rfl rfl (Do_move (v := .int _ _) rfl) ?_
    refine RL_do rfl rfl (Do_geq rfl rfl) ?_
    refine RL_do rfl rfl (Do_pick_f (v := .bool _) rfl rfl) ?_
    refine (RL_nil (thenQ_n (hK3 _ _ ?_)))
    first | refine WP_if rfl (fun c2 => ?_) (fun c2 => ?_) | refine WP_ifb rfl (fun c2 => ?_) (fun c2 => ?_)
    · skip
      refine WP_seq_k fun K5 hK5 => ?_
      refine WP_region ?_
      refine RL_do rfl rfl (Do_build (cs := zs25) bz25) ?_
      refine RL_exU rfl (Ex_storeAll sz25 (by simp [wds_length, bys_length, newTo_len, finN_len, newF_len]) rfl rfl (by simp [Value.oneCell']) (Sep.blk (i := 0) H rfl) (by simp [wds_length, bys_length, newTo_len, finN_len, newF_len])) ?_
      rintro w20 hW
      replace H := H.wr (i := 0) rfl hW
      refine RL_do rfl rfl (Do_assign rfl) ?_
      refine (RL_nil (thenQ_n (hK5 _ _ ?_)))
      refine (WP_ret (thenQ_r (postc1 (v1 := .int _ _) rfl rfl (run_loadVar_agg agg25 sz25 (by simp [wds_length, bys_length, newTo_len, finN_len, newF_len]) (Blk.cells (Sep.blk (i := 0) H rfl))) rfl ?_)))
      exact ⟨by rw [newR_1 (by omega)]; exact congrArg (fun l : List Value => Ending.returned (.tuple #[.agg l.toArray, _])) wds_zero, H.kept⟩
    · skip
      refine (WP_skip (thenQ_n (hK2 _ _ ?_)))
      refine WP_seq_k fun K6 hK6 => ?_
      refine WP_seq_k fun K7 hK7 => ?_
      refine WP_region ?_
      refine RL_do rfl rfl (Do_move (v := .slice _ _ _) rfl) ?_
      refine RL_do rfl rfl (Do_len u46 rfl) ?_
      refine RL_do rfl rfl (Do_neq rfl rfl) ?_
      refine (RL_nil (thenQ_n (hK7 _ _ ?_)))
      first | refine WP_if rfl (fun c3 => ?_) (fun c3 => ?_) | refine WP_ifb rfl (fun c3 => ?_) (fun c3 => ?_)
      · skip
        refine WP_seq_k fun K8 hK8 => ?_
        refine WP_region ?_
        refine RL_do rfl rfl (Do_build (cs := zs25) bz25) ?_
        refine RL_exU rfl (Ex_storeAll sz25 (by simp [wds_length, bys_length, newTo_len, finN_len, newF_len]) rfl rfl (by simp [Value.oneCell']) (Sep.blk (i := 0) H rfl) (by simp [wds_length, bys_length, newTo_len, finN_len, newF_len])) ?_
        rintro w21 hW
        replace H := H.wr (i := 0) rfl hW
        refine RL_do rfl rfl (Do_assign rfl) ?_
        refine (RL_nil (thenQ_n (hK8 _ _ ?_)))
        refine (WP_ret (thenQ_r (postc1 (v1 := .int _ _) rfl rfl (run_loadVar_agg agg25 sz25 (by simp [wds_length, bys_length, newTo_len, finN_len, newF_len]) (Blk.cells (Sep.blk (i := 0) H rfl))) rfl ?_)))
        exact ⟨by rw [newR_2 (by omega) (by omega)]; exact congrArg (fun l : List Value => Ending.returned (.tuple #[.agg l.toArray, _])) wds_zero, H.kept⟩
      · skip
        refine (WP_skip (thenQ_n (hK6 _ _ ?_)))
        refine WP_seq_k fun K9 hK9 => ?_
        refine WP_region ?_
        refine RL_ex rfl rfl (Ex_alloc zero25) ?_
        rintro _ w22 ⟨b2, rfl, hA⟩
        replace H := H.alloc hA
        replace H := H.conv (i := 1) rfl wds_zero
        refine (RL_nil (thenQ_n (hK9 _ _ ?_)))
        refine WP_seq_k fun K10 hK10 => ?_
        refine WP_region ?_
        refine RL_do rfl rfl (Do_move (v := .int _ _) rfl) ?_
        refine RL_do rfl rfl (Do_and rfl rfl (mask_i64 11 (by decide) (rfl : _ = (2048 : Int)) (by omega) (by omega))) ?_
        refine RL_call rfl rfl (DoC_func en83 rfl) (word_c _ (n.toNat % 2048) (by omega) (by omega) w22) ?_
        rintro _ w23 ⟨rfl, hB⟩
        replace H := H.below hB
        refine ⟨_, rfl, ?_⟩
        refine RL_do rfl rfl (Do_move (v := .int _ _) rfl) ?_
        refine RL_do rfl rfl (Do_shr rfl rfl (by decide) (by decide) (rfl : _ = (2048 : Int))) ?_
        refine RL_call rfl rfl (DoC_func en83 rfl) (word_c _ (n.toNat / 2048) (by omega) (by omega) w23) ?_
        rintro _ w24 ⟨rfl, hB⟩
        replace H := H.below hB
        refine ⟨_, rfl, ?_⟩
        refine RL_do rfl rfl (Do_idxa1 u25 sz23 rfl rfl (by omega) (by omega) (rfl : _ = 1) (by first | exact Nat.zero_add _ | rfl)) ?_
        refine RL_exU rfl (Ex_store1 sz23 rfl rfl rfl (Sep.blk (i := 1) H rfl) (by simp [wds_length, zero64])) ?_
        rintro w25 hW
        replace H := H.wr (i := 1) rfl hW
        replace H := H.conv (i := 1) rfl (wds_set _ 1 _)
        refine RL_do rfl rfl (Do_idxa1 u25 sz23 rfl rfl (by omega) (by omega) (rfl : _ = 2) (by first | exact Nat.zero_add _ | rfl)) ?_
        refine RL_exU rfl (Ex_store1 sz23 rfl rfl rfl (Sep.blk (i := 1) H rfl) (by simp [wds_length, zero64])) ?_
        rintro w26 hW
        replace H := H.wr (i := 1) rfl hW
        replace H := H.conv (i := 1) rfl (wds_set _ 2 _)
        refine (RL_nil (thenQ_n (hK10 _ _ ?_)))
        refine WP_seq_k fun K11 hK11 => ?_
        refine WP_seq_k fun K12 hK12 => ?_
        refine WP_region ?_
        refine RL_do rfl rfl (Do_move (v := .slice _ _ _) rfl) ?_
        refine RL_do rfl rfl (Do_len u46 rfl) ?_
        refine RL_do rfl rfl (Do_move rfl) ?_
        refine (RL_nil (thenQ_n (hK12 _ _ ?_)))
        refine WP_block ?_
        obtain ⟨bd, od, cd, q1, q2, q3, hcd⟩ := hd.some (by omega)
        cases q1
        refine WP_loopS [5, 7, 8, 30, 31, 32, 33, 34, 35, 36, 37, 38, 39, 40, 41, 42, 43, 44, 45, 46, 47] (fun (g : Nat) => [(30, .int .i64 (g : Nat))]) (fun (g : Nat) wl => Sep [] w wl [.blk b1 (List.replicate 64 (.int .u16 0)) 25, .blk b2 (wds (newTo n.toNat (d.map Int.toNat) g)) 25] ∧ g ≤ 58 ∧ ∀ i, i < g → okD (d.getD i 0)) (fun (g : Nat) => 58 - g) (0) (Sl_cons rfl Sl_nil) ⟨H, ⟨by decide, fun i h => by omega⟩⟩ ?_
        clear H
        rintro k ρ w27 ⟨H, ⟨hk, hi⟩⟩
        refine WP_seq_k fun K13 hK13 => ?_
        refine WP_region ?_
        refine RL_do rfl rfl (Do_lss rfl rfl) ?_
        refine (RL_nil (thenQ_n (hK13 _ _ ?_)))
        refine WP_seq_k fun K14 hK14 => ?_
        first | refine WP_if rfl (fun c4 => ?_) (fun c4 => ?_) | refine WP_ifb rfl (fun c4 => ?_) (fun c4 => ?_)
        · skip
          refine (WP_skip (thenQ_n (hK14 _ _ ?_)))
          refine WP_seq_k fun K15 hK15 => ?_
          refine WP_block ?_
          refine WP_seq_k fun K16 hK16 => ?_
          refine WP_region ?_
          refine RL_do rfl rfl (Do_move (v := .int _ _) rfl) ?_
          refine RL_do rfl rfl (Do_idx1 u46 sz3 rfl rfl (by omega) (by omega) (by omega : _ = k) (by first | exact Nat.zero_add _ | rfl)) ?_
          refine RL_do rfl rfl (Do_load one3 rfl (Cells.get (hcd.only (Sep.only H) (by simp)) (ints_get (by omega)))) ?_
          refine RL_do rfl rfl (Do_assign (v := .int _ _) rfl) ?_
          refine RL_do rfl rfl (Do_assign (v := .int _ _) rfl) ?_
          refine (RL_nil (thenQ_n (hK16 _ _ ?_)))
          refine WP_seq_k fun K17 hK17 => ?_
          refine WP_seq_k fun K18 hK18 => ?_
          refine WP_region ?_
          refine RL_do rfl rfl (Do_move (v := .int _ _) rfl) ?_
          refine RL_do rfl rfl (Do_lss rfl rfl) ?_
          first | refine RL_split rfl rfl rfl (fun c5 => ?_) (fun c5 => ?_) | refine RL_splitb rfl rfl rfl (fun c5 => ?_) (fun c5 => ?_)
          · skip
            refine RL_off rfl rfl ?_
            refine RL_off rfl rfl ?_
            refine RL_do rfl rfl (Do_pick_t (v := .bool _) rfl rfl) ?_
            refine (RL_nil (thenQ_n (hK18 _ _ ?_)))
            refine WP_ift rfl ?_
            refine WP_seq_k fun K19 hK19 => ?_
            refine WP_region ?_
            refine RL_do rfl rfl (Do_build (cs := zs25) bz25) ?_
            refine RL_exU rfl (Ex_storeAll sz25 (by simp [wds_length, bys_length, newTo_len, finN_len, newF_len]) rfl rfl (by simp [Value.oneCell']) (Sep.blk (i := 0) H rfl) (by simp [wds_length, bys_length, newTo_len, finN_len, newF_len])) ?_
            rintro w28 hW
            replace H := H.wr (i := 0) rfl hW
            refine RL_do rfl rfl (Do_assign rfl) ?_
            refine (RL_nil (thenQ_n (hK19 _ _ ?_)))
            refine (WP_ret (thenQ_r (blockQ_r (thenQ_r (thenQ_r (blockQ_r (thenQ_r (postc1 (v1 := .int _ _) rfl rfl (run_loadVar_agg agg25 sz25 (by simp [wds_length, bys_length, newTo_len, finN_len, newF_len]) (Blk.cells (Sep.blk (i := 0) H rfl))) rfl ?_))))))))
            exact ⟨by rw [newR_3 (by omega) (by omega) (k := k) (by omega) (fun h => by have := h.1; have := h.2; omega)]; exact congrArg (fun l : List Value => Ending.returned (.tuple #[.agg l.toArray, _])) wds_zero, H.kept⟩
          · skip
            refine RL_do rfl rfl (Do_move (v := .int _ _) rfl) ?_
            refine RL_do rfl rfl (Do_gtr rfl rfl) ?_
            refine RL_do rfl rfl (Do_pick_f (v := .bool _) rfl rfl) ?_
            refine (RL_nil (thenQ_n (hK18 _ _ ?_)))
            first | refine WP_if rfl (fun c6 => ?_) (fun c6 => ?_) | refine WP_ifb rfl (fun c6 => ?_) (fun c6 => ?_)
            · skip
              refine WP_seq_k fun K20 hK20 => ?_
              refine WP_region ?_
              refine RL_do rfl rfl (Do_build (cs := zs25) bz25) ?_
              refine RL_exU rfl (Ex_storeAll sz25 (by simp [wds_length, bys_length, newTo_len, finN_len, newF_len]) rfl rfl (by simp [Value.oneCell']) (Sep.blk (i := 0) H rfl) (by simp [wds_length, bys_length, newTo_len, finN_len, newF_len])) ?_
              rintro w29 hW
              replace H := H.wr (i := 0) rfl hW
              refine RL_do rfl rfl (Do_assign rfl) ?_
              refine (RL_nil (thenQ_n (hK20 _ _ ?_)))
              refine (WP_ret (thenQ_r (blockQ_r (thenQ_r (thenQ_r (blockQ_r (thenQ_r (postc1 (v1 := .int _ _) rfl rfl (run_loadVar_agg agg25 sz25 (by simp [wds_length, bys_length, newTo_len, finN_len, newF_len]) (Blk.cells (Sep.blk (i := 0) H rfl))) rfl ?_))))))))
              exact ⟨by rw [newR_3 (by omega) (by omega) (k := k) (by omega) (fun h => by have := h.1; have := h.2; omega)]; exact congrArg (fun l : List Value => Ending.returned (.tuple #[.agg l.toArray, _])) wds_zero, H.kept⟩
            · skip
              refine (WP_skip (thenQ_n (hK17 _ _ ?_)))
              refine WP_region ?_
              refine RL_do rfl rfl (Do_move (v := .int _ _) rfl) ?_
              refine RL_do rfl rfl (Do_add rfl rfl (wrap_i64 (by omega) (by omega))) ?_
              refine RL_do rfl rfl (Do_move (v := .int _ _) rfl) ?_
              refine RL_call rfl rfl (DoC_func en83 rfl) (word_c _ (wd (d.map Int.toNat) k) (by have := wd_toNat d k; omega) (by have := wd_toNat d k; omega) w27) ?_
              rintro _ w30 ⟨rfl, hB⟩
              replace H := H.below hB
              refine ⟨_, rfl, ?_⟩
              refine RL_do rfl rfl (Do_idxa1 u25 sz23 rfl rfl (by omega) (by omega) (by omega : _ = 3 + k) (by first | exact Nat.zero_add _ | rfl)) ?_
              refine RL_exU rfl (Ex_store1 sz23 rfl rfl rfl (Sep.blk (i := 1) H rfl) (by simp [wds_length, newTo_len]; omega)) ?_
              rintro w31 hW
              replace H := H.wr (i := 1) rfl hW
              replace H := H.conv (i := 1) rfl (wds_set _ (3 + k) _)
              refine (RL_nil (blockQ_n (thenQ_n (hK15 _ _ ?_))))
              refine WP_region ?_
              refine RL_do rfl rfl (Do_add rfl rfl (wrap_i64 (by omega) (by omega))) ?_
              refine RL_do rfl rfl (Do_move (v := .int _ _) rfl) ?_
              refine (RL_nil (thenQ_n (And.intro ?_ ?_)))
              · repeat' (first | with_reducible exact Fr_refl | refine Fr_upd rfl ?_ | refine Fr_over rfl rfl ?_)
              · refine ⟨k + 1, (Sl_cons (by first | rfl | exact congrArg (Value.int _) (by omega)) Sl_nil), ?_, ?_⟩
                · exact ⟨H, by omega, upto_succ hi ⟨by omega, by omega⟩⟩
                · simp; omega
        · skip
          refine (WP_exit (thenQ_x (thenQ_x (blockQ_eq (thenQ_n (hK11 _ _ ?_))))))
          refine WP_seq_k fun K21 hK21 => ?_
          refine WP_region ?_
          (obtain rfl : k = 58 := by omega)
          replace H := H.conv (i := 1) rfl (congrArg wds (newF_eq rfl))
          refine RL_call rfl rfl (DoC_func en89 rfl) (finish_c (newF n.toNat (d.map Int.toNat)) (newF_len _ _) (newF_small (by omega) hi) _ (by have := Sep.ge0 (i := 1) H rfl; omega) w27 (hg.only (Sep.only H) (by simp)) (Sep.blk (i := 1) H rfl)) ?_
          rintro _ w32 ⟨rfl, hO, hB⟩
          replace H := H.write (i := 1) rfl hB hO
          refine ⟨_, rfl, ?_⟩
          refine (RL_nil (thenQ_n (hK21 _ _ ?_)))
          refine WP_seq_k fun K22 hK22 => ?_
          refine WP_region ?_
          refine RL_do rfl rfl (Do_loads agg25 rfl sz25 (by simp [wds_length, bys_length, newTo_len, finN_len, newF_len]) (Blk.cells (Sep.blk (i := 1) H rfl))) ?_
          refine RL_exU rfl (Ex_storeAll sz25 (by simp [wds_length, bys_length, newTo_len, finN_len, newF_len]) rfl rfl (one_wds) (Sep.blk (i := 0) H rfl) (by simp [wds_length, bys_length, newTo_len, finN_len, newF_len])) ?_
          rintro w33 hW
          replace H := H.wr (i := 0) rfl hW
          refine RL_do rfl rfl (Do_assign rfl) ?_
          refine (RL_nil (thenQ_n (hK22 _ _ ?_)))
          refine (WP_ret (postc1 (v1 := .int _ _) rfl rfl (run_loadVar_agg agg25 sz25 (by simp [wds_length, bys_length, newTo_len, finN_len, newF_len]) (Blk.cells (Sep.blk (i := 0) H rfl))) rfl ?_))
          exact ⟨by rw [newR_4 (by omega) (by omega) (fun i h => hi i (by omega))]; rfl, H.kept⟩
end Go.Proofs.YtafgmocdnjdmoaaDoor
namespace Go.Proofs.YtafgmocdnjdmoaaDoor
open Go.RowKit Go.OB Go.Fr1
theorem u22 : Tryd.prog.underlying 22 = some (.slice 5) := Tryd.underlying22
theorem u116 : Tryd.prog.underlying 116 = some (.array 96 5) := Tryd.underlying116
theorem sz5 : Sz Tryd.prog 5 1 := by unfold Sz; kernel_rfl
theorem one5 : OneC Tryd.prog 5 := by unfold OneC; kernel_rfl
theorem en77 : Enters Tryd.prog 77 := ⟨_, Tryd.func77, rfl, by kernel_rfl⟩
theorem en78 : Enters Tryd.prog 78 := ⟨_, Tryd.func78, rfl, by kernel_rfl⟩
theorem en79 : Enters Tryd.prog 79 := ⟨_, Tryd.func79, rfl, by kernel_rfl⟩
theorem en82 : Enters Tryd.prog 82 := ⟨_, Tryd.func82, rfl, by kernel_rfl⟩
theorem en95 : Enters Tryd.prog 95 := ⟨_, Tryd.func95, rfl, by kernel_rfl⟩
/-- orangebox/frame.checkPlace -/
theorem checkPlace_c (va : Option Addr) (m vc : Nat) (a n : Int) (hm : m ≤ 9223372036854775807) (hn : 0 ≤ n) (hn2 : n ≤ 1000) (w : World) :
    Calls Tryd.prog 95 #[.slice va m vc, .int .i64 a, .int .i64 n] w fun e w' => e = .returned (.int .i64 (placeN m a n)) ∧ Below w.heap.size w w' := by
  refine calls_of_WP (args := [.slice va m vc, .int .i64 a, .int .i64 n]) 17 Tryd.func95 rfl rfl rfl ?_
  have H := Sep.start [] w
  refine WP_seq_k fun K1 hK1 => ?_
  refine WP_region ?_
  refine RL_do rfl rfl (Do_assign rfl) ?_
  refine (RL_nil (thenQ_n (hK1 _ _ ?_)))
  refine WP_seq_k fun K2 hK2 => ?_
  refine WP_block ?_
  refine WP_seq_k fun K3 hK3 => ?_
  refine WP_region ?_
  refine RL_do rfl rfl (Do_move (v := .int _ _) rfl) ?_
  refine RL_do rfl rfl (Do_lss rfl rfl) ?_
  refine RL_do rfl rfl (Do_assign (v := .bool _) rfl) ?_
  refine (RL_nil (thenQ_n (hK3 _ _ ?_)))
  first | refine WP_if rfl (fun c1 => ?_) (fun c1 => ?_) | refine WP_ifb rfl (fun c1 => ?_) (fun c1 => ?_)
  · skip
    refine WP_seq_k fun K4 hK4 => ?_
    refine WP_region ?_
    refine RL_do rfl rfl (Do_assign rfl) ?_
    refine (RL_nil (thenQ_n (hK4 _ _ ?_)))
    refine (WP_ret (blockQ_r (thenQ_r (post1 (v1 := .int _ _) rfl rfl ?_))))
    exact ⟨reti (placeN_1 (by omega)).symm, H.kept⟩
  · skip
    refine WP_seq_k fun K5 hK5 => ?_
    refine WP_region ?_
    refine RL_do rfl rfl (Do_move (v := .int _ _) rfl) ?_
    refine RL_do rfl rfl (Do_move (v := .slice _ _ _) rfl) ?_
    refine RL_do rfl rfl (Do_len u22 rfl) ?_
    refine RL_do rfl rfl (Do_move (v := .int _ _) rfl) ?_
    refine RL_do rfl rfl (Do_sub rfl rfl (wrap_i64 (by omega) (by omega))) ?_
    refine RL_do rfl rfl (Do_gtr rfl rfl) ?_
    refine RL_do rfl rfl (Do_assign (v := .bool _) rfl) ?_
    refine (RL_nil (thenQ_n (hK5 _ _ ?_)))
    first | refine WP_if rfl (fun c2 => ?_) (fun c2 => ?_) | refine WP_ifb rfl (fun c2 => ?_) (fun c2 => ?_)
    · skip
      refine WP_seq_k fun K6 hK6 => ?_
      refine WP_region ?_
      refine RL_do rfl rfl (Do_assign rfl) ?_
      refine (RL_nil (thenQ_n (hK6 _ _ ?_)))
      refine (WP_ret (blockQ_r (thenQ_r (post1 (v1 := .int _ _) rfl rfl ?_))))
      exact ⟨reti (placeN_2 (by omega) (by omega)).symm, H.kept⟩
    · skip
      refine (WP_skip (blockQ_n (thenQ_n (hK2 _ _ ?_))))
      refine WP_seq_k fun K7 hK7 => ?_
      refine WP_region ?_
      refine RL_do rfl rfl (Do_assign rfl) ?_
      refine (RL_nil (thenQ_n (hK7 _ _ ?_)))
      refine (WP_ret (post1 (v1 := .int _ _) rfl rfl ?_))
      exact ⟨reti (placeN_3 (by omega) (by omega)).symm, H.kept⟩

/-- orangebox/frame.inPlace -/
theorem inPlace_c (va : Option Addr) (m vc : Nat) (a : Int) (hm : m ≤ vc) (hc : vc ≤ 9223372036854775807) (hv : 0 < m → ∃ b o, va = some ⟨b, o, none⟩) (w : World) :
    Calls Tryd.prog 77 #[.slice va m vc, .int .i64 a] w fun e w' => ∃ pv, e = .returned (.tuple #[.pointer pv, .int .i64 (placeN m a 96)]) ∧ (placeN m a 96 = 0 → pv = va.map fun x => x.add a.toNat) ∧ Below w.heap.size w w' := by
  refine calls_of_WP (args := [.slice va m vc, .int .i64 a]) 19 Tryd.func77 rfl rfl rfl ?_
  have H := Sep.start [] w
  refine WP_seq_k fun K1 hK1 => ?_
  refine WP_region ?_
  refine RL_do rfl rfl (Do_assign rfl) ?_
  refine RL_do rfl rfl (Do_assign rfl) ?_
  refine (RL_nil (thenQ_n (hK1 _ _ ?_)))
  refine WP_seq_k fun K2 hK2 => ?_
  refine WP_seq_k fun K3 hK3 => ?_
  refine WP_region ?_
  refine RL_do rfl rfl (Do_move (v := .slice _ _ _) rfl) ?_
  refine RL_do rfl rfl (Do_move (v := .int _ _) rfl) ?_
  refine RL_call rfl rfl (DoC_func en95 rfl) (checkPlace_c _ _ _ a 96 (by omega) (by omega) (by omega) w) ?_
  rintro _ w34 ⟨rfl, hB⟩
  replace H := H.below hB
  refine ⟨_, rfl, ?_⟩
  refine RL_do rfl rfl (Do_assign (v := .int _ _) rfl) ?_
  refine (RL_nil (thenQ_n (hK3 _ _ ?_)))
  refine WP_seq_k fun K4 hK4 => ?_
  refine WP_region ?_
  refine RL_do rfl rfl (Do_move (v := .int _ _) rfl) ?_
  refine RL_do rfl rfl (Do_neq rfl rfl) ?_
  refine (RL_nil (thenQ_n (hK4 _ _ ?_)))
  first | refine WP_if rfl (fun c1 => ?_) (fun c1 => ?_) | refine WP_ifb rfl (fun c1 => ?_) (fun c1 => ?_)
  · skip
    refine WP_seq_k fun K5 hK5 => ?_
    refine WP_region ?_
    refine RL_do rfl rfl (Do_move (v := .int _ _) rfl) ?_
    refine RL_do rfl rfl (Do_assign rfl) ?_
    refine RL_do rfl rfl (Do_assign (v := .int _ _) rfl) ?_
    refine (RL_nil (thenQ_n (hK5 _ _ ?_)))
    refine (WP_ret (thenQ_r (post2 (v1 := .pointer _) (v2 := .int _ _) rfl rfl rfl ?_)))
    exact ⟨_, rfl, fun h => absurd h (by omega), H.kept⟩
  · skip
    refine (WP_skip (thenQ_n (hK2 _ _ ?_)))
    refine WP_seq_k fun K6 hK6 => ?_
    refine WP_region ?_
    have q0 := placeN_0 (show placeN m a 96 = 0 by omega)
    obtain ⟨b, o, rfl⟩ := hv (by omega)
    refine RL_do rfl rfl (Do_move (v := .slice _ _ _) rfl) ?_
    refine RL_do rfl rfl (Do_move (v := .int _ _) rfl) ?_
    refine RL_do rfl rfl (Do_move (v := .int _ _) rfl) ?_
    refine RL_do rfl rfl (Do_add rfl rfl (wrap_i64 (by omega) (by omega))) ?_
    refine RL_do rfl rfl (Do_slice_in u22 sz5 (i := a.toNat) (j := 96) rfl rfl rfl (by omega) (by omega) (by omega) (by omega) (by rw [Nat.mul_one])) ?_
    refine RL_do rfl rfl (Do_toArr u116 rfl (Nat.le_refl _)) ?_
    refine RL_do rfl rfl (Do_assign (v := .pointer _) rfl) ?_
    refine RL_do rfl rfl (Do_assign rfl) ?_
    refine (RL_nil (thenQ_n (hK6 _ _ ?_)))
    refine (WP_ret (post2 (v1 := .pointer _) (v2 := .int _ _) rfl rfl rfl ?_))
    exact ⟨some ⟨b, o + a.toNat, none⟩, by rw [show placeN m a 96 = 0 by omega], fun _ => by simp [Addr.add_none], H.kept⟩

/-- orangebox/frame.setWordIn -/
theorem setW_c (L : List Nat) (R_ : List Value) (hL : Byte L) (b o : Nat) (T : TypeId) (hl : o + 96 ≤ L.length) (ix : Int) (i : Nat) (hix : ix = i) (hi : i < 64) (x : Int) (wv : Nat) (hx : x = wv) (hw : wv < 4096) (w : World) (hb : Blk w b (byr L R_) T) :
    Calls Tryd.prog 82 #[.pointer (some ⟨b, o, none⟩), .int .i64 ix, .int .u16 x] w fun e w' => e = .returned (.tuple #[]) ∧ Only [b] w w' ∧ Blk w' b (byr (setW L o i wv) R_) T := by
  have q1 := hL (o + (i / 2 * 3 + 1))
  refine calls_of_WP (args := [.pointer (some ⟨b, o, none⟩), .int .i64 ix, .int .u16 x]) 60 Tryd.func82 rfl rfl rfl ?_
  have H := Sep.start1 hb
  refine WP_seq_k fun K1 hK1 => ?_
  refine WP_region ?_
  refine RL_do rfl rfl (Do_move (v := .int _ _) rfl) ?_
  refine RL_do rfl rfl (Do_quo rfl rfl (by omega) (by omega) (wrap_i64 (by omega) (by omega))) ?_
  refine RL_do rfl rfl (Do_mul rfl rfl (wrap_i64 (by omega) (by omega))) ?_
  refine RL_do rfl rfl (Do_assign (v := .int _ _) rfl) ?_
  refine (RL_nil (thenQ_n (hK1 _ _ ?_)))
  refine WP_seq_k fun K2 hK2 => ?_
  refine WP_seq_k fun K3 hK3 => ?_
  refine WP_region ?_
  refine RL_do rfl rfl (Do_move (v := .int _ _) rfl) ?_
  refine RL_do rfl rfl (Do_rem rfl rfl (by omega) (by omega)) ?_
  refine RL_do rfl rfl (Do_eql rfl rfl) ?_
  refine (RL_nil (thenQ_n (hK3 _ _ ?_)))
  first | refine WP_if rfl (fun c1 => ?_) (fun c1 => ?_) | refine WP_ifb rfl (fun c1 => ?_) (fun c1 => ?_)
  · skip
    refine WP_seq_k fun K4 hK4 => ?_
    refine WP_mix [.pure, .pure, .pure, .pure, .pure, .pure, .pure, .pure, .pure, .pure, .pure, .pure, .pure, .pure, .pure, .pure, .pure, .read, .pure, .pure, .pure, .pure, .eff, .pure, .pure, .eff] mixed (by kernel_rfl) (by kernel_rfl) (by kernel_rfl) ?_
    refine XL_pure rfl rfl rfl (fun w' => Do_move (v := .pointer _) rfl) ?_
    refine XL_pure rfl rfl rfl (fun w' => Do_move (v := .int _ _) rfl) ?_
    refine XL_pure rfl rfl rfl (fun w' => Do_move (v := .pointer _) rfl) ?_
    refine XL_pure rfl rfl rfl (fun w' => Do_move (v := .int _ _) rfl) ?_
    refine XL_pure rfl rfl rfl (fun w' => Do_add rfl rfl (wrap_i64 (by omega) (by omega))) ?_
    refine XL_pure rfl rfl rfl (fun w' => Do_move (v := .int _ _) rfl) ?_
    refine XL_pure rfl rfl rfl (fun w' => Do_shr rfl rfl (by decide) (by decide) (rfl : _ = (16 : Int))) ?_
    refine XL_pure rfl rfl rfl (fun w' => Do_conv u23 u5 rfl (wrap_u8 (by omega) (by omega))) ?_
    refine XL_pure rfl rfl rfl (fun w' => Do_move (v := .int _ _) rfl) ?_
    refine XL_pure rfl rfl rfl (fun w' => Do_and rfl rfl (mask_u16 4 (by decide) (rfl : _ = (16 : Int)) (by omega) (by omega))) ?_
    refine XL_pure rfl rfl rfl (fun w' => Do_shl rfl rfl (by decide) (by decide) (rfl : _ = (16 : Int)) (wrap_u16 (by omega) (by omega))) ?_
    refine XL_pure rfl rfl rfl (fun w' => Do_conv u23 u5 rfl (wrap_u8 (by omega) (by omega))) ?_
    refine XL_pure rfl rfl rfl (fun w' => Do_move (v := .pointer _) rfl) ?_
    refine XL_pure rfl rfl rfl (fun w' => Do_move (v := .int _ _) rfl) ?_
    refine XL_pure rfl rfl rfl (fun w' => Do_add rfl rfl (wrap_i64 (by omega) (by omega))) ?_
    refine XL_pure rfl rfl rfl (fun w' => Do_nilCheck rfl) ?_
    refine XL_pure rfl rfl rfl (fun w' => Do_idxa1 u116 sz5 rfl rfl (by omega) (by omega) (by omega : _ = i / 2 * 3 + 1) (by first | exact Nat.zero_add _ | rfl)) ?_
    refine XL_read rfl rfl rfl (fun w' hw' => Do_load one5 rfl (Blk.cell (Sep.blk (i := 0) (Sep.sees H hw') rfl) (byr_get (by omega)))) ?_
    refine XL_pure rfl rfl rfl (fun w' => Do_and rfl rfl (mask_u8 4 (by decide) (rfl : _ = (16 : Int)) (by omega) (by omega))) ?_
    refine XL_pure rfl rfl rfl (fun w' => Do_or rfl rfl (join_u8 4 (rfl : _ = (16 : Int)) (by omega) (by omega) (by omega) (by omega) (by omega) (by omega))) ?_
    refine XL_pure rfl rfl rfl (fun w' => Do_nilCheck rfl) ?_
    refine XL_pure rfl rfl rfl (fun w' => Do_idxa1 u116 sz5 rfl rfl (by omega) (by omega) (by omega : _ = i / 2 * 3) (by first | exact Nat.zero_add _ | rfl)) ?_
    refine XL_exU rfl rfl (fun w' hw' => Ex_store1 sz5 rfl rfl rfl (Sep.blk (i := 0) (Sep.sees H hw') rfl) (by rw [byr_len]; omega)) ?_
    rintro w' w35 hw' hW
    replace H := (Sep.sees H hw').wr (i := 0) rfl hW
    replace H := H.conv (i := 0) rfl (byr_setI _ _ _ (by omega) (n := wv / 16) (by omega))
    refine XL_pure rfl rfl rfl (fun w' => Do_nilCheck rfl) ?_
    refine XL_pure rfl rfl rfl (fun w' => Do_idxa1 u116 sz5 rfl rfl (by omega) (by omega) (by omega : _ = i / 2 * 3 + 1) (by first | exact Nat.zero_add _ | rfl)) ?_
    refine XL_exU rfl rfl (fun w' hw' => Ex_store1 sz5 rfl rfl rfl (Sep.blk (i := 0) (Sep.sees H hw') rfl) (by simp [byr_len]; omega)) ?_
    rintro w' w36 hw' hW
    replace H := (Sep.sees H hw').wr (i := 0) rfl hW
    replace H := H.conv (i := 0) rfl (byr_setI _ _ _ (by simp; omega) (n := wv % 16 * 16 + wd L (o + (i / 2 * 3 + 1)) % 16) (by omega))
    refine XL_nil fun w37 hS => ?_
    replace H := H.sees hS
    refine (thenQ_n (hK4 _ _ ?_))
    refine (WP_ret (thenQ_r (post0 rfl ?_)))
    exact ⟨rfl, H.only, by rw [setW_even (by omega)]; exact H.blk (i := 0) rfl⟩
  · skip
    refine (WP_skip (thenQ_n (hK2 _ _ ?_)))
    refine WP_mix [.pure, .pure, .pure, .pure, .pure, .pure, .pure, .pure, .pure, .pure, .pure, .read, .pure, .pure, .pure, .pure, .pure, .pure, .pure, .pure, .pure, .eff, .pure, .pure, .eff] mixed (by kernel_rfl) (by kernel_rfl) (by kernel_rfl) ?_
    refine XL_pure rfl rfl rfl (fun w' => Do_move (v := .pointer _) rfl) ?_
    refine XL_pure rfl rfl rfl (fun w' => Do_move (v := .int _ _) rfl) ?_
    refine XL_pure rfl rfl rfl (fun w' => Do_add rfl rfl (wrap_i64 (by omega) (by omega))) ?_
    refine XL_pure rfl rfl rfl (fun w' => Do_move (v := .pointer _) rfl) ?_
    refine XL_pure rfl rfl rfl (fun w' => Do_move (v := .int _ _) rfl) ?_
    refine XL_pure rfl rfl rfl (fun w' => Do_add rfl rfl (wrap_i64 (by omega) (by omega))) ?_
    refine XL_pure rfl rfl rfl (fun w' => Do_move (v := .pointer _) rfl) ?_
    refine XL_pure rfl rfl rfl (fun w' => Do_move (v := .int _ _) rfl) ?_
    refine XL_pure rfl rfl rfl (fun w' => Do_add rfl rfl (wrap_i64 (by omega) (by omega))) ?_
    refine XL_pure rfl rfl rfl (fun w' => Do_nilCheck rfl) ?_
    refine XL_pure rfl rfl rfl (fun w' => Do_idxa1 u116 sz5 rfl rfl (by omega) (by omega) (by omega : _ = i / 2 * 3 + 1) (by first | exact Nat.zero_add _ | rfl)) ?_
    refine XL_read rfl rfl rfl (fun w' hw' => Do_load one5 rfl (Blk.cell (Sep.blk (i := 0) (Sep.sees H hw') rfl) (byr_get (by omega)))) ?_
    refine XL_pure rfl rfl rfl (fun w' => Do_and rfl rfl (and_240 q1)) ?_
    refine XL_pure rfl rfl rfl (fun w' => Do_move (v := .int _ _) rfl) ?_
    refine XL_pure rfl rfl rfl (fun w' => Do_shr rfl rfl (by decide) (by decide) (rfl : _ = (256 : Int))) ?_
    refine XL_pure rfl rfl rfl (fun w' => Do_conv u23 u5 rfl (wrap_u8 (by omega) (by omega))) ?_
    refine XL_pure rfl rfl rfl (fun w' => Do_or rfl rfl (join_u8 4 (rfl : _ = (16 : Int)) (by omega) (by omega) (by omega) (by omega) (by omega) (by omega))) ?_
    refine XL_pure rfl rfl rfl (fun w' => Do_move (v := .int _ _) rfl) ?_
    refine XL_pure rfl rfl rfl (fun w' => Do_conv u23 u5 rfl (c := ((wv % 256 : Nat) : Int)) (by rw [IntKind.wrap_u8]; omega)) ?_
    refine XL_pure rfl rfl rfl (fun w' => Do_nilCheck rfl) ?_
    refine XL_pure rfl rfl rfl (fun w' => Do_idxa1 u116 sz5 rfl rfl (by omega) (by omega) (by omega : _ = i / 2 * 3 + 1) (by first | exact Nat.zero_add _ | rfl)) ?_
    refine XL_exU rfl rfl (fun w' hw' => Ex_store1 sz5 rfl rfl rfl (Sep.blk (i := 0) (Sep.sees H hw') rfl) (by rw [byr_len]; omega)) ?_
    rintro w' w38 hw' hW
    replace H := (Sep.sees H hw').wr (i := 0) rfl hW
    replace H := H.conv (i := 0) rfl (byr_setI _ _ _ (by omega) (n := wd L (o + (i / 2 * 3 + 1)) / 16 * 16 + wv / 256) (by omega))
    refine XL_pure rfl rfl rfl (fun w' => Do_nilCheck rfl) ?_
    refine XL_pure rfl rfl rfl (fun w' => Do_idxa1 u116 sz5 rfl rfl (by omega) (by omega) (by omega : _ = i / 2 * 3 + 2) (by first | exact Nat.zero_add _ | rfl)) ?_
    refine XL_exU rfl rfl (fun w' hw' => Ex_store1 sz5 rfl rfl rfl (Sep.blk (i := 0) (Sep.sees H hw') rfl) (by simp [byr_len]; omega)) ?_
    rintro w' w39 hw' hW
    replace H := (Sep.sees H hw').wr (i := 0) rfl hW
    replace H := H.conv (i := 0) rfl (byr_setI _ _ _ (by simp; omega) (n := wv % 256) (by omega))
    refine XL_nil fun w40 hS => ?_
    replace H := H.sees hS
    refine (post0n rfl ?_)
    exact ⟨rfl, H.only, by rw [setW_odd (by omega)]; exact H.blk (i := 0) rfl⟩

/-- orangebox/frame.save -/
theorem save_c (L : List Nat) (R_ : List Value) (hL : Byte L) (b o : Nat) (T : TypeId) (hl : o + 96 ≤ L.length) (f : List Nat) (hf : f.length = 64) (hs : ∀ i, wd f i < 4096) (bf of_ : Nat) (hne : bf ≠ b) (w : World) (hb : Blk w b (byr L R_) T) (hc : Cells w ⟨bf, of_, none⟩ (wds f)) :
    Calls Tryd.prog 79 #[.pointer (some ⟨b, o, none⟩), .pointer (some ⟨bf, of_, none⟩)] w fun e w' => e = .returned (.tuple #[]) ∧ Only [b] w w' ∧ Blk w' b (byr (saveN L o f) R_) T := by
  refine calls_of_WP (args := [.pointer (some ⟨b, o, none⟩), .pointer (some ⟨bf, of_, none⟩)]) 17 Tryd.func79 rfl rfl rfl ?_
  have H := Sep.start1 hb
  refine WP_seq_k fun K1 hK1 => ?_
  refine WP_region ?_
  refine RL_do rfl rfl (Do_move rfl) ?_
  refine (RL_nil (thenQ_n (hK1 _ _ ?_)))
  refine WP_block ?_
  refine WP_loopS [4, 5, 6, 7, 8, 9, 10, 11, 12, 13, 14, 15, 16] (fun (g : Nat) => [(5, .int .i64 (g : Nat))]) (fun (g : Nat) wl => Sep [b] w wl [.blk b (byr (saveTo L o f g) R_) T] ∧ g ≤ 64) (fun (g : Nat) => 64 - g) (0) (Sl_cons rfl Sl_nil) ⟨H, by decide⟩ ?_
  clear H
  rintro k ρ w41 ⟨H, hk⟩
  refine WP_seq_k fun K2 hK2 => ?_
  refine WP_region ?_
  refine RL_do rfl rfl (Do_lss rfl rfl) ?_
  refine (RL_nil (thenQ_n (hK2 _ _ ?_)))
  refine WP_seq_k fun K3 hK3 => ?_
  first | refine WP_if rfl (fun c1 => ?_) (fun c1 => ?_) | refine WP_ifb rfl (fun c1 => ?_) (fun c1 => ?_)
  · skip
    refine (WP_skip (thenQ_n (hK3 _ _ ?_)))
    refine WP_seq_k fun K4 hK4 => ?_
    refine WP_block ?_
    refine WP_seq_k fun K5 hK5 => ?_
    refine WP_region ?_
    refine RL_do rfl rfl (Do_move (v := .int _ _) rfl) ?_
    refine RL_do rfl rfl (Do_assign (v := .int _ _) rfl) ?_
    refine (RL_nil (thenQ_n (hK5 _ _ ?_)))
    refine WP_region ?_
    refine RL_do rfl rfl (Do_move (v := .pointer _) rfl) ?_
    refine RL_do rfl rfl (Do_move (v := .int _ _) rfl) ?_
    refine RL_do rfl rfl (Do_move (v := .pointer _) rfl) ?_
    refine RL_do rfl rfl (Do_move (v := .int _ _) rfl) ?_
    refine RL_do rfl rfl (Do_nilCheck rfl) ?_
    refine RL_do rfl rfl (Do_idxa1 u25 sz23 rfl rfl (by omega) (by omega) (by omega : _ = k) (by first | exact Nat.zero_add _ | rfl)) ?_
    refine RL_do rfl rfl (Do_load one23 rfl (Cells.get (hc.only (Sep.only H) (by simpa using hne)) (wds_get (by omega)))) ?_
    refine RL_call rfl rfl (DoC_func en82 rfl) (setW_c (saveTo L o f k) R_ (saveTo_byte hL o hs k) _ _ _ (by rw [saveTo_len]; omega) _ k rfl (by omega) _ (wd f k) rfl (hs k) w41 (Sep.blk (i := 0) H rfl)) ?_
    rintro _ w42 ⟨rfl, hO, hB⟩
    replace H := H.write (i := 0) rfl hB hO
    refine ⟨_, rfl, ?_⟩
    refine (RL_nil (blockQ_n (thenQ_n (hK4 _ _ ?_))))
    refine WP_region ?_
    refine RL_do rfl rfl (Do_add rfl rfl (wrap_i64 (by omega) (by omega))) ?_
    refine RL_do rfl rfl (Do_move (v := .int _ _) rfl) ?_
    refine (RL_nil (thenQ_n (And.intro ?_ ?_)))
    · repeat' (first | with_reducible exact Fr_refl | refine Fr_upd rfl ?_ | refine Fr_over rfl rfl ?_)
    · refine ⟨k + 1, (Sl_cons (by first | rfl | exact congrArg (Value.int _) (by omega)) Sl_nil), ?_, ?_⟩
      · exact ⟨H, by omega⟩
      · simp; omega
  · skip
    refine (WP_exit (thenQ_x (thenQ_x (blockQ_eq (post0n rfl ?_)))))
    obtain rfl : k = 64 := by omega
    exact ⟨rfl, H.only, by rw [← saveN_eq rfl]; exact H.blk (i := 0) rfl⟩

/-- orangebox/frame.Put -/
theorem Put_c (L : List Nat) (R_ : List Value) (hL : Byte L) (b o m c : Nat) (T : TypeId) (hl : o + m ≤ L.length) (hm : m ≤ c) (hc : c ≤ 9223372036854775807) (a : Int) (f : List Nat) (hf : f.length = 64) (hs : Small f) (w : World) (hb : Blk w b (byr L R_) T) :
    Calls Tryd.prog 18 #[.slice (some ⟨b, o, none⟩) m c, .int .i64 a, .agg (wds f).toArray] w fun e w' => e = .returned (.int .i64 (putE m a f)) ∧ Only [b] w w' ∧ Blk w' b (byr (putL L o m a f) R_) T := by
  refine calls_of_WP (args := [.slice (some ⟨b, o, none⟩) m c, .int .i64 a, .agg (wds f).toArray]) 21 Tryd.func18 rfl rfl rfl ?_
  have H := Sep.start1 hb
  refine WP_seq_k fun K1 hK1 => ?_
  refine WP_region ?_
  refine RL_ex rfl rfl (Ex_box rfl) ?_
  rintro _ w43 ⟨b3, rfl, hA⟩
  replace H := H.alloc hA
  refine RL_do rfl rfl (Do_assign rfl) ?_
  refine (RL_nil (thenQ_n (hK1 _ _ ?_)))
  refine WP_seq_k fun K2 hK2 => ?_
  refine WP_region ?_
  refine RL_do rfl rfl (Do_move (v := .slice _ _ _) rfl) ?_
  refine RL_do rfl rfl (Do_move (v := .int _ _) rfl) ?_
  refine RL_call rfl rfl (DoC_func en77 rfl) (inPlace_c _ m c a hm hc (fun _ => ⟨_, _, rfl⟩) w43) ?_
  rintro _ w44 ⟨pv, rfl, hpv, hB⟩
  replace H := H.below hB
  refine ⟨_, rfl, ?_⟩
  refine RL_do rfl rfl (Do_move (v := .tuple _) rfl) ?_
  refine RL_do rfl rfl (Do_extract (v := .pointer _) rfl rfl) ?_
  refine RL_do rfl rfl (Do_extract (v := .int _ _) rfl rfl) ?_
  refine RL_do rfl rfl (Do_assign (v := .pointer _) rfl) ?_
  refine RL_do rfl rfl (Do_assign (v := .int _ _) rfl) ?_
  refine (RL_nil (thenQ_n (hK2 _ _ ?_)))
  refine WP_seq_k fun K3 hK3 => ?_
  refine WP_seq_k fun K4 hK4 => ?_
  refine WP_region ?_
  refine RL_do rfl rfl (Do_move (v := .int _ _) rfl) ?_
  refine RL_do rfl rfl (Do_neq rfl rfl) ?_
  refine (RL_nil (thenQ_n (hK4 _ _ ?_)))
  first | refine WP_if rfl (fun c1 => ?_) (fun c1 => ?_) | refine WP_ifb rfl (fun c1 => ?_) (fun c1 => ?_)
  · skip
    refine WP_seq_k fun K5 hK5 => ?_
    refine WP_region ?_
    refine RL_do rfl rfl (Do_move (v := .int _ _) rfl) ?_
    refine RL_do rfl rfl (Do_assign (v := .int _ _) rfl) ?_
    refine (RL_nil (thenQ_n (hK5 _ _ ?_)))
    refine (WP_ret (thenQ_r (post1 (v1 := .int _ _) rfl rfl ?_)))
    have q := put_1 (f := f) L o c1
    exact ⟨reti q.1.symm, H.only, by rw [q.2]; exact H.blk (i := 0) rfl⟩
  · skip
    refine (WP_skip (thenQ_n (hK3 _ _ ?_)))
    refine WP_seq_k fun K6 hK6 => ?_
    refine WP_seq_k fun K7 hK7 => ?_
    refine WP_region ?_
    have q0 := placeN_0 (show placeN m a 96 = 0 by omega)
    obtain rfl := hpv (by omega)
    simp only [Option.map_some, Addr.add_none]
    refine RL_call rfl rfl (DoC_func en78 rfl) (wide_c f hf hs _ 0 w44 (Blk.cells (Sep.blk (i := 1) H rfl))) ?_
    rintro _ w45 ⟨rfl, hB⟩
    replace H := H.below hB
    refine ⟨_, rfl, ?_⟩
    refine (RL_nil (thenQ_n (hK7 _ _ ?_)))
    first | refine WP_if rfl (fun c2 => ?_) (fun c2 => ?_) | refine WP_ifb rfl (fun c2 => ?_) (fun c2 => ?_)
    · skip
      refine WP_seq_k fun K8 hK8 => ?_
      refine WP_region ?_
      refine RL_do rfl rfl (Do_assign rfl) ?_
      refine (RL_nil (thenQ_n (hK8 _ _ ?_)))
      refine (WP_ret (thenQ_r (post1 (v1 := .int _ _) rfl rfl ?_)))
      have q := put_2 (f := f) L o c1 (by assumption)
      exact ⟨reti q.1.symm, H.only, by rw [q.2]; exact H.blk (i := 0) rfl⟩
    · skip
      refine (WP_skip (thenQ_n (hK6 _ _ ?_)))
      refine WP_seq_k fun K9 hK9 => ?_
      refine WP_region ?_
      have q1 : ¬ wideN f := by assumption
      refine RL_do rfl rfl (Do_move (v := .pointer _) rfl) ?_
      refine RL_call rfl rfl (DoC_func en79 rfl) (save_c L R_ hL b (o + a.toNat) T (by omega) f hf (notwide hf q1) _ 0 (Sep.ne (i := 1) (j := 0) H rfl rfl rfl) w45 (Sep.blk (i := 0) H rfl) (Blk.cells (Sep.blk (i := 1) H rfl))) ?_
      rintro _ w46 ⟨rfl, hO, hB⟩
      replace H := H.write (i := 0) rfl hB hO
      refine ⟨_, rfl, ?_⟩
      refine (RL_nil (thenQ_n (hK9 _ _ ?_)))
      refine WP_seq_k fun K10 hK10 => ?_
      refine WP_region ?_
      refine RL_do rfl rfl (Do_assign rfl) ?_
      refine (RL_nil (thenQ_n (hK10 _ _ ?_)))
      refine (WP_ret (post1 (v1 := .int _ _) rfl rfl ?_))
      have q := put_3 (f := f) L o c1 q1
      exact ⟨reti q.1.symm, H.only, by rw [q.2]; exact H.blk (i := 0) rfl⟩
end Go.Proofs.YtafgmocdnjdmoaaDoor
