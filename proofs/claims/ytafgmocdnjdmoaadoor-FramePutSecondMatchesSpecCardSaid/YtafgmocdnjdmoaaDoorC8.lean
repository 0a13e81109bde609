/- What the walks and the laws stand on; no condition but those that stand in the statements. -/
import Derived.Test.YtafgmocdnjdmoaaDoorRows
import Derived.Test.YtafgmocdnjdmoaaDoorC7
import Derived.Test.YtafgmocdnjdmoaaDoorDist
namespace Go.Proofs.YtafgmocdnjdmoaaDoor
open Go.RowKit Go.OB Go.Fr1
/-- orangebox/frame.Distance -/
theorem Dist_c (f h_ : List Nat) (hf : f.length = 64) (hg : h_.length = 64) (sf : Small f) (sg : Small h_) (w : World) :
    Calls Tryd.prog 22 #[.agg (wds f).toArray, .agg (wds h_).toArray] w fun e w' => e = .returned (.int .i64 (distN f h_ : Nat)) ∧ Below w.heap.size w w' := by
  refine calls_of_WP (args := [.agg (wds f).toArray, .agg (wds h_).toArray]) 22 Tryd.func22 rfl rfl rfl ?_
  have H := Sep.start [] w
  refine WP_seq_k fun K1 hK1 => ?_
  refine WP_region ?_
  refine RL_ex rfl rfl (Ex_box rfl) ?_
  rintro _ w107 ⟨b17, rfl, hA⟩
  replace H := H.alloc hA
  refine RL_ex rfl rfl (Ex_box rfl) ?_
  rintro _ w108 ⟨b18, rfl, hA⟩
  replace H := H.alloc hA
  refine RL_do rfl rfl (Do_assign rfl) ?_
  refine (RL_nil (thenQ_n (hK1 _ _ ?_)))
  refine WP_seq_k fun K2 hK2 => ?_
  refine WP_region ?_
  refine RL_do rfl rfl (Do_assign rfl) ?_
  refine (RL_nil (thenQ_n (hK2 _ _ ?_)))
  refine WP_seq_k fun K3 hK3 => ?_
  refine WP_seq_k fun K4 hK4 => ?_
  refine WP_region ?_
  refine RL_do rfl rfl (Do_move rfl) ?_
  refine (RL_nil (thenQ_n (hK4 _ _ ?_)))
  refine WP_block ?_
  refine WP_loopS [5, 6, 7, 8, 9, 10, 11, 12, 13, 14, 15, 16, 17, 18, 19, 20] (fun (g : Nat) => [(5, .int .i64 (distTo f h_ g : Nat)), (7, .int .i64 (g : Nat))]) (fun (g : Nat) wl => Sep [] w wl [.blk b17 (wds f) 25, .blk b18 (wds h_) 25] ∧ g ≤ 64) (fun (g : Nat) => 64 - g) (0) (Sl_cons rfl (Sl_cons rfl Sl_nil)) ⟨H, by decide⟩ ?_
  clear H
  rintro k ρ w109 ⟨H, hk⟩
  refine WP_seq_k fun K5 hK5 => ?_
  refine WP_region ?_
  refine RL_do rfl rfl (Do_lss rfl rfl) ?_
  refine (RL_nil (thenQ_n (hK5 _ _ ?_)))
  refine WP_seq_k fun K6 hK6 => ?_
  first | refine WP_if rfl (fun c1 => ?_) (fun c1 => ?_) | refine WP_ifb rfl (fun c1 => ?_) (fun c1 => ?_)
  · skip
    refine (WP_skip (thenQ_n (hK6 _ _ ?_)))
    refine WP_seq_k fun K7 hK7 => ?_
    refine WP_block ?_
    refine WP_seq_k fun K8 hK8 => ?_
    refine WP_region ?_
    refine RL_do rfl rfl (Do_move (v := .int _ _) rfl) ?_
    refine RL_do rfl rfl (Do_assign (v := .int _ _) rfl) ?_
    refine (RL_nil (thenQ_n (hK8 _ _ ?_)))
    refine WP_mix [.pure, .pure, .pure, .read, .pure, .pure, .read, .pure, .read, .pure, .pure] mixed (by kernel_rfl) (by kernel_rfl) (by kernel_rfl) ?_
    refine XL_pure rfl rfl rfl (fun w' => Do_move (v := .int _ _) rfl) ?_
    have q1 := distTo_le f h_ k
    have q2 := pop_le (wd f k ^^^ wd h_ k)
    refine XL_pure rfl rfl rfl (fun w' => Do_move (v := .int _ _) rfl) ?_
    refine XL_pure rfl rfl rfl (fun w' => Do_idxa1 u25 sz23 rfl rfl (by omega) (by omega) (by omega : _ = k) (by first | exact Nat.zero_add _ | rfl)) ?_
    refine XL_read rfl rfl rfl (fun w' hw' => Do_load one23 rfl (Blk.cell (Sep.blk (i := 0) (Sep.sees H hw') rfl) (wds_get (by omega)))) ?_
    refine XL_pure rfl rfl rfl (fun w' => Do_move (v := .int _ _) rfl) ?_
    refine XL_pure rfl rfl rfl (fun w' => Do_idxa1 u25 sz23 rfl rfl (by omega) (by omega) (by omega : _ = k) (by first | exact Nat.zero_add _ | rfl)) ?_
    refine XL_read rfl rfl rfl (fun w' hw' => Do_load one23 rfl (Blk.cell (Sep.blk (i := 1) (Sep.sees H hw') rfl) (wds_get (by omega)))) ?_
    refine XL_pure rfl rfl rfl (fun w' => Do_xor rfl rfl (xor_u16' (wd f k) (wd h_ k) rfl rfl (sf k) (sg k))) ?_
    refine XL_call rfl rfl rfl (fun w' hw' => DoC_func en80 rfl) (fun w' hw' => ones_c _ (wd f k ^^^ wd h_ k) rfl (Nat.xor_lt_two_pow (n := 16) (sf k) (sg k)) w') ?_
    refine XL_pure rfl rfl rfl (fun w' => Do_add rfl rfl (wrap_i64 (by omega) (by omega))) ?_
    refine XL_pure rfl rfl rfl (fun w' => Do_assign (v := .int _ _) rfl) ?_
    refine XL_nil fun w110 hS => ?_
    replace H := H.sees hS
    refine (blockQ_n (thenQ_n (hK7 _ _ ?_)))
    refine WP_region ?_
    refine RL_do rfl rfl (Do_add rfl rfl (wrap_i64 (by omega) (by omega))) ?_
    refine RL_do rfl rfl (Do_move (v := .int _ _) rfl) ?_
    refine (RL_nil (thenQ_n (And.intro ?_ ?_)))
    · repeat' (first | with_reducible exact Fr_refl | refine Fr_upd rfl ?_ | refine Fr_over rfl rfl ?_)
    · refine ⟨k + 1, (Sl_cons (vint (by show _ = ((distTo f h_ k + pop (wd f k ^^^ wd h_ k) : Nat) : Int); omega)) (Sl_cons (vint (by omega)) Sl_nil)), ?_, ?_⟩
      · exact ⟨H, by omega⟩
      · simp; omega
  · skip
    refine (WP_exit (thenQ_x (thenQ_x (blockQ_eq (thenQ_n (hK3 _ _ ?_))))))
    refine WP_seq_k fun K9 hK9 => ?_
    refine WP_region ?_
    refine RL_do rfl rfl (Do_move (v := .int _ _) rfl) ?_
    refine RL_do rfl rfl (Do_assign (v := .int _ _) rfl) ?_
    refine (RL_nil (thenQ_n (hK9 _ _ ?_)))
    refine (WP_ret (post1 (v1 := .int _ _) rfl rfl ?_))
    exact ⟨by rw [distN_eq (show k = 64 by omega)], H.kept⟩

/-- orangebox/orangeboxref1.Distance -/
theorem DistRef_c (f h_ : List Nat) (hf : f.length = 64) (hg : h_.length = 64) (sf : Small f) (sg : Small h_) (w : World) :
    Calls Tryd.prog 23 #[.agg (wds f).toArray, .agg (wds h_).toArray] w fun e w' => e = .returned (.int .i64 (distN f h_ : Nat)) ∧ Below w.heap.size w w' := by
  refine calls_of_WP (args := [.agg (wds f).toArray, .agg (wds h_).toArray]) 29 Tryd.func23 rfl rfl rfl ?_
  have H := Sep.start [] w
  refine WP_seq_k fun K1 hK1 => ?_
  refine WP_region ?_
  refine RL_ex rfl rfl (Ex_box rfl) ?_
  rintro _ w111 ⟨b19, rfl, hA⟩
  replace H := H.alloc hA
  refine RL_ex rfl rfl (Ex_box rfl) ?_
  rintro _ w112 ⟨b20, rfl, hA⟩
  replace H := H.alloc hA
  refine RL_do rfl rfl (Do_assign rfl) ?_
  refine (RL_nil (thenQ_n (hK1 _ _ ?_)))
  refine WP_seq_k fun K2 hK2 => ?_
  refine WP_region ?_
  refine RL_do rfl rfl (Do_assign rfl) ?_
  refine (RL_nil (thenQ_n (hK2 _ _ ?_)))
  refine WP_seq_k fun K3 hK3 => ?_
  refine WP_seq_k fun K4 hK4 => ?_
  refine WP_region ?_
  refine RL_do rfl rfl (Do_move rfl) ?_
  refine (RL_nil (thenQ_n (hK4 _ _ ?_)))
  refine WP_block ?_
  refine WP_loopS [5, 6, 7, 8, 9, 10, 11, 12, 13, 14, 15, 16, 17, 18, 19, 20, 21, 22, 23, 24, 25, 26, 27] (fun (g : Nat) => [(5, .int .i64 (distTo f h_ g : Nat)), (8, .int .i64 (g : Nat))]) (fun (g : Nat) wl => Sep [] w wl [.blk b19 (wds f) 25, .blk b20 (wds h_) 25] ∧ g ≤ 64) (fun (g : Nat) => 64 - g) (0) (Sl_cons rfl (Sl_cons rfl Sl_nil)) ⟨H, by decide⟩ ?_
  clear H
  rintro k ρ w113 ⟨H, hk⟩
  refine WP_seq_k fun K5 hK5 => ?_
  refine WP_region ?_
  refine RL_do rfl rfl (Do_lss rfl rfl) ?_
  refine (RL_nil (thenQ_n (hK5 _ _ ?_)))
  refine WP_seq_k fun K6 hK6 => ?_
  first | refine WP_if rfl (fun c1 => ?_) (fun c1 => ?_) | refine WP_ifb rfl (fun c1 => ?_) (fun c1 => ?_)
  · skip
    refine (WP_skip (thenQ_n (hK6 _ _ ?_)))
    refine WP_seq_k fun K7 hK7 => ?_
    refine WP_block ?_
    refine WP_seq_k fun K8 hK8 => ?_
    refine WP_region ?_
    refine RL_do rfl rfl (Do_move (v := .int _ _) rfl) ?_
    have q1 := distTo_le f h_ k
    have q2 := pop_le (wd f k ^^^ wd h_ k)
    have q3 : wd f k ^^^ wd h_ k < 65536 := Nat.xor_lt_two_pow (n := 16) (sf k) (sg k)
    refine RL_do rfl rfl (Do_assign (v := .int _ _) rfl) ?_
    refine (RL_nil (thenQ_n (hK8 _ _ ?_)))
    refine WP_seq_k fun K9 hK9 => ?_
    refine WP_mix [.pure, .pure, .read, .pure, .pure, .read, .pure, .pure] mixed (by kernel_rfl) (by kernel_rfl) (by kernel_rfl) ?_
    refine XL_pure rfl rfl rfl (fun w' => Do_move (v := .int _ _) rfl) ?_
    refine XL_pure rfl rfl rfl (fun w' => Do_idxa1 u25 sz23 rfl rfl (by omega) (by omega) (by omega : _ = k) (by first | exact Nat.zero_add _ | rfl)) ?_
    refine XL_read rfl rfl rfl (fun w' hw' => Do_load one23 rfl (Blk.cell (Sep.blk (i := 0) (Sep.sees H hw') rfl) (wds_get (by omega)))) ?_
    refine XL_pure rfl rfl rfl (fun w' => Do_move (v := .int _ _) rfl) ?_
    refine XL_pure rfl rfl rfl (fun w' => Do_idxa1 u25 sz23 rfl rfl (by omega) (by omega) (by omega : _ = k) (by first | exact Nat.zero_add _ | rfl)) ?_
    refine XL_read rfl rfl rfl (fun w' hw' => Do_load one23 rfl (Blk.cell (Sep.blk (i := 1) (Sep.sees H hw') rfl) (wds_get (by omega)))) ?_
    refine XL_pure rfl rfl rfl (fun w' => Do_xor rfl rfl (xor_u16' (wd f k) (wd h_ k) rfl rfl (sf k) (sg k))) ?_
    refine XL_pure rfl rfl rfl (fun w' => Do_assign (v := .int _ _) rfl) ?_
    refine XL_nil fun w114 hS => ?_
    replace H := H.sees hS
    refine (thenQ_n (hK9 _ _ ?_))
    refine WP_block ?_
    refine WP_loopS2 [5, 7, 18, 19, 20, 21, 22, 23, 24, 25, 26] (fun (g : Nat) (h : Nat) => [(7, .int .u16 (g : Nat)), (5, .int .i64 (h : Nat))]) (fun (g : Nat) (h : Nat) wl => Sep [] w wl [.blk b19 (wds f) 25, .blk b20 (wds h_) 25] ∧ g ≤ wd f k ^^^ wd h_ k ∧ h + pop g = distTo f h_ k + pop (wd f k ^^^ wd h_ k)) (fun (g : Nat) (h : Nat) => g) (wd f k ^^^ wd h_ k) (distTo f h_ k) (Sl_cons rfl (Sl_cons rfl Sl_nil)) ⟨H, ⟨Nat.le_refl _, rfl⟩⟩ ?_
    clear H
    rintro m n ρ w115 ⟨H, ⟨hm, hn⟩⟩
    refine WP_seq_k fun K10 hK10 => ?_
    refine WP_seq_k fun K11 hK11 => ?_
    refine WP_region ?_
    refine RL_do rfl rfl (Do_move (v := .int _ _) rfl) ?_
    refine RL_do rfl rfl (Do_gtr rfl rfl) ?_
    refine (RL_nil (thenQ_n (hK11 _ _ ?_)))
    first | refine WP_if rfl (fun c2 => ?_) (fun c2 => ?_) | refine WP_ifb rfl (fun c2 => ?_) (fun c2 => ?_)
    · skip
      refine (WP_skip (thenQ_n (hK10 _ _ ?_)))
      refine WP_seq_k fun K12 hK12 => ?_
      refine WP_block ?_
      refine WP_region ?_
      refine RL_do rfl rfl (Do_move (v := .int _ _) rfl) ?_
      refine RL_do rfl rfl (Do_move (v := .int _ _) rfl) ?_
      refine RL_do rfl rfl (Do_rem rfl rfl (by omega) (by omega)) ?_
      refine RL_do rfl rfl (Do_conv u23 u3 rfl (wrap_i64 (by omega) (by omega))) ?_
      refine RL_do rfl rfl (Do_add rfl rfl (wrap_i64 (by omega) (by omega))) ?_
      refine RL_do rfl rfl (Do_assign (v := .int _ _) rfl) ?_
      refine (RL_nil (blockQ_n (thenQ_n (hK12 _ _ ?_))))
      refine WP_region ?_
      refine RL_do rfl rfl (Do_move (v := .int _ _) rfl) ?_
      refine RL_do rfl rfl (Do_quo rfl rfl (by omega) (by omega) (wrap_u16 (by omega) (by omega))) ?_
      refine RL_do rfl rfl (Do_assign (v := .int _ _) rfl) ?_
      refine (RL_nil (thenQ_n (And.intro ?_ ?_)))
      · repeat' (first | with_reducible exact Fr_refl | refine Fr_upd rfl ?_ | refine Fr_over rfl rfl ?_)
      · refine ⟨m / 2, n + m % 2, (Sl_cons (vint (by omega)) (Sl_cons (vint (by omega)) Sl_nil)), ?_, ?_⟩
        · exact ⟨H, by omega, by rw [← hn, pop_half (m := m) (by omega)]; omega⟩
        · omega
    · skip
      refine (WP_exit (thenQ_x (thenQ_x (blockQ_eq (blockQ_n (thenQ_n (hK7 _ _ ?_)))))))
      refine WP_region ?_
      (obtain rfl : m = 0 := by omega)
      rw [pop_zero] at hn
      refine RL_do rfl rfl (Do_add rfl rfl (wrap_i64 (by omega) (by omega))) ?_
      refine RL_do rfl rfl (Do_move (v := .int _ _) rfl) ?_
      refine (RL_nil (thenQ_n (And.intro ?_ ?_)))
      · repeat' (first | with_reducible exact Fr_refl | refine Fr_upd rfl ?_ | refine Fr_over rfl rfl ?_)
      · refine ⟨k + 1, (Sl_cons (vint (by show _ = ((distTo f h_ k + pop (wd f k ^^^ wd h_ k) : Nat) : Int); omega)) (Sl_cons (vint (by omega)) Sl_nil)), ?_, ?_⟩
        · exact ⟨H, by omega⟩
        · simp; omega
  · skip
    refine (WP_exit (thenQ_x (thenQ_x (blockQ_eq (thenQ_n (hK3 _ _ ?_))))))
    refine WP_seq_k fun K13 hK13 => ?_
    refine WP_region ?_
    refine RL_do rfl rfl (Do_move (v := .int _ _) rfl) ?_
    refine RL_do rfl rfl (Do_assign (v := .int _ _) rfl) ?_
    refine (RL_nil (thenQ_n (hK13 _ _ ?_)))
    refine (WP_ret (post1 (v1 := .int _ _) rfl rfl ?_))
    exact ⟨by rw [distN_eq (show k = 64 by omega)], H.kept⟩
end Go.Proofs.YtafgmocdnjdmoaaDoor
