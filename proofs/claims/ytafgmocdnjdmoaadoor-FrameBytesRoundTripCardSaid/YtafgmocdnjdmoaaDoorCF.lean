/- Walks: what each function computes, for every argument; no condition but those that stand in the statements. -/
import Derived.Test.YtafgmocdnjdmoaaDoorRows
import Derived.Test.YtafgmocdnjdmoaaDoorC22
import Derived.Test.YtafgmocdnjdmoaaDoorVals
import Derived.Test.YtafgmocdnjdmoaaDoorFrm4
namespace Go.Proofs.YtafgmocdnjdmoaaDoor
open Go.RowKit Go.OB Go.Fr1
/-- orangebox/frame.Number -/
theorem Number_c (f : List Nat) (hl : f.length = 64) (hs : Small f) (w : World) :
    Calls Tryd.prog 46 #[.agg (wds f).toArray] w fun e w' => e = .returned (.tuple #[.int .i64 (numR f).1, .bool (numR f).2]) ∧ Below w.heap.size w w' := by
  have q1 := hs 1
  have q2 := hs 2
  refine calls_of_WP (args := [.agg (wds f).toArray]) 15 Tryd.func46 rfl rfl rfl ?_
  have H := Sep.start [] w
  refine WP_seq_k fun K1 hK1 => ?_
  refine WP_region ?_
  refine RL_ex rfl rfl (Ex_box rfl) ?_
  rintro _ w254 ⟨b49, rfl, hA⟩
  replace H := H.alloc hA
  refine RL_do rfl rfl (Do_assign rfl) ?_
  refine RL_do rfl rfl (Do_assign rfl) ?_
  refine (RL_nil (thenQ_n (hK1 _ _ ?_)))
  refine WP_seq_k fun K2 hK2 => ?_
  refine WP_seq_k fun K3 hK3 => ?_
  refine WP_region ?_
  refine RL_do rfl rfl (Do_idxa1 u25 sz23 rfl rfl (by omega) (by omega) (rfl : _ = 1) (by first | exact Nat.zero_add _ | rfl)) ?_
  refine RL_do rfl rfl (Do_load one23 rfl (Blk.cell (Sep.blk (i := 0) H rfl) (wds_get (by omega)))) ?_
  refine RL_call rfl rfl (DoC_func en86 rfl) (odd_c _ (wd f 1) rfl (by omega) w254) ?_
  rintro _ w255 ⟨rfl, hB⟩
  replace H := H.below hB
  refine ⟨_, rfl, ?_⟩
  refine RL_do rfl rfl (Do_not' rfl) ?_
  first | refine RL_split rfl rfl rfl (fun c1 => ?_) (fun c1 => ?_) | refine RL_splitb rfl rfl rfl (fun c1 => ?_) (fun c1 => ?_)
  · skip
    refine RL_off rfl rfl ?_
    refine RL_off rfl rfl ?_
    refine RL_off rfl rfl ?_
    refine RL_off rfl rfl ?_
    refine RL_do rfl rfl (Do_pick_t (v := .bool _) rfl rfl) ?_
    refine (RL_nil (thenQ_n (hK3 _ _ ?_)))
    refine WP_ift rfl ?_
    refine WP_seq_k fun K4 hK4 => ?_
    refine WP_region ?_
    refine RL_do rfl rfl (Do_assign rfl) ?_
    refine RL_do rfl rfl (Do_assign rfl) ?_
    refine (RL_nil (thenQ_n (hK4 _ _ ?_)))
    refine (WP_ret (thenQ_r (post2 (v1 := .int _ _) (v2 := .bool _) rfl rfl rfl ?_)))
    exact ⟨by rw [numR_1 (fun h => by first | exact (by assumption : ¬ _) h.1 | exact (by assumption : ¬ _) h.2)], H.kept⟩
  · skip
    refine RL_do rfl rfl (Do_idxa1 u25 sz23 rfl rfl (by omega) (by omega) (rfl : _ = 2) (by first | exact Nat.zero_add _ | rfl)) ?_
    refine RL_do rfl rfl (Do_load one23 rfl (Blk.cell (Sep.blk (i := 0) H rfl) (wds_get (by omega)))) ?_
    refine RL_call rfl rfl (DoC_func en86 rfl) (odd_c _ (wd f 2) rfl (by omega) w255) ?_
    rintro _ w256 ⟨rfl, hB⟩
    replace H := H.below hB
    refine ⟨_, rfl, ?_⟩
    refine RL_do rfl rfl (Do_not' rfl) ?_
    refine RL_do rfl rfl (Do_pick_f (v := .bool _) rfl rfl) ?_
    refine (RL_nil (thenQ_n (hK3 _ _ ?_)))
    first | refine WP_if rfl (fun c2 => ?_) (fun c2 => ?_) | refine WP_ifb rfl (fun c2 => ?_) (fun c2 => ?_)
    · skip
      refine WP_seq_k fun K5 hK5 => ?_
      refine WP_region ?_
      refine RL_do rfl rfl (Do_assign rfl) ?_
      refine RL_do rfl rfl (Do_assign rfl) ?_
      refine (RL_nil (thenQ_n (hK5 _ _ ?_)))
      refine (WP_ret (thenQ_r (post2 (v1 := .int _ _) (v2 := .bool _) rfl rfl rfl ?_)))
      exact ⟨by rw [numR_1 (fun h => by first | exact (by assumption : ¬ _) h.1 | exact (by assumption : ¬ _) h.2)], H.kept⟩
    · skip
      refine (WP_skip (thenQ_n (hK2 _ _ ?_)))
      refine WP_seq_k fun K6 hK6 => ?_
      refine WP_region ?_
      refine RL_call rfl rfl (DoC_func en91 rfl) (number_c f hl hs _ _ w256 (Blk.cells (Sep.blk (i := 0) H rfl))) ?_
      rintro _ w257 ⟨rfl, hB⟩
      replace H := H.below hB
      refine ⟨_, rfl, ?_⟩
      refine RL_do rfl rfl (Do_assign (v := .int _ _) rfl) ?_
      refine RL_do rfl rfl (Do_assign rfl) ?_
      refine (RL_nil (thenQ_n (hK6 _ _ ?_)))
      refine (WP_ret (post2 (v1 := .int _ _) (v2 := .bool _) rfl rfl rfl ?_))
      exact ⟨by rw [numR_2 (Decidable.of_not_not (by assumption)) (Decidable.of_not_not (by assumption))], H.kept⟩

/-- orangebox/frame.Seal -/
theorem Seal_c (f : List Nat) (hl : f.length = 64) (hs : Small f) (w : World) (hg : Cells w ⟨0, 0, none⟩ (wds tab)) (hw0 : 0 < w.heap.size) :
    Calls Tryd.prog 48 #[.agg (wds f).toArray] w fun e w' => e = .returned (.tuple #[.agg (wds (if wideN f then zero64 else finN (sealF f))).toArray, .int .i64 (if wideN f then 9 else 0)]) ∧ Below w.heap.size w w' := by
  refine calls_of_WP (args := [.agg (wds f).toArray]) 22 Tryd.func48 rfl rfl rfl ?_
  have H := Sep.start [] w
  refine WP_seq_k fun K1 hK1 => ?_
  refine WP_region ?_
  refine RL_ex rfl rfl (Ex_box rfl) ?_
  rintro _ w258 ⟨b50, rfl, hA⟩
  replace H := H.alloc hA
  refine RL_ex rfl rfl (Ex_alloc zero25) ?_
  rintro _ w259 ⟨b51, rfl, hA⟩
  replace H := H.alloc hA
  refine RL_do rfl rfl (Do_assign rfl) ?_
  refine (RL_nil (thenQ_n (hK1 _ _ ?_)))
  refine WP_seq_k fun K2 hK2 => ?_
  refine WP_seq_k fun K3 hK3 => ?_
  refine WP_region ?_
  refine RL_call rfl rfl (DoC_func en78 rfl) (wide_c f hl hs _ 0 w259 (Blk.cells (Sep.blk (i := 0) H rfl))) ?_
  rintro _ w260 ⟨rfl, hB⟩
  replace H := H.below hB
  refine ⟨_, rfl, ?_⟩
  refine (RL_nil (thenQ_n (hK3 _ _ ?_)))
  first | refine WP_if rfl (fun c1 => ?_) (fun c1 => ?_) | refine WP_ifb rfl (fun c1 => ?_) (fun c1 => ?_)
  · skip
    refine WP_seq_k fun K4 hK4 => ?_
    refine WP_region ?_
    refine RL_do rfl rfl (Do_build (cs := zs25) bz25) ?_
    refine RL_exU rfl (Ex_storeAll sz25 (by simp [wds_length, bys_length, hl, sealF_len, finN_len]) rfl rfl (by simp [Value.oneCell']) (Sep.blk (i := 1) H rfl) (by simp [wds_length, bys_length, hl, sealF_len, finN_len])) ?_
    rintro w261 hW
    replace H := H.wr (i := 1) rfl hW
    refine RL_do rfl rfl (Do_assign rfl) ?_
    refine (RL_nil (thenQ_n (hK4 _ _ ?_)))
    refine (WP_ret (thenQ_r (postc1 (v1 := .int _ _) rfl rfl (run_loadVar_agg agg25 sz25 (by simp [wds_length, bys_length, hl, sealF_len, finN_len]) (Blk.cells (Sep.blk (i := 1) H rfl))) rfl ?_)))
    exact ⟨by rw [if_pos (by assumption), if_pos (by assumption)]; exact congrArg (fun l : List Value => Ending.returned (.tuple #[.agg l.toArray, _])) wds_zero, H.kept⟩
  · skip
    refine (WP_skip (thenQ_n (hK2 _ _ ?_)))
    refine WP_seq_k fun K5 hK5 => ?_
    refine WP_seq_k fun K6 hK6 => ?_
    refine WP_region ?_
    refine RL_do rfl rfl (Do_move rfl) ?_
    refine (RL_nil (thenQ_n (hK6 _ _ ?_)))
    refine WP_block ?_
    refine WP_loopS [4, 7, 8, 9, 10, 11, 12, 13, 14, 15, 16, 17, 18, 19] (fun (g : Nat) => [(7, .int .i64 (g : Nat))]) (fun (g : Nat) wl => Sep [] w wl [.blk b50 (wds (sealTo f g)) 25, .blk b51 (List.replicate 64 (.int .u16 0)) 25] ∧ g ≤ 60) (fun (g : Nat) => 60 - g) (0) (Sl_cons rfl Sl_nil) ⟨H, by decide⟩ ?_
    clear H
    rintro k ρ w262 ⟨H, hk⟩
    refine WP_seq_k fun K7 hK7 => ?_
    refine WP_region ?_
    refine RL_do rfl rfl (Do_lss rfl rfl) ?_
    refine (RL_nil (thenQ_n (hK7 _ _ ?_)))
    refine WP_seq_k fun K8 hK8 => ?_
    first | refine WP_if rfl (fun c2 => ?_) (fun c2 => ?_) | refine WP_ifb rfl (fun c2 => ?_) (fun c2 => ?_)
    · skip
      refine (WP_skip (thenQ_n (hK8 _ _ ?_)))
      refine WP_seq_k fun K9 hK9 => ?_
      refine WP_block ?_
      refine WP_seq_k fun K10 hK10 => ?_
      refine WP_region ?_
      refine RL_do rfl rfl (Do_move (v := .int _ _) rfl) ?_
      refine RL_do rfl rfl (Do_assign (v := .int _ _) rfl) ?_
      refine (RL_nil (thenQ_n (hK10 _ _ ?_)))
      refine WP_region ?_
      refine RL_do rfl rfl (Do_move (v := .int _ _) rfl) ?_
      have q1 := sealTo_wd hl k (by omega) (k + 1)
      rw [if_neg (by omega)] at q1
      have q2 := hs (k + 1)
      have q3 := wordN_lt (d := wd f (k + 1) % 2048) (by omega)
      refine RL_do rfl rfl (Do_add rfl rfl (wrap_i64 (by omega) (by omega))) ?_
      refine RL_do rfl rfl (Do_move (v := .int _ _) rfl) ?_
      refine RL_do rfl rfl (Do_add rfl rfl (wrap_i64 (by omega) (by omega))) ?_
      refine RL_do rfl rfl (Do_idxa1 u25 sz23 rfl rfl (by omega) (by omega) (by omega : _ = k + 1) (by first | exact Nat.zero_add _ | rfl)) ?_
      refine RL_do rfl rfl (Do_load one23 rfl (Blk.cell (Sep.blk (i := 0) H rfl) (wds_get (by rw [sealTo_len]; omega)))) ?_
      refine RL_call rfl rfl (DoC_func en85 rfl) (data_c _ (by omega) (by omega) w262) ?_
      rintro _ w263 ⟨rfl, hB⟩
      replace H := H.below hB
      refine ⟨_, rfl, ?_⟩
      refine RL_call rfl rfl (DoC_func en83 rfl) (word_c _ (wd f (k + 1) % 2048) (by omega) (by omega) w263) ?_
      rintro _ w264 ⟨rfl, hB⟩
      replace H := H.below hB
      refine ⟨_, rfl, ?_⟩
      refine RL_do rfl rfl (Do_idxa1 u25 sz23 rfl rfl (by omega) (by omega) (by omega : _ = k + 1) (by first | exact Nat.zero_add _ | rfl)) ?_
      refine RL_exU rfl (Ex_store1 sz23 rfl rfl rfl (Sep.blk (i := 0) H rfl) (by simp [wds_length, sealTo_len]; omega)) ?_
      rintro w265 hW
      replace H := H.wr (i := 0) rfl hW
      replace H := H.conv (i := 0) rfl (wds_set _ (k + 1) _ : _ = wds (sealTo f (k + 1)))
      refine (RL_nil (blockQ_n (thenQ_n (hK9 _ _ ?_))))
      refine WP_region ?_
      refine RL_do rfl rfl (Do_add rfl rfl (wrap_i64 (by omega) (by omega))) ?_
      refine RL_do rfl rfl (Do_move (v := .int _ _) rfl) ?_
      refine (RL_nil (thenQ_n (And.intro ?_ ?_)))
      · repeat' (first | with_reducible exact Fr_refl | refine Fr_upd rfl ?_ | refine Fr_over rfl rfl ?_)
      · refine ⟨k + 1, (Sl_cons (by first | rfl | exact congrArg (Value.int _) (by omega)) Sl_nil), ?_, ?_⟩
        · exact ⟨H, by omega⟩
        · simp; omega
    · skip
      refine (WP_exit (thenQ_x (thenQ_x (blockQ_eq (thenQ_n (hK5 _ _ ?_))))))
      refine WP_seq_k fun K11 hK11 => ?_
      refine WP_region ?_
      (obtain rfl : k = 60 := by omega)
      replace H := H.conv (i := 0) rfl (congrArg wds (sealF_eq rfl))
      have ls := (sealF_len f).trans hl
      have ss := sealF_small hs
      refine RL_call rfl rfl (DoC_func en89 rfl) (finish_c (sealF f) ls ss _ (by have := Sep.ge0 (i := 0) H rfl; omega) w262 (hg.only (Sep.only H) (by simp)) (Sep.blk (i := 0) H rfl)) ?_
      rintro _ w266 ⟨rfl, hO, hB⟩
      replace H := H.write (i := 0) rfl hB hO
      refine ⟨_, rfl, ?_⟩
      refine (RL_nil (thenQ_n (hK11 _ _ ?_)))
      refine WP_seq_k fun K12 hK12 => ?_
      refine WP_region ?_
      refine RL_do rfl rfl (Do_loads agg25 rfl sz25 (by simp [wds_length, bys_length, hl, sealF_len, finN_len]) (Blk.cells (Sep.blk (i := 0) H rfl))) ?_
      refine RL_exU rfl (Ex_storeAll sz25 (by simp [wds_length, bys_length, hl, sealF_len, finN_len]) rfl rfl (one_wds) (Sep.blk (i := 1) H rfl) (by simp [wds_length, bys_length, hl, sealF_len, finN_len])) ?_
      rintro w267 hW
      replace H := H.wr (i := 1) rfl hW
      refine RL_do rfl rfl (Do_assign rfl) ?_
      refine (RL_nil (thenQ_n (hK12 _ _ ?_)))
      refine (WP_ret (postc1 (v1 := .int _ _) rfl rfl (run_loadVar_agg agg25 sz25 (by simp [wds_length, bys_length, hl, sealF_len, finN_len]) (Blk.cells (Sep.blk (i := 1) H rfl))) rfl ?_))
      exact ⟨by rw [if_neg (by assumption), if_neg (by assumption)], H.kept⟩
end Go.Proofs.YtafgmocdnjdmoaaDoor
namespace Go.Proofs.YtafgmocdnjdmoaaDoor
open Go.RowKit Go.OB Go.Fr1
/-- slices.Equal[[]int,int] -/
theorem eqI_c (v1 v2 : Value) (m1 m2 : Nat) (l1 l2 : List Int) (e1 : l1.length = m1) (e2 : l2.length = m2) (w : World) (h1 : SlR w v1 1 m1 (ints l1)) (h2 : SlR w v2 1 m2 (ints l2)) :
    Calls Tryd.prog 49 #[v1, v2] w fun e w' => e = .returned (.bool (decide (l1 = l2))) ∧ Below w.heap.size w w' := by
  refine calls_of_WP (args := [v1, v2]) 26 Tryd.func49 rfl rfl rfl ?_
  obtain ⟨va, vc, rfl⟩ := h1.shape
  obtain ⟨ua, uc, rfl⟩ := h2.shape
  have i1 := h1.inner
  have i2 := h2.inner
  have H := Sep.start [] w
  refine WP_seq_k fun K1 hK1 => ?_
  refine WP_region ?_
  refine RL_do rfl rfl (Do_assign rfl) ?_
  refine (RL_nil (thenQ_n (hK1 _ _ ?_)))
  refine WP_seq_k fun K2 hK2 => ?_
  refine WP_seq_k fun K3 hK3 => ?_
  refine WP_region ?_
  refine RL_do rfl rfl (Do_move (v := .slice _ _ _) rfl) ?_
  refine RL_do rfl rfl (Do_len u46 rfl) ?_
  refine RL_do rfl rfl (Do_move (v := .slice _ _ _) rfl) ?_
  refine RL_do rfl rfl (Do_len u46 rfl) ?_
  refine RL_do rfl rfl (Do_neq rfl rfl) ?_
  refine (RL_nil (thenQ_n (hK3 _ _ ?_)))
  first | refine WP_if rfl (fun c1 => ?_) (fun c1 => ?_) | refine WP_ifb rfl (fun c1 => ?_) (fun c1 => ?_)
  · skip
    refine WP_seq_k fun K4 hK4 => ?_
    refine WP_region ?_
    refine RL_do rfl rfl (Do_assign rfl) ?_
    refine (RL_nil (thenQ_n (hK4 _ _ ?_)))
    refine (WP_ret (thenQ_r (post1 (v1 := .bool _) rfl rfl ?_)))
    exact ⟨retbf (fun h => by subst h; omega), H.kept⟩
  · skip
    refine (WP_skip (thenQ_n (hK2 _ _ ?_)))
    refine WP_seq_k fun K5 hK5 => ?_
    refine WP_seq_k fun K6 hK6 => ?_
    refine WP_region ?_
    refine RL_do rfl rfl (Do_move (v := .slice _ _ _) rfl) ?_
    refine RL_do rfl rfl (Do_len u46 rfl) ?_
    refine RL_do rfl rfl (Do_move rfl) ?_
    refine (RL_nil (thenQ_n (hK6 _ _ ?_)))
    refine WP_block ?_
    refine WP_loopS [4, 5, 13, 14, 15, 16, 17, 18, 19, 20, 21, 22, 23, 24, 25] (fun (g : Nat) => [(13, .int .i64 (g : Nat))]) (fun (g : Nat) wl => Sep [] w wl [] ∧ g ≤ m1 ∧ ∀ i, i < g → l1.getD i 0 = l2.getD i 0) (fun (g : Nat) => m1 - g) (0) (Sl_cons rfl Sl_nil) ⟨H, ⟨Nat.zero_le _, fun i h => by omega⟩⟩ ?_
    clear H
    rintro k ρ w268 ⟨H, ⟨hk, hi⟩⟩
    refine WP_seq_k fun K7 hK7 => ?_
    refine WP_region ?_
    refine RL_do rfl rfl (Do_lss rfl rfl) ?_
    refine (RL_nil (thenQ_n (hK7 _ _ ?_)))
    refine WP_seq_k fun K8 hK8 => ?_
    first | refine WP_if rfl (fun c2 => ?_) (fun c2 => ?_) | refine WP_ifb rfl (fun c2 => ?_) (fun c2 => ?_)
    · skip
      refine (WP_skip (thenQ_n (hK8 _ _ ?_)))
      refine WP_seq_k fun K9 hK9 => ?_
      refine WP_block ?_
      refine WP_seq_k fun K10 hK10 => ?_
      refine WP_region ?_
      refine RL_do rfl rfl (Do_move (v := .int _ _) rfl) ?_
      refine RL_do rfl rfl (Do_assign (v := .int _ _) rfl) ?_
      refine (RL_nil (thenQ_n (hK10 _ _ ?_)))
      refine WP_seq_k fun K11 hK11 => ?_
      refine WP_mix [.pure, .pure, .pure, .read, .pure, .pure, .pure, .read, .pure] mixed (by kernel_rfl) (by kernel_rfl) (by kernel_rfl) ?_
      obtain ⟨b1_, o1, d1, q1, p1, p2, c1_⟩ := h1.some (by omega)
      obtain ⟨b2_, o2, d2, q2, p3, p4, c2_⟩ := h2.some (by omega)
      cases q1
      cases q2
      refine XL_pure rfl rfl rfl (fun w' => Do_move (v := .slice _ _ _) rfl) ?_
      refine XL_pure rfl rfl rfl (fun w' => Do_move (v := .int _ _) rfl) ?_
      refine XL_pure rfl rfl rfl (fun w' => Do_idx1 u46 sz3 rfl rfl (by omega) (by omega) (by omega : _ = k) (by first | exact Nat.zero_add _ | rfl)) ?_
      refine XL_read rfl rfl rfl (fun w' hw' => Do_load one3 rfl (Cells.get (c1_.only (Sep.only (Sep.sees H hw')) (by simp)) (ints_get (by omega)))) ?_
      refine XL_pure rfl rfl rfl (fun w' => Do_move (v := .slice _ _ _) rfl) ?_
      refine XL_pure rfl rfl rfl (fun w' => Do_move (v := .int _ _) rfl) ?_
      refine XL_pure rfl rfl rfl (fun w' => Do_idx1 u46 sz3 rfl rfl (by omega) (by omega) (by omega : _ = k) (by first | exact Nat.zero_add _ | rfl)) ?_
      refine XL_read rfl rfl rfl (fun w' hw' => Do_load one3 rfl (Cells.get (c2_.only (Sep.only (Sep.sees H hw')) (by simp)) (ints_get (by omega)))) ?_
      refine XL_pure rfl rfl rfl (fun w' => Do_neq rfl rfl) ?_
      refine XL_nil fun w269 hS => ?_
      replace H := H.sees hS
      refine (thenQ_n (hK11 _ _ ?_))
      first | refine WP_if rfl (fun c3 => ?_) (fun c3 => ?_) | refine WP_ifb rfl (fun c3 => ?_) (fun c3 => ?_)
      · skip
        refine WP_seq_k fun K12 hK12 => ?_
        refine WP_region ?_
        refine RL_do rfl rfl (Do_assign rfl) ?_
        refine (RL_nil (thenQ_n (hK12 _ _ ?_)))
        refine (WP_ret (blockQ_r (thenQ_r (thenQ_r (blockQ_r (thenQ_r (post1 (v1 := .bool _) rfl rfl ?_)))))))
        exact ⟨retbf (fun h => by subst h; omega), H.kept⟩
      · skip
        refine (WP_skip (blockQ_n (thenQ_n (hK9 _ _ ?_))))
        refine WP_region ?_
        refine RL_do rfl rfl (Do_add rfl rfl (wrap_i64 (by omega) (by omega))) ?_
        refine RL_do rfl rfl (Do_move (v := .int _ _) rfl) ?_
        refine (RL_nil (thenQ_n (And.intro ?_ ?_)))
        · repeat' (first | with_reducible exact Fr_refl | refine Fr_upd rfl ?_ | refine Fr_over rfl rfl ?_)
        · refine ⟨k + 1, (Sl_cons (by first | rfl | exact congrArg (Value.int _) (by omega)) Sl_nil), ?_, ?_⟩
          · exact ⟨H, by omega, upto_succ hi (by omega)⟩
          · omega
    · skip
      refine (WP_exit (thenQ_x (thenQ_x (blockQ_eq (thenQ_n (hK5 _ _ ?_))))))
      refine WP_seq_k fun K13 hK13 => ?_
      refine WP_region ?_
      refine RL_do rfl rfl (Do_assign rfl) ?_
      refine (RL_nil (thenQ_n (hK13 _ _ ?_)))
      refine (WP_ret (post1 (v1 := .bool _) rfl rfl ?_))
      exact ⟨retbt (ext_ints (by omega) (fun i h => hi i (by omega))), H.kept⟩
end Go.Proofs.YtafgmocdnjdmoaaDoor
namespace Go.Proofs.YtafgmocdnjdmoaaDoor
open Go.RowKit Go.OB Go.Fr1
theorem u70 : Tryd.prog.underlying 70 = some (.slice 4) := Tryd.underlying70
theorem u120 : Tryd.prog.underlying 120 = some (.slice 23) := Tryd.underlying120
theorem el4 : El Tryd.prog 4 1 1 ([.bool false]) := ⟨by kernel_rfl, by kernel_rfl, by kernel_rfl, by decide, by decide⟩
/-- orangebox/frame.Values -/
theorem Values_c (f : List Nat) (hl : f.length = 64) (hs : Small f) (w : World) :
    Calls Tryd.prog 47 #[.agg (wds f).toArray] w fun e w' => ∃ v1 v2, e = .returned (.tuple #[v1, v2]) ∧ w'.ownsRow w.heap.size 3 1 v1 58 (nats (valF f)) ∧ w'.ownsRow w.heap.size 4 1 v2 58 (bls (rightF f)) ∧ Below w.heap.size w w' := by
  refine calls_of_WP (args := [.agg (wds f).toArray]) 31 Tryd.func47 rfl rfl rfl ?_
  have H := Sep.start [] w
  refine WP_seq_k fun K1 hK1 => ?_
  refine WP_region ?_
  refine RL_ex rfl rfl (Ex_box rfl) ?_
  rintro _ w270 ⟨b52, rfl, hA⟩
  replace H := H.alloc hA
  refine RL_do rfl rfl (Do_assign rfl) ?_
  refine RL_do rfl rfl (Do_assign rfl) ?_
  refine (RL_nil (thenQ_n (hK1 _ _ ?_)))
  refine WP_seq_k fun K2 hK2 => ?_
  refine WP_region ?_
  refine RL_do rfl rfl (Do_assign rfl) ?_
  replace H := H.nil 3 1
  refine (RL_nil (thenQ_n (hK2 _ _ ?_)))
  refine WP_seq_k fun K3 hK3 => ?_
  refine WP_region ?_
  refine RL_do rfl rfl (Do_assign rfl) ?_
  replace H := H.nil 4 1
  refine (RL_nil (thenQ_n (hK3 _ _ ?_)))
  refine WP_seq_k fun K4 hK4 => ?_
  refine WP_seq_k fun K5 hK5 => ?_
  refine WP_region ?_
  refine RL_do rfl rfl (Do_slicea_in (m := 3) u25 sz23 (i := 3) (j := 58) rfl rfl rfl rfl rfl (by decide) (by decide) rfl) ?_
  refine RL_do rfl rfl (Do_len u120 rfl) ?_
  refine RL_do rfl rfl (Do_move rfl) ?_
  refine (RL_nil (thenQ_n (hK5 _ _ ?_)))
  refine WP_block ?_
  refine WP_loopS3 [4, 5, 7, 8, 11, 12, 13, 14, 15, 16, 17, 18, 19, 20, 21, 22, 23, 24, 25, 26, 27, 28] (fun (g : Nat) (h : Value) (j : Value) => [(11, .int .i64 (g : Nat)), (4, h), (5, j)]) (fun (g : Nat) (h : Value) (j : Value) wl => Sep [] w wl [.blk b52 (wds f) 25, .sl h 3 1 (g) (nats (valTo f (g))), .sl j 4 1 (g) (bls (rightTo f (g)))] ∧ g ≤ 58) (fun (g : Nat) (h : Value) (j : Value) => 58 - g) (0) (.slice none 0 0) (.slice none 0 0) (Sl_cons rfl (Sl_cons rfl (Sl_cons rfl Sl_nil))) ⟨H, by decide⟩ ?_
  clear H
  rintro k va vb ρ w271 ⟨H, hk⟩
  refine WP_seq_k fun K6 hK6 => ?_
  refine WP_region ?_
  refine RL_do rfl rfl (Do_lss rfl rfl) ?_
  refine (RL_nil (thenQ_n (hK6 _ _ ?_)))
  refine WP_seq_k fun K7 hK7 => ?_
  first | refine WP_if rfl (fun c1 => ?_) (fun c1 => ?_) | refine WP_ifb rfl (fun c1 => ?_) (fun c1 => ?_)
  · skip
    refine (WP_skip (thenQ_n (hK7 _ _ ?_)))
    refine WP_seq_k fun K8 hK8 => ?_
    refine WP_block ?_
    refine WP_seq_k fun K9 hK9 => ?_
    refine WP_region ?_
    refine RL_do rfl rfl (Do_idx1 u120 sz23 rfl rfl (by omega) (by omega) (by omega : _ = k) (by first | exact Nat.zero_add _ | rfl)) ?_
    have q1 := hs (3 + k)
    refine RL_do rfl rfl (Do_load one23 rfl (Blk.cell (Sep.blk (i := 0) H rfl) (wds_get (by omega)))) ?_
    refine RL_do rfl rfl (Do_assign (v := .int _ _) rfl) ?_
    refine (RL_nil (thenQ_n (hK9 _ _ ?_)))
    refine WP_seq_k fun K10 hK10 => ?_
    refine WP_region ?_
    refine RL_do rfl rfl (Do_assign rfl) ?_
    refine (RL_nil (thenQ_n (hK10 _ _ ?_)))
    refine WP_seqS [8, 15, 16, 17, 18] (fun (g : Nat) => [(8, .int .i64 (g : Nat))]) (fun (g : Nat) wl => Sep [] w wl [.blk b52 (wds f) 25, .sl va 3 1 (k) (nats (valTo f (k))), .sl vb 4 1 (k) (bls (rightTo f (k)))] ∧ valTo f (k + 1) = valTo f k ++ [g]) ?_ ?_
    · skip
      refine WP_seq_k fun K11 hK11 => ?_
      refine WP_region ?_
      refine RL_do rfl rfl (Do_move (v := .int _ _) rfl) ?_
      refine RL_do rfl rfl (Do_leq rfl rfl) ?_
      refine (RL_nil (thenQ_n (hK11 _ _ ?_)))
      first | refine WP_if rfl (fun c2 => ?_) (fun c2 => ?_) | refine WP_ifb rfl (fun c2 => ?_) (fun c2 => ?_)
      · skip
        refine WP_region ?_
        refine RL_do rfl rfl (Do_move (v := .int _ _) rfl) ?_
        refine RL_call rfl rfl (DoC_func en85 rfl) (data_c _ (by omega) (by omega) w271) ?_
        rintro _ w272 ⟨rfl, hB⟩
        replace H := H.below hB
        refine ⟨_, rfl, ?_⟩
        refine RL_do rfl rfl (Do_assign (v := .int _ _) rfl) ?_
        refine (RL_nil (thenQ_n (And.intro ?_ ?_)))
        · repeat' (first | with_reducible exact Fr_refl | refine Fr_upd rfl ?_ | refine Fr_over rfl rfl ?_)
        · exact ⟨wd f (3 + k) % 2048, (Sl_cons (vint (by omega)) Sl_nil), ⟨H, valTo_t (by omega)⟩⟩
      · skip
        refine (WP_skip (thenQ_n (And.intro ?_ ?_)))
        · repeat' (first | with_reducible exact Fr_refl | refine Fr_upd rfl ?_ | refine Fr_over rfl rfl ?_)
        · exact ⟨0, (Sl_cons (vint (by omega)) Sl_nil), ⟨H, valTo_f (by omega)⟩⟩
    · clear H
      rintro x ρ w273 ⟨H, hxv⟩
      refine WP_region ?_
      refine RL_do rfl rfl (Do_move (v := va) rfl) ?_
      refine RL_do rfl rfl (Do_move (v := .int _ _) rfl) ?_
      refine RL_ex rfl rfl (Ex_bs u46 el3 (by decide) (by decide) (fillB_one (v := .int _ _) rfl)) ?_
      rintro _ w274 ⟨b53, rfl, hA⟩
      replace H := H.alloc hA
      refine RL_ex rfl rfl (Ex_append u46 el3 rfl rfl (Sep.sl (i := 1) H rfl) (Blk.slr (Sep.blk (i := 3) H rfl) 1 1 rfl (by decide)) (by simp [Value.oneCell']) (by rw [maxLen_eq]; omega) (by omega)) ?_
      rintro va9 w275 hA
      replace H := H.app (i := 1) rfl hA
      replace H := H.convs (i := 1) rfl (n' := k + 1) (xs' := nats (valTo f (k + 1))) rfl (by rw [hxv]; exact nats_snoc _ _ rfl)
      refine RL_do rfl rfl (Do_move (v := vb) rfl) ?_
      refine RL_do rfl rfl (Do_move (v := .int _ _) rfl) ?_
      refine RL_call rfl rfl (DoC_func en86 rfl) (odd_c _ (wd f (3 + k)) rfl (by omega) w275) ?_
      rintro _ w276 ⟨rfl, hB⟩
      replace H := H.below hB
      refine ⟨_, rfl, ?_⟩
      refine RL_ex rfl rfl (Ex_bs u70 el4 (by decide) (by decide) (fillB_one (v := .bool _) rfl)) ?_
      rintro _ w277 ⟨b54, rfl, hA⟩
      replace H := H.alloc hA
      refine RL_ex rfl rfl (Ex_append u70 el4 rfl rfl (Sep.sl (i := 2) H rfl) (Blk.slr (Sep.blk (i := 4) H rfl) 1 1 rfl (by decide)) (by simp [Value.oneCell']) (by rw [maxLen_eq]; omega) (by omega)) ?_
      rintro va10 w278 hA
      replace H := H.app (i := 2) rfl hA
      replace H := H.convs (i := 2) rfl (n' := k + 1) (xs' := bls (rightTo f (k + 1))) rfl ((bls_snoc _ _).trans (congrArg bls (rightTo_s rfl)))
      refine RL_do rfl rfl (Do_assign (v := va9) rfl) ?_
      refine RL_do rfl rfl (Do_assign (v := va10) rfl) ?_
      refine (RL_nil (blockQ_n (thenQ_n (hK8 _ _ ?_))))
      refine WP_region ?_
      refine RL_do rfl rfl (Do_add rfl rfl (wrap_i64 (by omega) (by omega))) ?_
      refine RL_do rfl rfl (Do_move (v := .int _ _) rfl) ?_
      replace H := H.keep [true, true, true, false, false]
      refine (RL_nil (thenQ_n (And.intro ?_ ?_)))
      · repeat' (first | with_reducible exact Fr_refl | refine Fr_upd rfl ?_ | refine Fr_over rfl rfl ?_)
      · refine ⟨k + 1, va9, va10, (Sl_cons (vint (by omega)) (Sl_cons rfl (Sl_cons rfl Sl_nil))), ?_, ?_⟩
        · exact ⟨H, by omega⟩
        · omega
  · skip
    refine (WP_exit (thenQ_x (thenQ_x (blockQ_eq (thenQ_n (hK4 _ _ ?_))))))
    refine WP_seq_k fun K12 hK12 => ?_
    refine WP_region ?_
    (obtain rfl : k = 58 := by omega)
    replace H := H.convs (i := 1) rfl (n' := 58) rfl (congrArg nats (valF_eq rfl))
    replace H := H.convs (i := 2) rfl (n' := 58) rfl (congrArg bls (rightF_eq rfl))
    refine RL_do rfl rfl (Do_move (v := va) rfl) ?_
    refine RL_do rfl rfl (Do_move (v := vb) rfl) ?_
    refine RL_do rfl rfl (Do_assign (v := va) rfl) ?_
    refine RL_do rfl rfl (Do_assign (v := vb) rfl) ?_
    refine (RL_nil (thenQ_n (hK12 _ _ ?_)))
    refine (WP_ret (post2 (v1 := va) (v2 := vb) rfl rfl rfl ?_))
    exact ⟨va, vb, rfl, H.give (i := 1) rfl, H.give (i := 2) rfl, H.kept⟩
end Go.Proofs.YtafgmocdnjdmoaaDoor
