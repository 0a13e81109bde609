/- Walks of functions: what each computes, for every argument; no condition but those that stand in the statements. -/
import Derived.Test.YtafgmocdnjdmoaaDoorRows
import Derived.Test.YtafgmocdnjdmoaaDoorC13
import Derived.Test.YtafgmocdnjdmoaaDoorByu
namespace Go.Proofs.YtafgmocdnjdmoaaDoor
open Go.RowKit Go.OB Go.Fr1
/-- orangebox/orangeboxref1.frame -/
theorem frameRef_c (v : Value) (xs : List Nat) (m : Nat) (hm : xs.length = m) (hx : Byte xs) (h96 : 96 ≤ m) (w : World) (hr : SlR w v 1 m (bys xs)) :
    Calls Tryd.prog 81 #[v] w fun e w' => e = .returned (.agg (wds (loadN xs 0)).toArray) ∧ Below w.heap.size w w' := by
  refine calls_of_WP (args := [v]) 48 Tryd.func81 rfl rfl rfl ?_
  obtain ⟨b, o, c, rfl, q1, q2, hc⟩ := hr.some (by omega)
  have H := Sep.start [] w
  refine WP_seq_k fun K1 hK1 => ?_
  refine WP_region ?_
  refine RL_ex rfl rfl (Ex_alloc zero25) ?_
  rintro _ w153 ⟨b35, rfl, hA⟩
  replace H := H.alloc hA
  refine (RL_nil (thenQ_n (hK1 _ _ ?_)))
  refine WP_seq_k fun K2 hK2 => ?_
  refine WP_region ?_
  refine RL_do rfl rfl (Do_build (cs := zs25) bz25) ?_
  refine RL_ex rfl rfl (Ex_alloc zero25) ?_
  rintro _ w154 ⟨b36, rfl, hA⟩
  replace H := H.alloc hA
  refine RL_exU rfl (Ex_storeAll sz25 (by simp [wds_length, bys_length, loadN_len, loadTo_len, frL_len]) rfl rfl (by simp [Value.oneCell']) (Sep.blk (i := 1) H rfl) (by simp [wds_length, bys_length, loadN_len, loadTo_len, frL_len])) ?_
  rintro w155 hW
  replace H := H.wr (i := 1) rfl hW
  replace H := H.conv (i := 1) rfl wds_zero
  refine (RL_nil (thenQ_n (hK2 _ _ ?_)))
  refine WP_seq_k fun K3 hK3 => ?_
  refine WP_seq_k fun K4 hK4 => ?_
  refine WP_region ?_
  refine RL_do rfl rfl (Do_move rfl) ?_
  refine (RL_nil (thenQ_n (hK4 _ _ ?_)))
  refine WP_block ?_
  refine WP_loopS [4, 5, 6, 7, 9, 10, 11, 12, 13, 14, 15, 16, 17, 18, 19, 20, 21, 22, 23, 24, 25, 26, 27, 28, 29, 30, 31, 32, 33, 34, 35, 36, 37, 38, 39, 40, 41, 42, 43, 44, 45, 46] (fun (g : Nat) => [(9, .int .i64 (g : Nat))]) (fun (g : Nat) wl => Sep [] w wl [.blk b35 (List.replicate 64 (.int .u16 0)) 25, .blk b36 (wds (loadTo xs 0 g)) 25] ∧ g ≤ 64) (fun (g : Nat) => 64 - g) (0) (Sl_cons rfl Sl_nil) ⟨H, by decide⟩ ?_
  clear H
  rintro i ρ w156 ⟨H, hi⟩
  refine WP_seq_k fun K5 hK5 => ?_
  refine WP_region ?_
  refine RL_do rfl rfl (Do_lss rfl rfl) ?_
  refine (RL_nil (thenQ_n (hK5 _ _ ?_)))
  refine WP_seq_k fun K6 hK6 => ?_
  first | refine WP_if rfl (fun c1 => ?_) (fun c1 => ?_) | refine WP_ifb rfl (fun c1 => ?_) (fun c1 => ?_)
  · skip
    refine (WP_skip (thenQ_n (hK6 _ _ ?_)))
    refine WP_seq_k fun K7 hK7 => ?_
    refine WP_block ?_
    refine WP_seq_k fun K8 hK8 => ?_
    refine WP_region ?_
    refine RL_do rfl rfl (Do_move (v := .int _ _) rfl) ?_
    refine RL_do rfl rfl (Do_assign (v := .int _ _) rfl) ?_
    refine (RL_nil (thenQ_n (hK8 _ _ ?_)))
    refine WP_seq_k fun K9 hK9 => ?_
    refine WP_region ?_
    refine RL_do rfl rfl (Do_move rfl) ?_
    refine (RL_nil (thenQ_n (hK9 _ _ ?_)))
    refine WP_block ?_
    replace H := H.conv (i := 1) rfl (congrArg wds (frL_0 (X := xs) (i := i)).symm)
    refine WP_loopS [5, 6, 7, 12, 13, 14, 15, 16, 17, 18, 19, 20, 21, 22, 23, 24, 25, 26, 27, 28, 29, 30, 31, 32, 33, 34, 35, 36, 37, 38, 39, 40, 41, 42, 43, 44, 45] (fun (g : Nat) => [(12, .int .i64 (g : Nat))]) (fun (g : Nat) wl => Sep [] w wl [.blk b35 (List.replicate 64 (.int .u16 0)) 25, .blk b36 (wds (frL xs i g)) 25] ∧ g ≤ 3) (fun (g : Nat) => 3 - g) (0) (Sl_cons rfl Sl_nil) ⟨H, by decide⟩ ?_
    clear H
    rintro j ρ w157 ⟨H, hj⟩
    refine WP_seq_k fun K10 hK10 => ?_
    refine WP_region ?_
    refine RL_do rfl rfl (Do_lss rfl rfl) ?_
    refine (RL_nil (thenQ_n (hK10 _ _ ?_)))
    refine WP_seq_k fun K11 hK11 => ?_
    first | refine WP_if rfl (fun c2 => ?_) (fun c2 => ?_) | refine WP_ifb rfl (fun c2 => ?_) (fun c2 => ?_)
    · skip
      refine (WP_skip (thenQ_n (hK11 _ _ ?_)))
      refine WP_seq_k fun K12 hK12 => ?_
      refine WP_block ?_
      refine WP_seq_k fun K13 hK13 => ?_
      refine WP_region ?_
      refine RL_do rfl rfl (Do_move (v := .int _ _) rfl) ?_
      refine RL_do rfl rfl (Do_assign (v := .int _ _) rfl) ?_
      refine (RL_nil (thenQ_n (hK13 _ _ ?_)))
      refine WP_seq_k fun K14 hK14 => ?_
      refine WP_region ?_
      refine RL_do rfl rfl (Do_move (v := .int _ _) rfl) ?_
      refine RL_do rfl rfl (Do_mul rfl rfl (wrap_i64 (by omega) (by omega))) ?_
      refine RL_do rfl rfl (Do_move (v := .int _ _) rfl) ?_
      refine RL_do rfl rfl (Do_add rfl rfl (wrap_i64 (by omega) (by omega))) ?_
      refine RL_do rfl rfl (Do_assign (v := .int _ _) rfl) ?_
      refine (RL_nil (thenQ_n (hK14 _ _ ?_)))
      refine WP_seq_k fun K15 hK15 => ?_
      refine WP_region ?_
      have n1 := hx ((3 * i + j) / 2)
      refine RL_do rfl rfl (Do_move (v := .slice _ _ _) rfl) ?_
      refine RL_do rfl rfl (Do_move (v := .int _ _) rfl) ?_
      refine RL_do rfl rfl (Do_quo rfl rfl (by omega) (by omega) (wrap_i64 (by omega) (by omega))) ?_
      refine RL_do rfl rfl (Do_idx1 u22 sz5 rfl rfl (by omega) (by omega) (by omega : _ = (3 * i + j) / 2) (by first | exact Nat.zero_add _ | rfl)) ?_
      refine RL_do rfl rfl (Do_load one5 rfl (Cells.get (hc.only (Sep.only H) (by simp)) (bys_getw (by omega)))) ?_
      refine RL_do rfl rfl (Do_conv u5 u3 rfl (wrap_i64 (by omega) (by omega))) ?_
      refine RL_do rfl rfl (Do_quo rfl rfl (by omega) (by omega) (wrap_i64 (by omega) (by omega))) ?_
      refine RL_do rfl rfl (Do_assign (v := .int _ _) rfl) ?_
      refine (RL_nil (thenQ_n (hK15 _ _ ?_)))
      refine WP_seqS [7, 26, 27, 28, 29, 30, 31, 32, 33, 34, 35] (fun (g : Nat) => [(7, .int .i64 (g : Nat))]) (fun (g : Nat) wl => Sep [] w wl [.blk b35 (List.replicate 64 (.int .u16 0)) 25, .blk b36 (wds (frL xs i j)) 25] ∧ g = hb xs (3 * i + j)) ?_ ?_
      · skip
        refine WP_seq_k fun K16 hK16 => ?_
        refine WP_region ?_
        refine RL_do rfl rfl (Do_move (v := .int _ _) rfl) ?_
        refine RL_do rfl rfl (Do_rem rfl rfl (by omega) (by omega)) ?_
        refine RL_do rfl rfl (Do_eql rfl rfl) ?_
        refine (RL_nil (thenQ_n (hK16 _ _ ?_)))
        first | refine WP_if rfl (fun c3 => ?_) (fun c3 => ?_) | refine WP_ifb rfl (fun c3 => ?_) (fun c3 => ?_)
        · skip
          refine WP_region ?_
          refine RL_do rfl rfl (Do_move (v := .slice _ _ _) rfl) ?_
          refine RL_do rfl rfl (Do_move (v := .int _ _) rfl) ?_
          refine RL_do rfl rfl (Do_quo rfl rfl (by omega) (by omega) (wrap_i64 (by omega) (by omega))) ?_
          refine RL_do rfl rfl (Do_idx1 u22 sz5 rfl rfl (by omega) (by omega) (by omega : _ = (3 * i + j) / 2) (by first | exact Nat.zero_add _ | rfl)) ?_
          refine RL_do rfl rfl (Do_load one5 rfl (Cells.get (hc.only (Sep.only H) (by simp)) (bys_getw (by omega)))) ?_
          refine RL_do rfl rfl (Do_conv u5 u3 rfl (wrap_i64 (by omega) (by omega))) ?_
          refine RL_do rfl rfl (Do_rem rfl rfl (by omega) (by omega)) ?_
          refine RL_do rfl rfl (Do_assign (v := .int _ _) rfl) ?_
          refine (RL_nil (thenQ_n (And.intro ?_ ?_)))
          · repeat' (first | with_reducible exact Fr_refl | refine Fr_upd rfl ?_ | refine Fr_over rfl rfl ?_)
          · exact ⟨wd xs ((3 * i + j) / 2) % 16, (Sl_cons (vint (by omega)) Sl_nil), ⟨H, by unfold hb; rw [if_neg (by omega)]⟩⟩
        · skip
          refine (WP_skip (thenQ_n (And.intro ?_ ?_)))
          · repeat' (first | with_reducible exact Fr_refl | refine Fr_upd rfl ?_ | refine Fr_over rfl rfl ?_)
          · exact ⟨wd xs ((3 * i + j) / 2) / 16, (Sl_cons (vint (by omega)) Sl_nil), ⟨H, by unfold hb; rw [if_pos (by omega)]⟩⟩
      · clear H
        rintro n ρ w158 ⟨H, rfl⟩
        refine WP_region ?_
        have n2 := hb_lt hx (3 * i + j)
        have n3 := acc_lt hx i j (by omega)
        have n4 := frL_at (X := xs) (i := i) (j := j) (by omega)
        refine RL_do rfl rfl (Do_move (v := .int _ _) rfl) ?_
        refine RL_do rfl rfl (Do_move (v := .int _ _) rfl) ?_
        refine RL_do rfl rfl (Do_idxa1 u25 sz23 rfl rfl (by omega) (by omega) (by omega : _ = i) (by first | exact Nat.zero_add _ | rfl)) ?_
        refine RL_do rfl rfl (Do_load one23 rfl (Blk.cell (Sep.blk (i := 1) H rfl) (wds_get (by rw [frL_len]; omega)))) ?_
        refine RL_do rfl rfl (Do_mul rfl rfl (wrap_u16 (by omega) (by omega))) ?_
        refine RL_do rfl rfl (Do_move (v := .int _ _) rfl) ?_
        refine RL_do rfl rfl (Do_conv u3 u23 rfl (wrap_u16 (by omega) (by omega))) ?_
        refine RL_do rfl rfl (Do_add rfl rfl (wrap_u16 (by omega) (by omega))) ?_
        refine RL_do rfl rfl (Do_idxa1 u25 sz23 rfl rfl (by omega) (by omega) (by omega : _ = i) (by first | exact Nat.zero_add _ | rfl)) ?_
        refine RL_exU rfl (Ex_store1 sz23 rfl rfl rfl (Sep.blk (i := 1) H rfl) (by simp [wds_length, frL_len]; omega)) ?_
        rintro w159 hW
        replace H := H.wr (i := 1) rfl hW
        replace H := H.conv (i := 1) rfl ((wds_setI _ i (n := acc xs i (j + 1)) (by rw [frL_at (by omega)]; show _ = ((acc xs i j * 16 + hb xs (3 * i + j) : Nat) : Int); omega)).trans (congrArg wds (frL_set i j)))
        refine (RL_nil (blockQ_n (thenQ_n (hK12 _ _ ?_))))
        refine WP_region ?_
        refine RL_do rfl rfl (Do_add rfl rfl (wrap_i64 (by omega) (by omega))) ?_
        refine RL_do rfl rfl (Do_move (v := .int _ _) rfl) ?_
        refine (RL_nil (thenQ_n (And.intro ?_ ?_)))
        · repeat' (first | with_reducible exact Fr_refl | refine Fr_upd rfl ?_ | refine Fr_over rfl rfl ?_)
        · refine ⟨j + 1, (Sl_cons (by first | rfl | exact congrArg (Value.int _) (by omega)) Sl_nil), ?_, ?_⟩
          · exact ⟨H, by omega⟩
          · simp; omega
    · skip
      refine (WP_exit (thenQ_x (thenQ_x (blockQ_eq (blockQ_n (thenQ_n (hK7 _ _ ?_)))))))
      refine WP_region ?_
      refine RL_do rfl rfl (Do_add rfl rfl (wrap_i64 (by omega) (by omega))) ?_
      refine RL_do rfl rfl (Do_move (v := .int _ _) rfl) ?_
      (obtain rfl : j = 3 := by omega)
      replace H := H.conv (i := 1) rfl (congrArg wds (frL_3 hx i))
      refine (RL_nil (thenQ_n (And.intro ?_ ?_)))
      · repeat' (first | with_reducible exact Fr_refl | refine Fr_upd rfl ?_ | refine Fr_over rfl rfl ?_)
      · refine ⟨i + 1, (Sl_cons (by first | rfl | exact congrArg (Value.int _) (by omega)) Sl_nil), ?_, ?_⟩
        · exact ⟨H, by omega⟩
        · simp; omega
  · skip
    refine (WP_exit (thenQ_x (thenQ_x (blockQ_eq (thenQ_n (hK3 _ _ ?_))))))
    refine WP_seq_k fun K17 hK17 => ?_
    refine WP_region ?_
    (obtain rfl : i = 64 := by omega)
    replace H := H.conv (i := 1) rfl (congrArg wds (loadN_eq rfl))
    refine RL_do rfl rfl (Do_loads agg25 rfl sz25 (by simp [wds_length, bys_length, loadN_len, loadTo_len, frL_len]) (Blk.cells (Sep.blk (i := 1) H rfl))) ?_
    refine RL_exU rfl (Ex_storeAll sz25 (by simp [wds_length, bys_length, loadN_len, loadTo_len, frL_len]) rfl rfl (one_wds) (Sep.blk (i := 0) H rfl) (by simp [wds_length, bys_length, loadN_len, loadTo_len, frL_len])) ?_
    rintro w160 hW
    replace H := H.wr (i := 0) rfl hW
    refine (RL_nil (thenQ_n (hK17 _ _ ?_)))
    refine (WP_ret (postc rfl rfl (run_loadVar_agg agg25 sz25 (by simp [wds_length, bys_length, loadN_len, loadTo_len, frL_len]) (Blk.cells (Sep.blk (i := 0) H rfl))) ?_))
    exact ⟨rfl, H.kept⟩
end Go.Proofs.YtafgmocdnjdmoaaDoor
