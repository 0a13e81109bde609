/- What the walks and the laws stand on; no condition but those that stand in the statements. -/
import Derived.Test.YtafgmocdnjdmoaaDoorRows
import Derived.Test.YtafgmocdnjdmoaaDoorC21
namespace Go.Proofs.YtafgmocdnjdmoaaDoor
open Go.RowKit Go.OB Go.Fr1
theorem en98 : Enters Tryd.prog 98 := ⟨_, Tryd.func98, rfl, by kernel_rfl⟩
/-- orangebox/orangeboxref1.New -/
theorem NewRef_c (n : Int) (v : Value) (m : Nat) (d : List Int) (hm : m = d.length) (w : World) (hd : SlR w v 1 m (ints d)) :
    Calls Tryd.prog 45 #[.int .i64 n, v] w fun e w' => e = .returned (.tuple #[.agg (wds (newR n d).1).toArray, .int .i64 (newR n d).2]) ∧ Below w.heap.size w w' := by
  refine calls_of_WP (args := [.int .i64 n, v]) 51 Tryd.func45 rfl rfl rfl ?_
  obtain ⟨va, vc, rfl⟩ := hd.shape
  have ml := hd.len_le
  rw [maxLen_eq] at ml
  have H := Sep.start [] w
  refine WP_seq_k fun K1 hK1 => ?_
  refine WP_region ?_
  refine RL_ex rfl rfl (Ex_alloc zero25) ?_
  rintro _ w240 ⟨b47, rfl, hA⟩
  replace H := H.alloc hA
  refine RL_do rfl rfl (Do_assign rfl) ?_
  refine (RL_nil (thenQ_n (hK1 _ _ ?_)))
  refine WP_seq_k fun K2 hK2 => ?_
  refine WP_seq_k fun K3 hK3 => ?_
  refine WP_region ?_
  refine RL_do rfl rfl (Do_move (v := .int _ _) rfl) ?_
  refine RL_do rfl rfl (Do_lss rfl rfl) ?_
  first | refine RL_split rfl rfl rfl (fun c1 => ?_) (fun c1 => ?_) | refine RL_splitb rfl rfl rfl (fun c1 => ?_) (fun c1 => ?_)
  · skip
    refine RL_off rfl rfl ?_
    refine RL_off rfl rfl ?_
    refine RL_do rfl rfl (Do_pick_t (v := .bool _) rfl rfl) ?_
    refine (RL_nil (thenQ_n (hK3 _ _ ?_)))
    refine WP_ift rfl ?_
    refine WP_seq_k fun K4 hK4 => ?_
    refine WP_region ?_
    refine RL_do rfl rfl (Do_build (cs := zs25) bz25) ?_
    refine RL_exU rfl (Ex_storeAll sz25 (by simp [wds_length, rawTo_len, finN_len, rawF_len, sealF_len]) rfl rfl (by simp [Value.oneCell']) (Sep.blk (i := 0) H rfl) (by simp [wds_length, rawTo_len, finN_len, rawF_len, sealF_len])) ?_
    rintro w241 hW
    replace H := H.wr (i := 0) rfl hW
    refine RL_do rfl rfl (Do_assign rfl) ?_
    refine (RL_nil (thenQ_n (hK4 _ _ ?_)))
    refine (WP_ret (thenQ_r (postc1 (v1 := .int _ _) rfl rfl (run_loadVar_agg agg25 sz25 (by simp [wds_length, rawTo_len, finN_len, rawF_len, sealF_len]) (Blk.cells (Sep.blk (i := 0) H rfl))) rfl ?_)))
    exact ⟨by rw [newR_1 (by omega)]; exact congrArg (fun l : List Value => Ending.returned (.tuple #[.agg l.toArray, _])) wds_zero, H.kept⟩
  · skip
    refine RL_do rfl rfl (Do_move (v := .int _ _) rfl) ?_
    refine RL_do rfl rfl (Do_geq rfl rfl) ?_
    refine RL_do rfl rfl (Do_pick_f (v := .bool _) rfl rfl) ?_
    refine (RL_nil (thenQ_n (hK3 _ _ ?_)))
    first | refine WP_if rfl (fun c2 => ?_) (fun c2 => ?_) | refine WP_ifb rfl (fun c2 => ?_) (fun c2 => ?_)
    · skip
      refine WP_seq_k fun K5 hK5 => ?_
      refine WP_region ?_
      refine RL_do rfl rfl (Do_build (cs := zs25) bz25) ?_
      refine RL_exU rfl (Ex_storeAll sz25 (by simp [wds_length, rawTo_len, finN_len, rawF_len, sealF_len]) rfl rfl (by simp [Value.oneCell']) (Sep.blk (i := 0) H rfl) (by simp [wds_length, rawTo_len, finN_len, rawF_len, sealF_len])) ?_
      rintro w242 hW
      replace H := H.wr (i := 0) rfl hW
      refine RL_do rfl rfl (Do_assign rfl) ?_
      refine (RL_nil (thenQ_n (hK5 _ _ ?_)))
      refine (WP_ret (thenQ_r (postc1 (v1 := .int _ _) rfl rfl (run_loadVar_agg agg25 sz25 (by simp [wds_length, rawTo_len, finN_len, rawF_len, sealF_len]) (Blk.cells (Sep.blk (i := 0) H rfl))) rfl ?_)))
      exact ⟨by rw [newR_1 (by omega)]; exact congrArg (fun l : List Value => Ending.returned (.tuple #[.agg l.toArray, _])) wds_zero, H.kept⟩
    · skip
      refine (WP_skip (thenQ_n (hK2 _ _ ?_)))
      refine WP_seq_k fun K6 hK6 => ?_
      refine WP_seq_k fun K7 hK7 => ?_
      refine WP_region ?_
      refine RL_do rfl rfl (Do_move (v := .slice _ _ _) rfl) ?_
      refine RL_do rfl rfl (Do_len u46 rfl) ?_
      refine RL_do rfl rfl (Do_neq rfl rfl) ?_
      refine (RL_nil (thenQ_n (hK7 _ _ ?_)))
      first | refine WP_if rfl (fun c3 => ?_) (fun c3 => ?_) | refine WP_ifb rfl (fun c3 => ?_) (fun c3 => ?_)
      · skip
        refine WP_seq_k fun K8 hK8 => ?_
        refine WP_region ?_
        refine RL_do rfl rfl (Do_build (cs := zs25) bz25) ?_
        refine RL_exU rfl (Ex_storeAll sz25 (by simp [wds_length, rawTo_len, finN_len, rawF_len, sealF_len]) rfl rfl (by simp [Value.oneCell']) (Sep.blk (i := 0) H rfl) (by simp [wds_length, rawTo_len, finN_len, rawF_len, sealF_len])) ?_
        rintro w243 hW
        replace H := H.wr (i := 0) rfl hW
        refine RL_do rfl rfl (Do_assign rfl) ?_
        refine (RL_nil (thenQ_n (hK8 _ _ ?_)))
        refine (WP_ret (thenQ_r (postc1 (v1 := .int _ _) rfl rfl (run_loadVar_agg agg25 sz25 (by simp [wds_length, rawTo_len, finN_len, rawF_len, sealF_len]) (Blk.cells (Sep.blk (i := 0) H rfl))) rfl ?_)))
        exact ⟨by rw [newR_2 (by omega) (by omega)]; exact congrArg (fun l : List Value => Ending.returned (.tuple #[.agg l.toArray, _])) wds_zero, H.kept⟩
      · skip
        refine (WP_skip (thenQ_n (hK6 _ _ ?_)))
        refine WP_seq_k fun K9 hK9 => ?_
        refine WP_region ?_
        refine RL_do rfl rfl (Do_build (cs := zs25) bz25) ?_
        refine RL_ex rfl rfl (Ex_alloc zero25) ?_
        rintro _ w244 ⟨b48, rfl, hA⟩
        replace H := H.alloc hA
        refine RL_exU rfl (Ex_storeAll sz25 (by simp [wds_length, rawTo_len, finN_len, rawF_len, sealF_len]) rfl rfl (by simp [Value.oneCell']) (Sep.blk (i := 1) H rfl) (by simp [wds_length, rawTo_len, finN_len, rawF_len, sealF_len])) ?_
        rintro w245 hW
        replace H := H.wr (i := 1) rfl hW
        replace H := H.conv (i := 1) rfl wds_zero
        refine (RL_nil (thenQ_n (hK9 _ _ ?_)))
        refine WP_seq_k fun K10 hK10 => ?_
        refine WP_region ?_
        refine RL_do rfl rfl (Do_move (v := .int _ _) rfl) ?_
        refine RL_do rfl rfl (Do_rem rfl rfl (by omega) (by omega)) ?_
        refine RL_do rfl rfl (Do_conv u3 u23 rfl (wrap_u16 (by omega) (by omega))) ?_
        refine RL_do rfl rfl (Do_move (v := .int _ _) rfl) ?_
        refine RL_do rfl rfl (Do_quo rfl rfl (by omega) (by omega) (wrap_i64 (by omega) (by omega))) ?_
        refine RL_do rfl rfl (Do_conv u3 u23 rfl (wrap_u16 (by omega) (by omega))) ?_
        refine RL_do rfl rfl (Do_idxa1 u25 sz23 rfl rfl (by omega) (by omega) (rfl : _ = 1) (by first | exact Nat.zero_add _ | rfl)) ?_
        refine RL_exU rfl (Ex_store1 sz23 rfl rfl rfl (Sep.blk (i := 1) H rfl) (by simp [wds_length, zero64])) ?_
        rintro w246 hW
        replace H := H.wr (i := 1) rfl hW
        replace H := H.conv (i := 1) rfl (wds_setI _ 1 (n := n.toNat % 2048) (by omega))
        refine RL_do rfl rfl (Do_idxa1 u25 sz23 rfl rfl (by omega) (by omega) (rfl : _ = 2) (by first | exact Nat.zero_add _ | rfl)) ?_
        refine RL_exU rfl (Ex_store1 sz23 rfl rfl rfl (Sep.blk (i := 1) H rfl) (by simp [wds_length, zero64])) ?_
        rintro w247 hW
        replace H := H.wr (i := 1) rfl hW
        replace H := H.conv (i := 1) rfl (wds_setI _ 2 (n := n.toNat / 2048) (by omega))
        refine (RL_nil (thenQ_n (hK10 _ _ ?_)))
        refine WP_seq_k fun K11 hK11 => ?_
        refine WP_seq_k fun K12 hK12 => ?_
        refine WP_region ?_
        refine RL_do rfl rfl (Do_move (v := .slice _ _ _) rfl) ?_
        refine RL_do rfl rfl (Do_len u46 rfl) ?_
        refine RL_do rfl rfl (Do_move rfl) ?_
        refine (RL_nil (thenQ_n (hK12 _ _ ?_)))
        refine WP_block ?_
        obtain ⟨bd, od, cd, q1, q2, q3, hcd⟩ := hd.some (by omega)
        cases q1
        refine WP_loopS [5, 7, 8, 31, 32, 33, 34, 35, 36, 37, 38, 39, 40, 41, 42, 43, 44, 45, 46, 47, 48] (fun (g : Nat) => [(31, .int .i64 (g : Nat))]) (fun (g : Nat) wl => Sep [] w wl [.blk b47 (List.replicate 64 (.int .u16 0)) 25, .blk b48 (wds (rawTo n.toNat (d.map Int.toNat) g)) 25] ∧ g ≤ 58 ∧ ∀ i, i < g → okD (d.getD i 0)) (fun (g : Nat) => 58 - g) (0) (Sl_cons rfl Sl_nil) ⟨H, ⟨by decide, fun i h => by omega⟩⟩ ?_
        clear H
        rintro k ρ w248 ⟨H, ⟨hk, hi⟩⟩
        refine WP_seq_k fun K13 hK13 => ?_
        refine WP_region ?_
        refine RL_do rfl rfl (Do_lss rfl rfl) ?_
        refine (RL_nil (thenQ_n (hK13 _ _ ?_)))
        refine WP_seq_k fun K14 hK14 => ?_
        first | refine WP_if rfl (fun c4 => ?_) (fun c4 => ?_) | refine WP_ifb rfl (fun c4 => ?_) (fun c4 => ?_)
        · skip
          refine (WP_skip (thenQ_n (hK14 _ _ ?_)))
          refine WP_seq_k fun K15 hK15 => ?_
          refine WP_block ?_
          refine WP_seq_k fun K16 hK16 => ?_
          refine WP_region ?_
          refine RL_do rfl rfl (Do_move (v := .int _ _) rfl) ?_
          refine RL_do rfl rfl (Do_idx1 u46 sz3 rfl rfl (by omega) (by omega) (by omega : _ = k) (by first | exact Nat.zero_add _ | rfl)) ?_
          refine RL_do rfl rfl (Do_load one3 rfl (Cells.get (hcd.only (Sep.only H) (by simp)) (ints_get (by omega)))) ?_
          refine RL_do rfl rfl (Do_assign (v := .int _ _) rfl) ?_
          refine RL_do rfl rfl (Do_assign (v := .int _ _) rfl) ?_
          refine (RL_nil (thenQ_n (hK16 _ _ ?_)))
          refine WP_seq_k fun K17 hK17 => ?_
          refine WP_seq_k fun K18 hK18 => ?_
          refine WP_region ?_
          refine RL_do rfl rfl (Do_move (v := .int _ _) rfl) ?_
          refine RL_do rfl rfl (Do_lss rfl rfl) ?_
          first | refine RL_split rfl rfl rfl (fun c5 => ?_) (fun c5 => ?_) | refine RL_splitb rfl rfl rfl (fun c5 => ?_) (fun c5 => ?_)
          · skip
            refine RL_off rfl rfl ?_
            refine RL_off rfl rfl ?_
            refine RL_do rfl rfl (Do_pick_t (v := .bool _) rfl rfl) ?_
            refine (RL_nil (thenQ_n (hK18 _ _ ?_)))
            refine WP_ift rfl ?_
            refine WP_seq_k fun K19 hK19 => ?_
            refine WP_region ?_
            refine RL_do rfl rfl (Do_build (cs := zs25) bz25) ?_
            refine RL_exU rfl (Ex_storeAll sz25 (by simp [wds_length, rawTo_len, finN_len, rawF_len, sealF_len]) rfl rfl (by simp [Value.oneCell']) (Sep.blk (i := 0) H rfl) (by simp [wds_length, rawTo_len, finN_len, rawF_len, sealF_len])) ?_
            rintro w249 hW
            replace H := H.wr (i := 0) rfl hW
            refine RL_do rfl rfl (Do_assign rfl) ?_
            refine (RL_nil (thenQ_n (hK19 _ _ ?_)))
            refine (WP_ret (thenQ_r (blockQ_r (thenQ_r (thenQ_r (blockQ_r (thenQ_r (postc1 (v1 := .int _ _) rfl rfl (run_loadVar_agg agg25 sz25 (by simp [wds_length, rawTo_len, finN_len, rawF_len, sealF_len]) (Blk.cells (Sep.blk (i := 0) H rfl))) rfl ?_))))))))
            exact ⟨by rw [newR_3 (by omega) (by omega) (k := k) (by omega) (fun h => by have := h.1; have := h.2; omega)]; exact congrArg (fun l : List Value => Ending.returned (.tuple #[.agg l.toArray, _])) wds_zero, H.kept⟩
          · skip
            refine RL_do rfl rfl (Do_move (v := .int _ _) rfl) ?_
            refine RL_do rfl rfl (Do_gtr rfl rfl) ?_
            refine RL_do rfl rfl (Do_pick_f (v := .bool _) rfl rfl) ?_
            refine (RL_nil (thenQ_n (hK18 _ _ ?_)))
            first | refine WP_if rfl (fun c6 => ?_) (fun c6 => ?_) | refine WP_ifb rfl (fun c6 => ?_) (fun c6 => ?_)
            · skip
              refine WP_seq_k fun K20 hK20 => ?_
              refine WP_region ?_
              refine RL_do rfl rfl (Do_build (cs := zs25) bz25) ?_
              refine RL_exU rfl (Ex_storeAll sz25 (by simp [wds_length, rawTo_len, finN_len, rawF_len, sealF_len]) rfl rfl (by simp [Value.oneCell']) (Sep.blk (i := 0) H rfl) (by simp [wds_length, rawTo_len, finN_len, rawF_len, sealF_len])) ?_
              rintro w250 hW
              replace H := H.wr (i := 0) rfl hW
              refine RL_do rfl rfl (Do_assign rfl) ?_
              refine (RL_nil (thenQ_n (hK20 _ _ ?_)))
              refine (WP_ret (thenQ_r (blockQ_r (thenQ_r (thenQ_r (blockQ_r (thenQ_r (postc1 (v1 := .int _ _) rfl rfl (run_loadVar_agg agg25 sz25 (by simp [wds_length, rawTo_len, finN_len, rawF_len, sealF_len]) (Blk.cells (Sep.blk (i := 0) H rfl))) rfl ?_))))))))
              exact ⟨by rw [newR_3 (by omega) (by omega) (k := k) (by omega) (fun h => by have := h.1; have := h.2; omega)]; exact congrArg (fun l : List Value => Ending.returned (.tuple #[.agg l.toArray, _])) wds_zero, H.kept⟩
            · skip
              refine (WP_skip (thenQ_n (hK17 _ _ ?_)))
              refine WP_region ?_
              refine RL_do rfl rfl (Do_move (v := .int _ _) rfl) ?_
              refine RL_do rfl rfl (Do_add rfl rfl (wrap_i64 (by omega) (by omega))) ?_
              refine RL_do rfl rfl (Do_move (v := .int _ _) rfl) ?_
              refine RL_do rfl rfl (Do_conv u3 u23 rfl (wrap_u16 (by omega) (by omega))) ?_
              refine RL_do rfl rfl (Do_idxa1 u25 sz23 rfl rfl (by omega) (by omega) (by omega : _ = 3 + k) (by first | exact Nat.zero_add _ | rfl)) ?_
              refine RL_exU rfl (Ex_store1 sz23 rfl rfl rfl (Sep.blk (i := 1) H rfl) (by simp [wds_length, rawTo_len]; omega)) ?_
              rintro w251 hW
              replace H := H.wr (i := 1) rfl hW
              replace H := H.conv (i := 1) rfl (wds_setI _ (3 + k) (n := wd (d.map Int.toNat) k) (by have := wd_toNat d k; omega))
              refine (RL_nil (blockQ_n (thenQ_n (hK15 _ _ ?_))))
              refine WP_region ?_
              refine RL_do rfl rfl (Do_add rfl rfl (wrap_i64 (by omega) (by omega))) ?_
              refine RL_do rfl rfl (Do_move (v := .int _ _) rfl) ?_
              refine (RL_nil (thenQ_n (And.intro ?_ ?_)))
              · repeat' (first | with_reducible exact Fr_refl | refine Fr_upd rfl ?_ | refine Fr_over rfl rfl ?_)
              · refine ⟨k + 1, (Sl_cons (by first | rfl | exact congrArg (Value.int _) (by omega)) Sl_nil), ?_, ?_⟩
                · exact ⟨H, by omega, upto_succ hi ⟨by omega, by omega⟩⟩
                · simp; omega
        · skip
          refine (WP_exit (thenQ_x (thenQ_x (blockQ_eq (thenQ_n (hK11 _ _ ?_))))))
          refine WP_seq_k fun K21 hK21 => ?_
          refine WP_region ?_
          (obtain rfl : k = 58 := by omega)
          replace H := H.conv (i := 1) rfl (congrArg wds (rawF_eq rfl))
          have dk : ∀ i, i < 58 → wd (d.map Int.toNat) i < 2048 := fun i h => by have q := wd_toNat d i; have p := hi i h; have p1 := p.1; have p2 := p.2; omega
          have srf : Small (rawF n.toNat (d.map Int.toNat)) := raw_small (by omega) dk
          have nr := new_raw (n := n.toNat) (d := d.map Int.toNat) (by omega) dk
          refine RL_do rfl rfl (Do_loads agg25 rfl sz25 (by simp [wds_length, rawTo_len, finN_len, rawF_len, sealF_len]) (Blk.cells (Sep.blk (i := 1) H rfl))) ?_
          refine RL_call rfl rfl (DoC_func en98 rfl) (sealedRef_c (rawF n.toNat (d.map Int.toNat)) (rawF_len _ _) srf w248) ?_
          rintro _ w252 ⟨rfl, hB⟩
          replace H := H.below hB
          refine ⟨_, rfl, ?_⟩
          refine RL_exU rfl (Ex_storeAll sz25 (by simp [wds_length, rawTo_len, finN_len, rawF_len, sealF_len]) rfl rfl (one_wds) (Sep.blk (i := 0) H rfl) (by simp [wds_length, rawTo_len, finN_len, rawF_len, sealF_len])) ?_
          rintro w253 hW
          replace H := H.wr (i := 0) rfl hW
          refine RL_do rfl rfl (Do_assign rfl) ?_
          refine (RL_nil (thenQ_n (hK21 _ _ ?_)))
          refine (WP_ret (postc1 (v1 := .int _ _) rfl rfl (run_loadVar_agg agg25 sz25 (by simp [wds_length, rawTo_len, finN_len, rawF_len, sealF_len]) (Blk.cells (Sep.blk (i := 0) H rfl))) rfl ?_))
          exact ⟨by rw [newR_4 (by omega) (by omega) (fun i h => hi i (by omega))]; show _ = Ending.returned (.tuple #[.agg (wds (finN (newF n.toNat (d.map Int.toNat)))).toArray, .int .i64 0]); rw [nr], H.kept⟩
end Go.Proofs.YtafgmocdnjdmoaaDoor
