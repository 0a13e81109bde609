/- What the walks and the laws stand on; no condition but those that stand in the statements. -/
import Derived.Test.YtafgmocdnjdmoaaDoorRows
import Derived.Test.YtafgmocdnjdmoaaDoorC1
namespace Go.Proofs.YtafgmocdnjdmoaaDoor
open Go.RowKit Go.OB Go.Fr1
theorem u46 : Tryd.prog.underlying 46 = some (.slice 3) := Tryd.underlying46
theorem u111 : Tryd.prog.underlying 111 = some (.array 4 23) := Tryd.underlying111
theorem sz3 : Sz Tryd.prog 3 1 := by unfold Sz; kernel_rfl
theorem sz25 : Sz Tryd.prog 25 64 := by unfold Sz; kernel_rfl
theorem one3 : OneC Tryd.prog 3 := by unfold OneC; kernel_rfl
theorem agg25 : Agg Tryd.prog 25 := by unfold Agg; kernel_rfl
theorem zero25 : Go.OB.Zero Tryd.prog 25 (List.replicate 64 (.int .u16 0)) := by unfold Go.OB.Zero; kernel_rfl
abbrev zs25 : List Value := List.replicate 64 (.int .u16 0)
theorem bz25 : Tryd.prog.built 25 [] = some zs25.toArray := by kernel_rfl
theorem en83 : Enters Tryd.prog 83 := ⟨_, Tryd.func83, rfl, by kernel_rfl⟩
theorem en89 : Enters Tryd.prog 89 := ⟨_, Tryd.func89, rfl, by kernel_rfl⟩
theorem en91 : Enters Tryd.prog 91 := ⟨_, Tryd.func91, rfl, by kernel_rfl⟩
theorem en92 : Enters Tryd.prog 92 := ⟨_, Tryd.func92, rfl, by kernel_rfl⟩
theorem en93 : Enters Tryd.prog 93 := ⟨_, Tryd.func93, rfl, by kernel_rfl⟩
/-- orangebox/frame.finish -/
theorem finish_c (f : List Nat) (hl : f.length = 64) (hs : Small f) (b : Nat) (hb0 : 0 < b) (w : World) (hg : Cells w ⟨0, 0, none⟩ (wds tab)) (hb : Blk w b (wds f) 25) :
    Calls Tryd.prog 89 #[.pointer (some ⟨b, 0, none⟩)] w fun e w' => e = .returned (.tuple #[]) ∧ Only [b] w w' ∧ Blk w' b (wds (finN f)) 25 := by
  have l0 : (wds f).length = 64 := by rw [wds_length]; exact hl
  have l1 := (fin1_len f).trans hl
  have l2 := (fin2_len f).trans hl
  have l3 := (fin3_len f).trans hl
  have s1 := fin1_small hs
  have s2 := fin2_small hs
  have s3 := fin3_small hs
  have n1 := sumN_lt (fin1 f)
  have n2 := checkN_lt (fin2 f)
  have n3 := numN_lt f
  refine calls_of_WP (args := [.pointer (some ⟨b, 0, none⟩)]) 31 Tryd.func89 rfl rfl rfl ?_
  have H := Sep.start1 hb
  refine WP_seq_k fun K1 hK1 => ?_
  refine WP_mix [.pure, .pure, .read, .pure, .pure, .read, .pure, .pure, .eff] mixed (by kernel_rfl) (by kernel_rfl) (by kernel_rfl) ?_
  refine XL_pure rfl rfl rfl (fun w' => Do_move (v := .pointer _) rfl) ?_
  refine XL_pure rfl rfl rfl (fun w' => Do_move (v := .pointer _) rfl) ?_
  refine XL_call rfl rfl rfl (fun w' hw' => DoC_func en91 rfl) (fun w' hw' => number_c f hl hs _ _ w' (Blk.cells (Sep.blk (i := 0) (Sep.sees H hw') rfl))) ?_
  refine XL_pure rfl rfl rfl (fun w' => Do_rem rfl rfl (by omega) (by omega)) ?_
  refine XL_pure rfl rfl rfl (fun w' => Do_idxa1 u111 sz23 rfl rfl (by omega) (by omega) (by omega : _ = numN f % 4) (by first | exact Nat.zero_add _ | rfl)) ?_
  refine XL_read rfl rfl rfl (fun w' hw' => Do_load one23 rfl (Cells.get0 (hg.only (Sep.only (Sep.sees H hw')) (by simp; omega)) (i := numN f % 4) (wds_get (by show _ < 4; omega)))) ?_
  refine XL_pure rfl rfl rfl (fun w' => Do_nilCheck rfl) ?_
  refine XL_pure rfl rfl rfl (fun w' => Do_idxa1 u25 sz23 rfl rfl (by omega) (by omega) (rfl : _ = 0) (by first | exact Nat.zero_add _ | rfl)) ?_
  refine XL_exU rfl rfl (fun w' hw' => Ex_store1 sz23 rfl rfl rfl (Sep.blk (i := 0) (Sep.sees H hw') rfl) (by rw [wds_length, hl]; omega)) ?_
  rintro w' w10 hw' hW
  replace H := (Sep.sees H hw').wr (i := 0) rfl hW
  replace H := H.conv (i := 0) rfl (wds_set f 0 (wd tab (numN f % 4)) : _ = wds (fin1 f))
  refine XL_nil fun w11 hS => ?_
  replace H := H.sees hS
  refine (thenQ_n (hK1 _ _ ?_))
  refine WP_seq_k fun K2 hK2 => ?_
  refine WP_mix [.pure, .pure, .read, .read, .pure, .pure, .eff] mixed (by kernel_rfl) (by kernel_rfl) (by kernel_rfl) ?_
  refine XL_pure rfl rfl rfl (fun w' => Do_move (v := .pointer _) rfl) ?_
  refine XL_pure rfl rfl rfl (fun w' => Do_move (v := .pointer _) rfl) ?_
  refine XL_call rfl rfl rfl (fun w' hw' => DoC_func en92 rfl) (fun w' hw' => sum_c (fin1 f) l1 s1 _ _ w' (Blk.cells (Sep.blk (i := 0) (Sep.sees H hw') rfl))) ?_
  refine XL_call rfl rfl rfl (fun w' hw' => DoC_func en83 rfl) (fun w' hw' => word_c _ _ rfl n1 w') ?_
  refine XL_pure rfl rfl rfl (fun w' => Do_nilCheck rfl) ?_
  refine XL_pure rfl rfl rfl (fun w' => Do_idxa1 u25 sz23 rfl rfl (by omega) (by omega) (rfl : _ = 61) (by first | exact Nat.zero_add _ | rfl)) ?_
  refine XL_exU rfl rfl (fun w' hw' => Ex_store1 sz23 rfl rfl rfl (Sep.blk (i := 0) (Sep.sees H hw') rfl) (by simp [wds_length, hl])) ?_
  rintro w' w12 hw' hW
  replace H := (Sep.sees H hw').wr (i := 0) rfl hW
  replace H := H.conv (i := 0) rfl (wds_set (fin1 f) 61 _ : _ = wds (fin2 f))
  refine XL_nil fun w13 hS => ?_
  replace H := H.sees hS
  refine (thenQ_n (hK2 _ _ ?_))
  refine WP_seq_k fun K3 hK3 => ?_
  refine WP_region ?_
  refine RL_do rfl rfl (Do_move (v := .pointer _) rfl) ?_
  refine RL_call rfl rfl (DoC_func en93 rfl) (check_c (fin2 f) l2 s2 _ _ w13 (Blk.cells (Sep.blk (i := 0) H rfl))) ?_
  rintro _ w14 ⟨rfl, hB⟩
  replace H := H.below hB
  refine ⟨_, rfl, ?_⟩
  refine RL_do rfl rfl (Do_assign (v := .int _ _) rfl) ?_
  refine (RL_nil (thenQ_n (hK3 _ _ ?_)))
  refine WP_mix [.pure, .pure, .pure, .pure, .read, .pure, .pure, .read, .pure, .pure, .eff, .pure, .pure, .eff] mixed (by kernel_rfl) (by kernel_rfl) (by kernel_rfl) ?_
  refine XL_pure rfl rfl rfl (fun w' => Do_move (v := .pointer _) rfl) ?_
  refine XL_pure rfl rfl rfl (fun w' => Do_move (v := .pointer _) rfl) ?_
  refine XL_pure rfl rfl rfl (fun w' => Do_move (v := .int _ _) rfl) ?_
  refine XL_pure rfl rfl rfl (fun w' => Do_shr rfl rfl (by decide) (by decide) (rfl : _ = (2048 : Int))) ?_
  refine XL_call rfl rfl rfl (fun w' hw' => DoC_func en83 rfl) (fun w' hw' => word_c _ (checkN (fin2 f) / 2048) (by omega) (by omega) w') ?_
  refine XL_pure rfl rfl rfl (fun w' => Do_move (v := .int _ _) rfl) ?_
  refine XL_pure rfl rfl rfl (fun w' => Do_and rfl rfl (mask_i64 11 (by decide) (rfl : _ = (2048 : Int)) (by omega) (by omega))) ?_
  refine XL_call rfl rfl rfl (fun w' hw' => DoC_func en83 rfl) (fun w' hw' => word_c _ (checkN (fin2 f) % 2048) (by omega) (by omega) w') ?_
  refine XL_pure rfl rfl rfl (fun w' => Do_nilCheck rfl) ?_
  refine XL_pure rfl rfl rfl (fun w' => Do_idxa1 u25 sz23 rfl rfl (by omega) (by omega) (rfl : _ = 62) (by first | exact Nat.zero_add _ | rfl)) ?_
  refine XL_exU rfl rfl (fun w' hw' => Ex_store1 sz23 rfl rfl rfl (Sep.blk (i := 0) (Sep.sees H hw') rfl) (by simp [wds_length, fin1_len, hl])) ?_
  rintro w' w15 hw' hW
  replace H := (Sep.sees H hw').wr (i := 0) rfl hW
  replace H := H.conv (i := 0) rfl (wds_set (fin2 f) 62 _ : _ = wds (fin3 f))
  refine XL_pure rfl rfl rfl (fun w' => Do_nilCheck rfl) ?_
  refine XL_pure rfl rfl rfl (fun w' => Do_idxa1 u25 sz23 rfl rfl (by omega) (by omega) (rfl : _ = 63) (by first | exact Nat.zero_add _ | rfl)) ?_
  refine XL_exU rfl rfl (fun w' hw' => Ex_store1 sz23 rfl rfl rfl (Sep.blk (i := 0) (Sep.sees H hw') rfl) (by simp [wds_length, fin2_len, hl])) ?_
  rintro w' w16 hw' hW
  replace H := (Sep.sees H hw').wr (i := 0) rfl hW
  replace H := H.conv (i := 0) rfl (wds_set (fin3 f) 63 _ : _ = wds (finN f))
  refine XL_nil fun w17 hS => ?_
  replace H := H.sees hS
  refine (post0n rfl ?_)
  exact ⟨rfl, H.only, H.blk (i := 0) rfl⟩

/-- orangebox/frame.New -/
theorem New_c (n : Int) (v : Value) (m : Nat) (d : List Int) (hm : m = d.length) (w : World) (hg : Cells w ⟨0, 0, none⟩ (wds tab)) (hd : SlR w v 1 m (ints d)) (hw0 : 0 < w.heap.size) :
    Calls Tryd.prog 32 #[.int .i64 n, v] w fun e w' => e = .returned (.tuple #[.agg (wds (newR n d).1).toArray, .int .i64 (newR n d).2]) ∧ Below w.heap.size w w' := by
  refine calls_of_WP (args := [.int .i64 n, v]) 50 Tryd.func32 rfl rfl rfl ?_
  obtain ⟨va, vc, rfl⟩ := hd.shape
  have ml := hd.len_le
  rw [maxLen_eq] at ml
  have H := Sep.start [] w
  refine WP_seq_k fun K1 hK1 => ?_
  refine WP_region ?_
  refine RL_ex rfl rfl (Ex_alloc zero25) ?_
  rintro _ w18 ⟨b1, rfl, hA⟩
  replace H := H.alloc hA
  refine RL_do rfl rfl (Do_assign rfl) ?_
  refine (RL_nil (thenQ_n (hK1 _ _ ?_)))
  refine WP_seq_k fun K2 hK2 => ?_
  refine WP_seq_k fun K3 hK3 => ?_
  refine WP_region ?_
  refine RL_do rfl rfl (Do_move (v := .int _ _) rfl) ?_
  refine RL_do rfl rfl (Do_lss rfl rfl) ?_
  first | refine RL_split rfl rfl rfl (fun c1 => ?_) (fun c1 => ?_) | refine RL_splitb rfl rfl rfl (fun c1 => ?_) (fun c1 => ?_)
  · skip
    refine RL_off rfl rfl ?_
    refine RL_off rfl rfl ?_
    refine RL_do rfl rfl (Do_pick_t (v := .bool _) rfl rfl) ?_
    refine (RL_nil (thenQ_n (hK3 _ _ ?_)))
    refine WP_ift rfl ?_
    refine WP_seq_k fun K4 hK4 => ?_
    refine WP_region ?_
    refine RL_do rfl rfl (Do_build (cs := zs25) bz25) ?_
    refine RL_exU rfl (Ex_storeAll sz25 (by simp [wds_length, bys_length, newTo_len, finN_len, newF_len]) rfl rfl (by simp [Value.oneCell']) (Sep.blk (i := 0) H rfl) (by simp [wds_length, bys_length, newTo_len, finN_len, newF_len])) ?_
    rintro w19 hW
    replace H := H.wr (i := 0) rfl hW
    refine RL_do rfl rfl (Do_assign rfl) ?_
    refine (RL_nil (thenQ_n (hK4 _ _ ?_)))
    refine (WP_ret (thenQ_r (postc1 (v1 := .int _ _) rfl rfl (run_loadVar_agg agg25 sz25 (by simp [wds_length, bys_length, newTo_len, finN_len, newF_len]) (Blk.cells (Sep.blk (i := 0) H rfl))) rfl ?_)))
    exact ⟨by rw [newR_1 (by omega)]; exact congrArg (fun l : List Value => Ending.returned (.tuple #[.agg l.toArray, _])) wds_zero, H.kept⟩
  · skip
    refine RL_do rfl rfl (Do_move (v := .int _ _) rfl) ?_
    refine RL_do rfl rfl (Do_geq rfl rfl) ?_
    refine RL_do rfl rfl (Do_pick_f (v := .bool _) rfl rfl) ?_
    refine (RL_nil (thenQ_n (hK3 _ _ ?_)))
    first | refine WP_if rfl (fun c2 => ?_) (fun c2 => ?_) | refine WP_ifb rfl (fun c2 => ?_) (fun c2 => ?_)
    · skip
      refine WP_seq_k fun K5 hK5 => ?_
      refine WP_region ?_
      refine RL_do rfl rfl (Do_build (cs := zs25) bz25) ?_
      refine RL_exU rfl (Ex_storeAll sz25 (by simp [wds_length, bys_length, newTo_len, finN_len, newF_len]) rfl rfl (by simp [Value.oneCell']) (Sep.blk (i := 0) H rfl) (by simp [wds_length, bys_length, newTo_len, finN_len, newF_len])) ?_
      rintro w20 hW
      replace H := H.wr (i := 0) rfl hW
      refine RL_do rfl rfl (Do_assign rfl) ?_
      refine (RL_nil (thenQ_n (hK5 _ _ ?_)))
      refine (WP_ret (thenQ_r (postc1 (v1 := .int _ _) rfl rfl (run_loadVar_agg agg25 sz25 (by simp [wds_length, bys_length, newTo_len, finN_len, newF_len]) (Blk.cells (Sep.blk (i := 0) H rfl))) rfl ?_)))
      exact ⟨by rw [newR_1 (by omega)]; exact congrArg (fun l : List Value => Ending.returned (.tuple #[.agg l.toArray, _])) wds_zero, H.kept⟩
    · skip
      refine (WP_skip (thenQ_n (hK2 _ _ ?_)))
      refine WP_seq_k fun K6 hK6 => ?_
      refine WP_seq_k fun K7 hK7 => ?_
      refine WP_region ?_
      refine RL_do rfl rfl (Do_move (v := .slice _ _ _) rfl) ?_
      refine RL_do rfl rfl (Do_len u46 rfl) ?_
      refine RL_do rfl rfl (Do_neq rfl rfl) ?_
      refine (RL_nil (thenQ_n (hK7 _ _ ?_)))
      first | refine WP_if rfl (fun c3 => ?_) (fun c3 => ?_) | refine WP_ifb rfl (fun c3 => ?_) (fun c3 => ?_)
      · skip
        refine WP_seq_k fun K8 hK8 => ?_
        refine WP_region ?_
        refine RL_do rfl rfl (Do_build (cs := zs25) bz25) ?_
        refine RL_exU rfl (Ex_storeAll sz25 (by simp [wds_length, bys_length, newTo_len, finN_len, newF_len]) rfl rfl (by simp [Value.oneCell']) (Sep.blk (i := 0) H rfl) (by simp [wds_length, bys_length, newTo_len, finN_len, newF_len])) ?_
        rintro w21 hW
        replace H := H.wr (i := 0) rfl hW
        refine RL_do rfl rfl (Do_assign rfl) ?_
        refine (RL_nil (thenQ_n (hK8 _ _ ?_)))
        refine (WP_ret (thenQ_r (postc1 (v1 := .int _ _) rfl rfl (run_loadVar_agg agg25 sz25 (by simp [wds_length, bys_length, newTo_len, finN_len, newF_len]) (Blk.cells (Sep.blk (i := 0) H rfl))) rfl ?_)))
        exact ⟨by rw [newR_2 (by omega) (by omega)]; exact congrArg (fun l : List Value => Ending.returned (.tuple #[.agg l.toArray, _])) wds_zero, H.kept⟩
      · skip
        refine (WP_skip (thenQ_n (hK6 _ _ ?_)))
        refine WP_seq_k fun K9 hK9 => ?_
        refine WP_region ?_
        refine RL_ex rfl rfl (Ex_alloc zero25) ?_
        rintro _ w22 ⟨b2, rfl, hA⟩
        replace H := H.alloc hA
        replace H := H.conv (i := 1) rfl wds_zero
        refine (RL_nil (thenQ_n (hK9 _ _ ?_)))
        refine WP_seq_k fun K10 hK10 => ?_
        refine WP_region ?_
        refine RL_do rfl rfl (Do_move (v := .int _ _) rfl) ?_
        refine RL_do rfl rfl (Do_and rfl rfl (mask_i64 11 (by decide) (rfl : _ = (2048 : Int)) (by omega) (by omega))) ?_
        refine RL_call rfl rfl (DoC_func en83 rfl) (word_c _ (n.toNat % 2048) (by omega) (by omega) w22) ?_
        rintro _ w23 ⟨rfl, hB⟩
        replace H := H.below hB
        refine ⟨_, rfl, ?_⟩
        refine RL_do rfl rfl (Do_move (v := .int _ _) rfl) ?_
        refine RL_do rfl rfl (Do_shr rfl rfl (by decide) (by decide) (rfl : _ = (2048 : Int))) ?_
        refine RL_call rfl rfl (DoC_func en83 rfl) (word_c _ (n.toNat / 2048) (by omega) (by omega) w23) ?_
        rintro _ w24 ⟨rfl, hB⟩
        replace H := H.below hB
        refine ⟨_, rfl, ?_⟩
        refine RL_do rfl rfl (Do_idxa1 u25 sz23 rfl rfl (by omega) (by omega) (rfl : _ = 1) (by first | exact Nat.zero_add _ | rfl)) ?_
        refine RL_exU rfl (Ex_store1 sz23 rfl rfl rfl (Sep.blk (i := 1) H rfl) (by simp [wds_length, zero64])) ?_
        rintro w25 hW
        replace H := H.wr (i := 1) rfl hW
        replace H := H.conv (i := 1) rfl (wds_set _ 1 _)
        refine RL_do rfl rfl (Do_idxa1 u25 sz23 rfl rfl (by omega) (by omega) (rfl : _ = 2) (by first | exact Nat.zero_add _ | rfl)) ?_
        refine RL_exU rfl (Ex_store1 sz23 rfl rfl rfl (Sep.blk (i := 1) H rfl) (by simp [wds_length, zero64])) ?_
        rintro w26 hW
        replace H := H.wr (i := 1) rfl hW
        replace H := H.conv (i := 1) rfl (wds_set _ 2 _)
        refine (RL_nil (thenQ_n (hK10 _ _ ?_)))
        refine WP_seq_k fun K11 hK11 => ?_
        refine WP_seq_k fun K12 hK12 => ?_
        refine WP_region ?_
        refine RL_do rfl rfl (Do_move (v := .slice _ _ _) rfl) ?_
        refine RL_do rfl rfl (Do_len u46 rfl) ?_
        refine RL_do rfl rfl (Do_move rfl) ?_
        refine (RL_nil (thenQ_n (hK12 _ _ ?_)))
        refine WP_block ?_
        obtain ⟨bd, od, cd, q1, q2, q3, hcd⟩ := hd.some (by omega)
        cases q1
        refine WP_loopS [5, 7, 8, 30, 31, 32, 33, 34, 35, 36, 37, 38, 39, 40, 41, 42, 43, 44, 45, 46, 47] (fun (g : Nat) => [(30, .int .i64 (g : Nat))]) (fun (g : Nat) wl => Sep [] w wl [.blk b1 (List.replicate 64 (.int .u16 0)) 25, .blk b2 (wds (newTo n.toNat (d.map Int.toNat) g)) 25] ∧ g ≤ 58 ∧ ∀ i, i < g → okD (d.getD i 0)) (fun (g : Nat) => 58 - g) (0) (Sl_cons rfl Sl_nil) ⟨H, ⟨by decide, fun i h => by omega⟩⟩ ?_
        clear H
        rintro k ρ w27 ⟨H, ⟨hk, hi⟩⟩
        refine WP_seq_k fun K13 hK13 => ?_
        refine WP_region ?_
        refine RL_do rfl rfl (Do_lss rfl rfl) ?_
        refine (RL_nil (thenQ_n (hK13 _ _ ?_)))
        refine WP_seq_k fun K14 hK14 => ?_
        first | refine WP_if rfl (fun c4 => ?_) (fun c4 => ?_) | refine WP_ifb rfl (fun c4 => ?_) (fun c4 => ?_)
        · skip
          refine (WP_skip (thenQ_n (hK14 _ _ ?_)))
          refine WP_seq_k fun K15 hK15 => ?_
          refine WP_block ?_
          refine WP_seq_k fun K16 hK16 => ?_
          refine WP_region ?_
          refine RL_do rfl rfl (Do_move (v := .int _ _) rfl) ?_
          refine RL_do rfl rfl (Do_idx1 u46 sz3 rfl rfl (by omega) (by omega) (by omega : _ = k) (by first | exact Nat.zero_add _ | rfl)) ?_
          refine RL_do rfl rfl (Do_load one3 rfl (Cells.get (hcd.only (Sep.only H) (by simp)) (ints_get (by omega)))) ?_
          refine RL_do rfl rfl (Do_assign (v := .int _ _) rfl) ?_
          refine RL_do rfl rfl (Do_assign (v := .int _ _) rfl) ?_
          refine (RL_nil (thenQ_n (hK16 _ _ ?_)))
          refine WP_seq_k fun K17 hK17 => ?_
          refine WP_seq_k fun K18 hK18 => ?_
          refine WP_region ?_
          refine RL_do rfl rfl (Do_move (v := .int _ _) rfl) ?_
          refine RL_do rfl rfl (Do_lss rfl rfl) ?_
          first | refine RL_split rfl rfl rfl (fun c5 => ?_) (fun c5 => ?_) | refine RL_splitb rfl rfl rfl (fun c5 => ?_) (fun c5 => ?_)
          · skip
            refine RL_off rfl rfl ?_
            refine RL_off rfl rfl ?_
            refine RL_do rfl rfl (Do_pick_t (v := .bool _) rfl rfl) ?_
            refine (RL_nil (thenQ_n (hK18 _ _ ?_)))
            refine WP_ift rfl ?_
            refine WP_seq_k fun K19 hK19 => ?_
            refine WP_region ?_
            refine RL_do rfl rfl (Do_build (cs := zs25) bz25) ?_
            refine RL_exU rfl (Ex_storeAll sz25 (by simp [wds_length, bys_length, newTo_len, finN_len, newF_len]) rfl rfl (by simp [Value.oneCell']) (Sep.blk (i := 0) H rfl) (by simp [wds_length, bys_length, newTo_len, finN_len, newF_len])) ?_
            rintro w28 hW
            replace H := H.wr (i := 0) rfl hW
            refine RL_do rfl rfl (Do_assign rfl) ?_
            refine (RL_nil (thenQ_n (hK19 _ _ ?_)))
            refine (WP_ret (thenQ_r (blockQ_r (thenQ_r (thenQ_r (blockQ_r (thenQ_r (postc1 (v1 := .int _ _) rfl rfl (run_loadVar_agg agg25 sz25 (by simp [wds_length, bys_length, newTo_len, finN_len, newF_len]) (Blk.cells (Sep.blk (i := 0) H rfl))) rfl ?_))))))))
            exact ⟨by rw [newR_3 (by omega) (by omega) (k := k) (by omega) (fun h => by have := h.1; have := h.2; omega)]; exact congrArg (fun l : List Value => Ending.returned (.tuple #[.agg l.toArray, _])) wds_zero, H.kept⟩
          · skip
            refine RL_do rfl rfl (Do_move (v := .int _ _) rfl) ?_
            refine RL_do rfl rfl (Do_gtr rfl rfl) ?_
            refine RL_do rfl rfl (Do_pick_f (v := .bool _) rfl rfl) ?_
            refine (RL_nil (thenQ_n (hK18 _ _ ?_)))
            first | refine WP_if rfl (fun c6 => ?_) (fun c6 => ?_) | refine WP_ifb rfl (fun c6 => ?_) (fun c6 => ?_)
            · skip
              refine WP_seq_k fun K20 hK20 => ?_
              refine WP_region ?_
              refine RL_do rfl rfl (Do_build (cs := zs25) bz25) ?_
              refine RL_exU rfl (Ex_storeAll sz25 (by simp [wds_length, bys_length, newTo_len, finN_len, newF_len]) rfl rfl (by simp [Value.oneCell']) (Sep.blk (i := 0) H rfl) (by simp [wds_length, bys_length, newTo_len, finN_len, newF_len])) ?_
              rintro w29 hW
              replace H := H.wr (i := 0) rfl hW
              refine RL_do rfl rfl (Do_assign rfl) ?_
              refine (RL_nil (thenQ_n (hK20 _ _ ?_)))
              refine (WP_ret (thenQ_r (blockQ_r (thenQ_r (thenQ_r (blockQ_r (thenQ_r (postc1 (v1 := .int _ _) rfl rfl (run_loadVar_agg agg25 sz25 (by simp [wds_length, bys_length, newTo_len, finN_len, newF_len]) (Blk.cells (Sep.blk (i := 0) H rfl))) rfl ?_))))))))
              exact ⟨by rw [newR_3 (by omega) (by omega) (k := k) (by omega) (fun h => by have := h.1; have := h.2; omega)]; exact congrArg (fun l : List Value => Ending.returned (.tuple #[.agg l.toArray, _])) wds_zero, H.kept⟩
            · skip
              refine (WP_skip (thenQ_n (hK17 _ _ ?_)))
              refine WP_region ?_
              refine RL_do rfl rfl (Do_move (v := .int _ _) rfl) ?_
              refine RL_do rfl rfl (Do_add rfl rfl (wrap_i64 (by omega) (by omega))) ?_
              refine RL_do rfl rfl (Do_move (v := .int _ _) rfl) ?_
              refine RL_call rfl rfl (DoC_func en83 rfl) (word_c _ (wd (d.map Int.toNat) k) (by have := wd_toNat d k; omega) (by have := wd_toNat d k; omega) w27) ?_
              rintro _ w30 ⟨rfl, hB⟩
              replace H := H.below hB
              refine ⟨_, rfl, ?_⟩
              refine RL_do rfl rfl (Do_idxa1 u25 sz23 rfl rfl (by omega) (by omega) (by omega : _ = 3 + k) (by first | exact Nat.zero_add _ | rfl)) ?_
              refine RL_exU rfl (Ex_store1 sz23 rfl rfl rfl (Sep.blk (i := 1) H rfl) (by simp [wds_length, newTo_len]; omega)) ?_
              rintro w31 hW
              replace H := H.wr (i := 1) rfl hW
              replace H := H.conv (i := 1) rfl (wds_set _ (3 + k) _)
              refine (RL_nil (blockQ_n (thenQ_n (hK15 _ _ ?_))))
              refine WP_region ?_
              refine RL_do rfl rfl (Do_add rfl rfl (wrap_i64 (by omega) (by omega))) ?_
              refine RL_do rfl rfl (Do_move (v := .int _ _) rfl) ?_
              refine (RL_nil (thenQ_n (And.intro ?_ ?_)))
              · repeat' (first | with_reducible exact Fr_refl | refine Fr_upd rfl ?_ | refine Fr_over rfl rfl ?_)
              · refine ⟨k + 1, (Sl_cons (by first | rfl | exact congrArg (Value.int _) (by omega)) Sl_nil), ?_, ?_⟩
                · exact ⟨H, by omega, upto_succ hi ⟨by omega, by omega⟩⟩
                · simp; omega
        · skip
          refine (WP_exit (thenQ_x (thenQ_x (blockQ_eq (thenQ_n (hK11 _ _ ?_))))))
          refine WP_seq_k fun K21 hK21 => ?_
          refine WP_region ?_
          (obtain rfl : k = 58 := by omega)
          replace H := H.conv (i := 1) rfl (congrArg wds (newF_eq rfl))
          refine RL_call rfl rfl (DoC_func en89 rfl) (finish_c (newF n.toNat (d.map Int.toNat)) (newF_len _ _) (newF_small (by omega) hi) _ (by have := Sep.ge0 (i := 1) H rfl; omega) w27 (hg.only (Sep.only H) (by simp)) (Sep.blk (i := 1) H rfl)) ?_
          rintro _ w32 ⟨rfl, hO, hB⟩
          replace H := H.write (i := 1) rfl hB hO
          refine ⟨_, rfl, ?_⟩
          refine (RL_nil (thenQ_n (hK21 _ _ ?_)))
          refine WP_seq_k fun K22 hK22 => ?_
          refine WP_region ?_
          refine RL_do rfl rfl (Do_loads agg25 rfl sz25 (by simp [wds_length, bys_length, newTo_len, finN_len, newF_len]) (Blk.cells (Sep.blk (i := 1) H rfl))) ?_
          refine RL_exU rfl (Ex_storeAll sz25 (by simp [wds_length, bys_length, newTo_len, finN_len, newF_len]) rfl rfl (one_wds) (Sep.blk (i := 0) H rfl) (by simp [wds_length, bys_length, newTo_len, finN_len, newF_len])) ?_
          rintro w33 hW
          replace H := H.wr (i := 0) rfl hW
          refine RL_do rfl rfl (Do_assign rfl) ?_
          refine (RL_nil (thenQ_n (hK22 _ _ ?_)))
          refine (WP_ret (postc1 (v1 := .int _ _) rfl rfl (run_loadVar_agg agg25 sz25 (by simp [wds_length, bys_length, newTo_len, finN_len, newF_len]) (Blk.cells (Sep.blk (i := 0) H rfl))) rfl ?_))
          exact ⟨by rw [newR_4 (by omega) (by omega) (fun i h => hi i (by omega))]; rfl, H.kept⟩
end Go.Proofs.YtafgmocdnjdmoaaDoor
