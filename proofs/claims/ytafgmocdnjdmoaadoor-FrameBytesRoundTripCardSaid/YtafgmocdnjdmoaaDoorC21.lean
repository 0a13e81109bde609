/- What the walks and the laws stand on; no condition but those that stand in the statements. -/
import Derived.Test.YtafgmocdnjdmoaaDoorRows
import Derived.Test.YtafgmocdnjdmoaaDoorC20
namespace Go.Proofs.YtafgmocdnjdmoaaDoor
open Go.RowKit Go.OB Go.Fr1
theorem en101 : Enters Tryd.prog 101 := ⟨_, Tryd.func101, rfl, by kernel_rfl⟩
theorem en102 : Enters Tryd.prog 102 := ⟨_, Tryd.func102, rfl, by kernel_rfl⟩
theorem en103 : Enters Tryd.prog 103 := ⟨_, Tryd.func103, rfl, by kernel_rfl⟩
theorem en108 : Enters Tryd.prog 108 := ⟨_, Tryd.func108, rfl, by kernel_rfl⟩
/-- orangebox/orangeboxref1.checked -/
theorem checkedRef_c (f : List Nat) (hl : f.length = 64) (hs : Small f) (w : World) :
    Calls Tryd.prog 108 #[.agg (wds f).toArray] w fun e w' => e = .returned (.agg (wds ((f.set 62 (wordN (checkN f / 2048))).set 63 (wordN (checkN f % 2048)))).toArray) ∧ Below w.heap.size w w' := by
  have n1 := checkN_lt f
  have n2 := wordN_lt (d := checkN f / 2048) (by omega)
  have n3 := wordN_lt (d := checkN f % 2048) (by omega)
  refine calls_of_WP (args := [.agg (wds f).toArray]) 17 Tryd.func108 rfl rfl rfl ?_
  have H := Sep.start [] w
  refine WP_seq_k fun K1 hK1 => ?_
  refine WP_region ?_
  refine RL_ex rfl rfl (Ex_box rfl) ?_
  rintro _ w219 ⟨b43, rfl, hA⟩
  replace H := H.alloc hA
  refine RL_ex rfl rfl (Ex_alloc zero25) ?_
  rintro _ w220 ⟨b44, rfl, hA⟩
  replace H := H.alloc hA
  refine (RL_nil (thenQ_n (hK1 _ _ ?_)))
  refine WP_seq_k fun K2 hK2 => ?_
  refine WP_region ?_
  refine RL_do rfl rfl (Do_loads agg25 rfl sz25 (by simp [wds_length, bys_length, hl]) (Blk.cells (Sep.blk (i := 0) H rfl))) ?_
  refine RL_call rfl rfl (DoC_func en103 rfl) (checkRef_c f hl hs w220) ?_
  rintro _ w221 ⟨rfl, hB⟩
  replace H := H.below hB
  refine ⟨_, rfl, ?_⟩
  refine RL_do rfl rfl (Do_assign (v := .int _ _) rfl) ?_
  refine (RL_nil (thenQ_n (hK2 _ _ ?_)))
  refine WP_seq_k fun K3 hK3 => ?_
  refine WP_region ?_
  refine RL_do rfl rfl (Do_move (v := .int _ _) rfl) ?_
  refine RL_do rfl rfl (Do_quo rfl rfl (by omega) (by omega) (wrap_i64 (by omega) (by omega))) ?_
  refine RL_call rfl rfl (DoC_func en84 rfl) (wordRef_c _ (checkN f / 2048) (by omega) (by omega) w221) ?_
  rintro _ w222 ⟨rfl, hB⟩
  replace H := H.below hB
  refine ⟨_, rfl, ?_⟩
  refine RL_do rfl rfl (Do_conv u3 u23 rfl (wrap_u16 (by omega) (by omega))) ?_
  refine RL_do rfl rfl (Do_move (v := .int _ _) rfl) ?_
  refine RL_do rfl rfl (Do_rem rfl rfl (by omega) (by omega)) ?_
  refine RL_call rfl rfl (DoC_func en84 rfl) (wordRef_c _ (checkN f % 2048) (by omega) (by omega) w222) ?_
  rintro _ w223 ⟨rfl, hB⟩
  replace H := H.below hB
  refine ⟨_, rfl, ?_⟩
  refine RL_do rfl rfl (Do_conv u3 u23 rfl (wrap_u16 (by omega) (by omega))) ?_
  refine RL_do rfl rfl (Do_idxa1 u25 sz23 rfl rfl (by omega) (by omega) (rfl : _ = 62) (by first | exact Nat.zero_add _ | rfl)) ?_
  refine RL_exU rfl (Ex_store1 sz23 rfl rfl rfl (Sep.blk (i := 0) H rfl) (by simp [wds_length, hl])) ?_
  rintro w224 hW
  replace H := H.wr (i := 0) rfl hW
  replace H := H.conv (i := 0) rfl (wds_set _ 62 _)
  refine RL_do rfl rfl (Do_idxa1 u25 sz23 rfl rfl (by omega) (by omega) (rfl : _ = 63) (by first | exact Nat.zero_add _ | rfl)) ?_
  refine RL_exU rfl (Ex_store1 sz23 rfl rfl rfl (Sep.blk (i := 0) H rfl) (by simp [wds_length, hl])) ?_
  rintro w225 hW
  replace H := H.wr (i := 0) rfl hW
  replace H := H.conv (i := 0) rfl (wds_set _ 63 _)
  refine (RL_nil (thenQ_n (hK3 _ _ ?_)))
  refine WP_seq_k fun K4 hK4 => ?_
  refine WP_region ?_
  refine RL_do rfl rfl (Do_loads agg25 rfl sz25 (by simp [wds_length, bys_length, hl]) (Blk.cells (Sep.blk (i := 0) H rfl))) ?_
  refine RL_exU rfl (Ex_storeAll sz25 (by simp [wds_length, bys_length, hl]) rfl rfl (one_wds) (Sep.blk (i := 1) H rfl) (by simp [wds_length, bys_length, hl])) ?_
  rintro w226 hW
  replace H := H.wr (i := 1) rfl hW
  refine (RL_nil (thenQ_n (hK4 _ _ ?_)))
  refine (WP_ret (postc rfl rfl (run_loadVar_agg agg25 sz25 (by simp [wds_length, bys_length, hl]) (Blk.cells (Sep.blk (i := 1) H rfl))) ?_))
  exact ⟨rfl, H.kept⟩

/-- orangebox/orangeboxref1.sealed -/
theorem sealedRef_c (f : List Nat) (hl : f.length = 64) (hs : Small f) (w : World) :
    Calls Tryd.prog 98 #[.agg (wds f).toArray] w fun e w' => e = .returned (.agg (wds (finN (sealF f))).toArray) ∧ Below w.heap.size w w' := by
  refine calls_of_WP (args := [.agg (wds f).toArray]) 29 Tryd.func98 rfl rfl rfl ?_
  have H := Sep.start [] w
  refine WP_seq_k fun K1 hK1 => ?_
  refine WP_region ?_
  refine RL_ex rfl rfl (Ex_box rfl) ?_
  rintro _ w227 ⟨b45, rfl, hA⟩
  replace H := H.alloc hA
  refine RL_ex rfl rfl (Ex_alloc zero25) ?_
  rintro _ w228 ⟨b46, rfl, hA⟩
  replace H := H.alloc hA
  refine (RL_nil (thenQ_n (hK1 _ _ ?_)))
  refine WP_seq_k fun K2 hK2 => ?_
  refine WP_seq_k fun K3 hK3 => ?_
  refine WP_region ?_
  refine RL_do rfl rfl (Do_assign rfl) ?_
  refine (RL_nil (thenQ_n (hK3 _ _ ?_)))
  refine WP_block ?_
  refine WP_loopS [3, 4, 5, 6, 7, 8, 9, 10, 11, 12, 13, 14, 15, 16] (fun (g : Nat) => [(3, .int .i64 ((g : Nat) + 1))]) (fun (g : Nat) wl => Sep [] w wl [.blk b45 (wds (sealTo f g)) 25, .blk b46 (List.replicate 64 (.int .u16 0)) 25] ∧ g ≤ 60) (fun (g : Nat) => 60 - g) (0) (Sl_cons rfl Sl_nil) ⟨H, by decide⟩ ?_
  clear H
  rintro k ρ w229 ⟨H, hk⟩
  refine WP_seq_k fun K4 hK4 => ?_
  refine WP_seq_k fun K5 hK5 => ?_
  refine WP_region ?_
  refine RL_do rfl rfl (Do_move (v := .int _ _) rfl) ?_
  refine RL_do rfl rfl (Do_leq rfl rfl) ?_
  refine (RL_nil (thenQ_n (hK5 _ _ ?_)))
  first | refine WP_if rfl (fun c1 => ?_) (fun c1 => ?_) | refine WP_ifb rfl (fun c1 => ?_) (fun c1 => ?_)
  · skip
    refine (WP_skip (thenQ_n (hK4 _ _ ?_)))
    refine WP_seq_k fun K6 hK6 => ?_
    refine WP_block ?_
    refine WP_region ?_
    refine RL_do rfl rfl (Do_move (v := .int _ _) rfl) ?_
    have q1 := sealTo_wd hl k (by omega) (k + 1)
    rw [if_neg (by omega)] at q1
    have q2 := hs (k + 1)
    have q3 := wordN_lt (d := wd f (k + 1) % 2048) (by omega)
    refine RL_do rfl rfl (Do_move (v := .int _ _) rfl) ?_
    refine RL_do rfl rfl (Do_idxa1 u25 sz23 rfl rfl (by omega) (by omega) (by omega : _ = k + 1) (by first | exact Nat.zero_add _ | rfl)) ?_
    refine RL_do rfl rfl (Do_load one23 rfl (Blk.cell (Sep.blk (i := 0) H rfl) (wds_get (by rw [sealTo_len]; omega)))) ?_
    refine RL_do rfl rfl (Do_conv u23 u3 rfl (wrap_i64 (by omega) (by omega))) ?_
    refine RL_do rfl rfl (Do_rem rfl rfl (by omega) (by omega)) ?_
    refine RL_call rfl rfl (DoC_func en84 rfl) (wordRef_c _ (wd f (k + 1) % 2048) (by omega) (by omega) w229) ?_
    rintro _ w230 ⟨rfl, hB⟩
    replace H := H.below hB
    refine ⟨_, rfl, ?_⟩
    refine RL_do rfl rfl (Do_conv u3 u23 rfl (wrap_u16 (by omega) (by omega))) ?_
    refine RL_do rfl rfl (Do_idxa1 u25 sz23 rfl rfl (by omega) (by omega) (by omega : _ = k + 1) (by first | exact Nat.zero_add _ | rfl)) ?_
    refine RL_exU rfl (Ex_store1 sz23 rfl rfl rfl (Sep.blk (i := 0) H rfl) (by simp [wds_length, sealTo_len]; omega)) ?_
    rintro w231 hW
    replace H := H.wr (i := 0) rfl hW
    replace H := H.conv (i := 0) rfl (wds_set _ (k + 1) _ : _ = wds (sealTo f (k + 1)))
    refine (RL_nil (blockQ_n (thenQ_n (hK6 _ _ ?_))))
    refine WP_region ?_
    refine RL_do rfl rfl (Do_move (v := .int _ _) rfl) ?_
    refine RL_do rfl rfl (Do_add rfl rfl (wrap_i64 (by omega) (by omega))) ?_
    refine RL_do rfl rfl (Do_assign (v := .int _ _) rfl) ?_
    refine (RL_nil (thenQ_n (And.intro ?_ ?_)))
    · repeat' (first | with_reducible exact Fr_refl | refine Fr_upd rfl ?_ | refine Fr_over rfl rfl ?_)
    · refine ⟨k + 1, (Sl_cons (by first | rfl | exact congrArg (Value.int _) (by omega)) Sl_nil), ?_, ?_⟩
      · exact ⟨H, by omega⟩
      · simp; omega
  · skip
    refine (WP_exit (thenQ_x (thenQ_x (blockQ_eq (thenQ_n (hK2 _ _ ?_))))))
    refine WP_seq_k fun K7 hK7 => ?_
    refine WP_region ?_
    (obtain rfl : k = 60 := by omega)
    replace H := H.conv (i := 0) rfl (congrArg wds (sealF_eq rfl))
    have ls := (sealF_len f).trans hl
    have ss := sealF_small hs
    have l1 := (fin1_len (sealF f)).trans ls
    have s1 := fin1_small ss
    have l2 := (fin2_len (sealF f)).trans ls
    have s2 := fin2_small ss
    have n1 := numN_lt (sealF f)
    have n2 := tab_lt (numN (sealF f) % 4)
    have n3 := sumN_lt (fin1 (sealF f))
    have n4 := wordN_lt n3
    refine RL_do rfl rfl (Do_loads agg25 rfl sz25 (by simp [wds_length, bys_length, hl, fin1_len, fin2_len, finN_len, sealF_len]) (Blk.cells (Sep.blk (i := 0) H rfl))) ?_
    refine RL_call rfl rfl (DoC_func en101 rfl) (numberRef_c (sealF f) ls ss w229) ?_
    rintro _ w232 ⟨rfl, hB⟩
    replace H := H.below hB
    refine ⟨_, rfl, ?_⟩
    refine RL_call rfl rfl (DoC_func en88 rfl) (syncOf_c _ (numN (sealF f)) rfl n1 w232) ?_
    rintro _ w233 ⟨rfl, hB⟩
    replace H := H.below hB
    refine ⟨_, rfl, ?_⟩
    refine RL_do rfl rfl (Do_conv u3 u23 rfl (wrap_u16 (by omega) (by omega))) ?_
    refine RL_do rfl rfl (Do_idxa1 u25 sz23 rfl rfl (by omega) (by omega) (rfl : _ = 0) (by first | exact Nat.zero_add _ | rfl)) ?_
    refine RL_exU rfl (Ex_store1 sz23 rfl rfl rfl (Sep.blk (i := 0) H rfl) (by simp [wds_length, sealF_len, hl])) ?_
    rintro w234 hW
    replace H := H.wr (i := 0) rfl hW
    replace H := H.conv (i := 0) rfl (wds_set (sealF f) 0 _ : _ = wds (fin1 (sealF f)))
    refine (RL_nil (thenQ_n (hK7 _ _ ?_)))
    refine WP_seq_k fun K8 hK8 => ?_
    refine WP_region ?_
    refine RL_do rfl rfl (Do_loads agg25 rfl sz25 (by simp [wds_length, bys_length, hl, fin1_len, fin2_len, finN_len, sealF_len]) (Blk.cells (Sep.blk (i := 0) H rfl))) ?_
    refine RL_call rfl rfl (DoC_func en102 rfl) (sumRef_c (fin1 (sealF f)) l1 s1 w234) ?_
    rintro _ w235 ⟨rfl, hB⟩
    replace H := H.below hB
    refine ⟨_, rfl, ?_⟩
    refine RL_call rfl rfl (DoC_func en84 rfl) (wordRef_c _ _ rfl n3 w235) ?_
    rintro _ w236 ⟨rfl, hB⟩
    replace H := H.below hB
    refine ⟨_, rfl, ?_⟩
    refine RL_do rfl rfl (Do_conv u3 u23 rfl (wrap_u16 (by omega) (by omega))) ?_
    refine RL_do rfl rfl (Do_idxa1 u25 sz23 rfl rfl (by omega) (by omega) (rfl : _ = 61) (by first | exact Nat.zero_add _ | rfl)) ?_
    refine RL_exU rfl (Ex_store1 sz23 rfl rfl rfl (Sep.blk (i := 0) H rfl) (by simp [wds_length, fin1_len, sealF_len, hl])) ?_
    rintro w237 hW
    replace H := H.wr (i := 0) rfl hW
    replace H := H.conv (i := 0) rfl (wds_set (fin1 (sealF f)) 61 _ : _ = wds (fin2 (sealF f)))
    refine (RL_nil (thenQ_n (hK8 _ _ ?_)))
    refine WP_seq_k fun K9 hK9 => ?_
    refine WP_region ?_
    refine RL_do rfl rfl (Do_loads agg25 rfl sz25 (by simp [wds_length, bys_length, hl, fin1_len, fin2_len, finN_len, sealF_len]) (Blk.cells (Sep.blk (i := 0) H rfl))) ?_
    refine RL_call rfl rfl (DoC_func en108 rfl) (checkedRef_c (fin2 (sealF f)) l2 s2 w237) ?_
    rintro _ w238 ⟨rfl, hB⟩
    replace H := H.below hB
    refine ⟨_, rfl, ?_⟩
    refine RL_exU rfl (Ex_storeAll sz25 (by simp [wds_length, bys_length, hl, fin1_len, fin2_len, finN_len, sealF_len]) rfl rfl (one_wds) (Sep.blk (i := 1) H rfl) (by simp [wds_length, bys_length, hl, fin1_len, fin2_len, finN_len, sealF_len])) ?_
    rintro w239 hW
    replace H := H.wr (i := 1) rfl hW
    refine (RL_nil (thenQ_n (hK9 _ _ ?_)))
    refine (WP_ret (postc rfl rfl (run_loadVar_agg agg25 sz25 (by simp [wds_length, bys_length, hl, fin1_len, fin2_len, finN_len, sealF_len]) (Blk.cells (Sep.blk (i := 1) H rfl))) ?_))
    exact ⟨rfl, H.kept⟩
end Go.Proofs.YtafgmocdnjdmoaaDoor
