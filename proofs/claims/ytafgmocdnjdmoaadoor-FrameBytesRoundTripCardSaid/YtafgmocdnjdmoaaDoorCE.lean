/- Walks: what each function computes, for every argument; no condition but those that stand in the statements. -/
import Derived.Test.YtafgmocdnjdmoaaDoorRows
import Derived.Test.YtafgmocdnjdmoaaDoorCA
import Derived.Test.YtafgmocdnjdmoaaDoorFrm2
namespace Go.Proofs.YtafgmocdnjdmoaaDoor
open Go.RowKit Go.OB Go.Fr1
theorem u50 : Tryd.prog.underlying 50 = some (.slice 80) := Tryd.underlying50
theorem el80 : El Tryd.prog 80 2 16 ([.int .i64 0, .int .i64 0]) := ⟨by kernel_rfl, by kernel_rfl, by kernel_rfl, by decide, by decide⟩
theorem bt80 (a0 : Int) (a1 : Int) : Tryd.prog.built 80 [(0, .int .i64 a0), (1, .int .i64 a1)] = some [.int .i64 a0, .int .i64 a1].toArray := by kernel_rfl
theorem en94 : Enters Tryd.prog 94 := ⟨_, Tryd.func94, rfl, by kernel_rfl⟩
theorem en106 : Enters Tryd.prog 106 := ⟨_, Tryd.func106, rfl, by kernel_rfl⟩
/-- orangebox/frame.wordIn -/
theorem getW_c (xs : List Nat) (hL : Byte xs) (b o : Nat) (hl : 96 ≤ xs.length) (i : Nat) (hi : i < 64) (w : World) (hc : Cells w ⟨b, o, none⟩ (bys xs)) :
    Calls Tryd.prog 106 #[.pointer (some ⟨b, o, none⟩), .int .i64 i] w fun e w' => e = .returned (.int .u16 (getW xs 0 i : Nat)) ∧ Below w.heap.size w w' := by
  have q1 := hL (i / 2 * 3)
  have q2 := hL (i / 2 * 3 + 1)
  have q3 := hL (i / 2 * 3 + 2)
  refine calls_of_WP (args := [.pointer (some ⟨b, o, none⟩), .int .i64 i]) 45 Tryd.func106 rfl rfl rfl ?_
  have H := Sep.start [] w
  refine WP_seq_k fun K1 hK1 => ?_
  refine WP_region ?_
  refine RL_do rfl rfl (Do_assign rfl) ?_
  refine (RL_nil (thenQ_n (hK1 _ _ ?_)))
  refine WP_seq_k fun K2 hK2 => ?_
  refine WP_region ?_
  refine RL_do rfl rfl (Do_move (v := .int _ _) rfl) ?_
  refine RL_do rfl rfl (Do_quo rfl rfl (by omega) (by omega) (wrap_i64 (by omega) (by omega))) ?_
  refine RL_do rfl rfl (Do_mul rfl rfl (wrap_i64 (by omega) (by omega))) ?_
  refine RL_do rfl rfl (Do_assign (v := .int _ _) rfl) ?_
  refine (RL_nil (thenQ_n (hK2 _ _ ?_)))
  refine WP_seq_k fun K3 hK3 => ?_
  refine WP_seq_k fun K4 hK4 => ?_
  refine WP_region ?_
  refine RL_do rfl rfl (Do_move (v := .int _ _) rfl) ?_
  refine RL_do rfl rfl (Do_rem rfl rfl (by omega) (by omega)) ?_
  refine RL_do rfl rfl (Do_eql rfl rfl) ?_
  refine (RL_nil (thenQ_n (hK4 _ _ ?_)))
  first | refine WP_if rfl (fun c1 => ?_) (fun c1 => ?_) | refine WP_ifb rfl (fun c1 => ?_) (fun c1 => ?_)
  · skip
    refine WP_seq_k fun K5 hK5 => ?_
    refine WP_mix [.pure, .pure, .pure, .pure, .read, .pure, .pure, .pure, .pure, .pure, .pure, .pure, .read, .pure, .pure, .pure, .pure] mixed (by kernel_rfl) (by kernel_rfl) (by kernel_rfl) ?_
    refine XL_pure rfl rfl rfl (fun w' => Do_move (v := .pointer _) rfl) ?_
    refine XL_pure rfl rfl rfl (fun w' => Do_move (v := .int _ _) rfl) ?_
    refine XL_pure rfl rfl rfl (fun w' => Do_nilCheck rfl) ?_
    refine XL_pure rfl rfl rfl (fun w' => Do_idxa1 u116 sz5 rfl rfl (by omega) (by omega) (by omega : _ = i / 2 * 3) (by first | exact Nat.zero_add _ | rfl)) ?_
    refine XL_read rfl rfl rfl (fun w' hw' => Do_load one5 rfl (Cells.get (hc.only (Sep.only (Sep.sees H hw')) (by simp)) (bys_getw (by omega)))) ?_
    refine XL_pure rfl rfl rfl (fun w' => Do_conv u5 u23 rfl (wrap_u16 (by omega) (by omega))) ?_
    refine XL_pure rfl rfl rfl (fun w' => Do_shl rfl rfl (by decide) (by decide) (rfl : _ = (16 : Int)) (wrap_u16 (by omega) (by omega))) ?_
    refine XL_pure rfl rfl rfl (fun w' => Do_move (v := .pointer _) rfl) ?_
    refine XL_pure rfl rfl rfl (fun w' => Do_move (v := .int _ _) rfl) ?_
    refine XL_pure rfl rfl rfl (fun w' => Do_add rfl rfl (wrap_i64 (by omega) (by omega))) ?_
    refine XL_pure rfl rfl rfl (fun w' => Do_nilCheck rfl) ?_
    refine XL_pure rfl rfl rfl (fun w' => Do_idxa1 u116 sz5 rfl rfl (by omega) (by omega) (by omega : _ = i / 2 * 3 + 1) (by first | exact Nat.zero_add _ | rfl)) ?_
    refine XL_read rfl rfl rfl (fun w' hw' => Do_load one5 rfl (Cells.get (hc.only (Sep.only (Sep.sees H hw')) (by simp)) (bys_getw (by omega)))) ?_
    refine XL_pure rfl rfl rfl (fun w' => Do_conv u5 u23 rfl (wrap_u16 (by omega) (by omega))) ?_
    refine XL_pure rfl rfl rfl (fun w' => Do_shr rfl rfl (by decide) (by decide) (rfl : _ = (16 : Int))) ?_
    refine XL_pure rfl rfl rfl (fun w' => Do_or rfl rfl (join_u16 4 (rfl : _ = (16 : Int)) (by omega) (by omega) (by omega) (by omega) (by omega) (by omega))) ?_
    refine XL_pure rfl rfl rfl (fun w' => Do_assign (v := .int _ _) rfl) ?_
    refine XL_nil fun w47 hS => ?_
    replace H := H.sees hS
    refine (thenQ_n (hK5 _ _ ?_))
    refine (WP_ret (thenQ_r (post1 (v1 := .int _ _) rfl rfl ?_)))
    exact ⟨reti (by rw [getW_even (by omega)]; simp only [Nat.zero_add]; omega), H.kept⟩
  · skip
    refine (WP_skip (thenQ_n (hK3 _ _ ?_)))
    refine WP_seq_k fun K6 hK6 => ?_
    refine WP_mix [.pure, .pure, .pure, .pure, .pure, .read, .pure, .pure, .pure, .pure, .pure, .pure, .pure, .pure, .read, .pure, .pure, .pure] mixed (by kernel_rfl) (by kernel_rfl) (by kernel_rfl) ?_
    refine XL_pure rfl rfl rfl (fun w' => Do_move (v := .pointer _) rfl) ?_
    refine XL_pure rfl rfl rfl (fun w' => Do_move (v := .int _ _) rfl) ?_
    refine XL_pure rfl rfl rfl (fun w' => Do_add rfl rfl (wrap_i64 (by omega) (by omega))) ?_
    refine XL_pure rfl rfl rfl (fun w' => Do_nilCheck rfl) ?_
    refine XL_pure rfl rfl rfl (fun w' => Do_idxa1 u116 sz5 rfl rfl (by omega) (by omega) (by omega : _ = i / 2 * 3 + 1) (by first | exact Nat.zero_add _ | rfl)) ?_
    refine XL_read rfl rfl rfl (fun w' hw' => Do_load one5 rfl (Cells.get (hc.only (Sep.only (Sep.sees H hw')) (by simp)) (bys_getw (by omega)))) ?_
    refine XL_pure rfl rfl rfl (fun w' => Do_conv u5 u23 rfl (wrap_u16 (by omega) (by omega))) ?_
    refine XL_pure rfl rfl rfl (fun w' => Do_and rfl rfl (mask_u16 4 (by decide) (rfl : _ = (16 : Int)) (by omega) (by omega))) ?_
    refine XL_pure rfl rfl rfl (fun w' => Do_shl rfl rfl (by decide) (by decide) (rfl : _ = (256 : Int)) (wrap_u16 (by omega) (by omega))) ?_
    refine XL_pure rfl rfl rfl (fun w' => Do_move (v := .pointer _) rfl) ?_
    refine XL_pure rfl rfl rfl (fun w' => Do_move (v := .int _ _) rfl) ?_
    refine XL_pure rfl rfl rfl (fun w' => Do_add rfl rfl (wrap_i64 (by omega) (by omega))) ?_
    refine XL_pure rfl rfl rfl (fun w' => Do_nilCheck rfl) ?_
    refine XL_pure rfl rfl rfl (fun w' => Do_idxa1 u116 sz5 rfl rfl (by omega) (by omega) (by omega : _ = i / 2 * 3 + 2) (by first | exact Nat.zero_add _ | rfl)) ?_
    refine XL_read rfl rfl rfl (fun w' hw' => Do_load one5 rfl (Cells.get (hc.only (Sep.only (Sep.sees H hw')) (by simp)) (bys_getw (by omega)))) ?_
    refine XL_pure rfl rfl rfl (fun w' => Do_conv u5 u23 rfl (wrap_u16 (by omega) (by omega))) ?_
    refine XL_pure rfl rfl rfl (fun w' => Do_or rfl rfl (join_u16 8 (rfl : _ = (256 : Int)) (by omega) (by omega) (by omega) (by omega) (by omega) (by omega))) ?_
    refine XL_pure rfl rfl rfl (fun w' => Do_assign (v := .int _ _) rfl) ?_
    refine XL_nil fun w48 hS => ?_
    replace H := H.sees hS
    refine (thenQ_n (hK6 _ _ ?_))
    refine (WP_ret (post1 (v1 := .int _ _) rfl rfl ?_))
    exact ⟨reti (by rw [getW_odd (by omega)]; simp only [Nat.zero_add]; omega), H.kept⟩

/-- orangebox/frame.load -/
theorem load_c (xs : List Nat) (hL : Byte xs) (b o : Nat) (hl : 96 ≤ xs.length) (w : World) (hc : Cells w ⟨b, o, none⟩ (bys xs)) :
    Calls Tryd.prog 94 #[.pointer (some ⟨b, o, none⟩)] w fun e w' => e = .returned (.agg (wds (loadN xs 0)).toArray) ∧ Below w.heap.size w w' := by
  refine calls_of_WP (args := [.pointer (some ⟨b, o, none⟩)]) 15 Tryd.func94 rfl rfl rfl ?_
  have H := Sep.start [] w
  refine WP_seq_k fun K1 hK1 => ?_
  refine WP_region ?_
  refine RL_ex rfl rfl (Ex_alloc zero25) ?_
  rintro _ w49 ⟨b4, rfl, hA⟩
  replace H := H.alloc hA
  refine (RL_nil (thenQ_n (hK1 _ _ ?_)))
  refine WP_seq_k fun K2 hK2 => ?_
  refine WP_region ?_
  refine RL_ex rfl rfl (Ex_alloc zero25) ?_
  rintro _ w50 ⟨b5, rfl, hA⟩
  replace H := H.alloc hA
  replace H := H.conv (i := 1) rfl wds_zero
  refine (RL_nil (thenQ_n (hK2 _ _ ?_)))
  refine WP_seq_k fun K3 hK3 => ?_
  refine WP_seq_k fun K4 hK4 => ?_
  refine WP_region ?_
  refine RL_do rfl rfl (Do_move rfl) ?_
  refine (RL_nil (thenQ_n (hK4 _ _ ?_)))
  refine WP_block ?_
  refine WP_loopS [4, 5, 6, 7, 8, 9, 10, 11, 12, 13] (fun (g : Nat) => [(5, .int .i64 (g : Nat))]) (fun (g : Nat) wl => Sep [] w wl [.blk b4 (List.replicate 64 (.int .u16 0)) 25, .blk b5 (wds (loadTo xs 0 g)) 25] ∧ g ≤ 64) (fun (g : Nat) => 64 - g) (0) (Sl_cons rfl Sl_nil) ⟨H, by decide⟩ ?_
  clear H
  rintro k ρ w51 ⟨H, hk⟩
  refine WP_seq_k fun K5 hK5 => ?_
  refine WP_region ?_
  refine RL_do rfl rfl (Do_lss rfl rfl) ?_
  refine (RL_nil (thenQ_n (hK5 _ _ ?_)))
  refine WP_seq_k fun K6 hK6 => ?_
  first | refine WP_if rfl (fun c1 => ?_) (fun c1 => ?_) | refine WP_ifb rfl (fun c1 => ?_) (fun c1 => ?_)
  · skip
    refine (WP_skip (thenQ_n (hK6 _ _ ?_)))
    refine WP_seq_k fun K7 hK7 => ?_
    refine WP_block ?_
    refine WP_seq_k fun K8 hK8 => ?_
    refine WP_region ?_
    refine RL_do rfl rfl (Do_move (v := .int _ _) rfl) ?_
    refine RL_do rfl rfl (Do_assign (v := .int _ _) rfl) ?_
    refine (RL_nil (thenQ_n (hK8 _ _ ?_)))
    refine WP_region ?_
    refine RL_do rfl rfl (Do_move (v := .int _ _) rfl) ?_
    refine RL_do rfl rfl (Do_move (v := .pointer _) rfl) ?_
    refine RL_do rfl rfl (Do_move (v := .int _ _) rfl) ?_
    refine RL_call rfl rfl (DoC_func en106 rfl) (getW_c xs hL _ _ hl k (by omega) w51 (hc.only (Sep.only H) (by simp))) ?_
    rintro _ w52 ⟨rfl, hB⟩
    replace H := H.below hB
    refine ⟨_, rfl, ?_⟩
    refine RL_do rfl rfl (Do_idxa1 u25 sz23 rfl rfl (by omega) (by omega) (by omega : _ = k) (by first | exact Nat.zero_add _ | rfl)) ?_
    refine RL_exU rfl (Ex_store1 sz23 rfl rfl rfl (Sep.blk (i := 1) H rfl) (by simp [wds_length, loadTo_len]; omega)) ?_
    rintro w53 hW
    replace H := H.wr (i := 1) rfl hW
    replace H := H.conv (i := 1) rfl (wds_set _ _ _)
    refine (RL_nil (blockQ_n (thenQ_n (hK7 _ _ ?_))))
    refine WP_region ?_
    refine RL_do rfl rfl (Do_add rfl rfl (wrap_i64 (by omega) (by omega))) ?_
    refine RL_do rfl rfl (Do_move (v := .int _ _) rfl) ?_
    refine (RL_nil (thenQ_n (And.intro ?_ ?_)))
    · repeat' (first | with_reducible exact Fr_refl | refine Fr_upd rfl ?_ | refine Fr_over rfl rfl ?_)
    · refine ⟨k + 1, (Sl_cons (by first | rfl | exact congrArg (Value.int _) (by omega)) Sl_nil), ?_, ?_⟩
      · exact ⟨H, by omega⟩
      · simp; omega
  · skip
    refine (WP_exit (thenQ_x (thenQ_x (blockQ_eq (thenQ_n (hK3 _ _ ?_))))))
    refine WP_seq_k fun K9 hK9 => ?_
    refine WP_region ?_
    (obtain rfl : k = 64 := by omega)
    replace H := H.conv (i := 1) rfl (congrArg wds (loadN_eq rfl))
    refine RL_do rfl rfl (Do_loads agg25 rfl sz25 (by simp [wds_length, bys_length, loadN_len, loadTo_len]) (Blk.cells (Sep.blk (i := 1) H rfl))) ?_
    refine RL_exU rfl (Ex_storeAll sz25 (by simp [wds_length, bys_length, loadN_len, loadTo_len]) rfl rfl (one_wds) (Sep.blk (i := 0) H rfl) (by simp [wds_length, bys_length, loadN_len, loadTo_len])) ?_
    rintro w54 hW
    replace H := H.wr (i := 0) rfl hW
    refine (RL_nil (thenQ_n (hK9 _ _ ?_)))
    refine (WP_ret (postc rfl rfl (run_loadVar_agg agg25 sz25 (by simp [wds_length, bys_length, loadN_len, loadTo_len]) (Blk.cells (Sep.blk (i := 0) H rfl))) ?_))
    exact ⟨rfl, H.kept⟩

/-- orangebox/frame.Get -/
theorem Get_c (va : Option Addr) (m vc : Nat) (xs : List Nat) (hL : Byte xs) (a : Int) (w : World) (hr : SlR w (.slice va m vc) 1 m (bys xs)) :
    Calls Tryd.prog 62 #[.slice va m vc, .int .i64 a] w fun e w' => e = .returned (.tuple #[.agg (wds (getR xs m a)).toArray, .int .i64 (placeN m a 96)]) ∧ Below w.heap.size w w' := by
  have hxl : xs.length = m := by have := hr.1; rw [bys_length] at this; omega
  have hin := hr.inner
  refine calls_of_WP (args := [.slice va m vc, .int .i64 a]) 20 Tryd.func62 rfl rfl rfl ?_
  have H := Sep.start [] w
  refine WP_seq_k fun K1 hK1 => ?_
  refine WP_region ?_
  refine RL_ex rfl rfl (Ex_alloc zero25) ?_
  rintro _ w55 ⟨b6, rfl, hA⟩
  replace H := H.alloc hA
  refine RL_do rfl rfl (Do_assign rfl) ?_
  refine (RL_nil (thenQ_n (hK1 _ _ ?_)))
  refine WP_seq_k fun K2 hK2 => ?_
  refine WP_region ?_
  refine RL_do rfl rfl (Do_move (v := .slice _ _ _) rfl) ?_
  refine RL_do rfl rfl (Do_move (v := .int _ _) rfl) ?_
  refine RL_call rfl rfl (DoC_func en77 rfl) (inPlace_c va m vc a hin.1 hin.2.1 hin.2.2 w55) ?_
  rintro _ w56 ⟨pv, rfl, hpv, hB⟩
  replace H := H.below hB
  refine ⟨_, rfl, ?_⟩
  refine RL_do rfl rfl (Do_move (v := .tuple _) rfl) ?_
  refine RL_do rfl rfl (Do_extract (v := .pointer _) rfl rfl) ?_
  refine RL_do rfl rfl (Do_extract (v := .int _ _) rfl rfl) ?_
  refine RL_do rfl rfl (Do_assign (v := .pointer _) rfl) ?_
  refine RL_do rfl rfl (Do_assign (v := .int _ _) rfl) ?_
  refine (RL_nil (thenQ_n (hK2 _ _ ?_)))
  refine WP_seq_k fun K3 hK3 => ?_
  refine WP_seq_k fun K4 hK4 => ?_
  refine WP_region ?_
  refine RL_do rfl rfl (Do_move (v := .int _ _) rfl) ?_
  refine RL_do rfl rfl (Do_neq rfl rfl) ?_
  refine (RL_nil (thenQ_n (hK4 _ _ ?_)))
  first | refine WP_if rfl (fun c1 => ?_) (fun c1 => ?_) | refine WP_ifb rfl (fun c1 => ?_) (fun c1 => ?_)
  · skip
    refine WP_seq_k fun K5 hK5 => ?_
    refine WP_region ?_
    refine RL_do rfl rfl (Do_build (cs := zs25) bz25) ?_
    refine RL_do rfl rfl (Do_move (v := .int _ _) rfl) ?_
    refine RL_exU rfl (Ex_storeAll sz25 (by simp [wds_length, bys_length, loadN_len]) rfl rfl (by simp [Value.oneCell']) (Sep.blk (i := 0) H rfl) (by simp [wds_length, bys_length, loadN_len])) ?_
    rintro w57 hW
    replace H := H.wr (i := 0) rfl hW
    refine RL_do rfl rfl (Do_assign (v := .int _ _) rfl) ?_
    refine (RL_nil (thenQ_n (hK5 _ _ ?_)))
    refine (WP_ret (thenQ_r (postc1 (v1 := .int _ _) rfl rfl (run_loadVar_agg agg25 sz25 (by simp [wds_length, bys_length, loadN_len]) (Blk.cells (Sep.blk (i := 0) H rfl))) rfl ?_)))
    exact ⟨by rw [getR_e (by assumption)]; exact congrArg (fun l : List Value => Ending.returned (.tuple #[.agg l.toArray, _])) wds_zero, H.kept⟩
  · skip
    refine (WP_skip (thenQ_n (hK3 _ _ ?_)))
    refine WP_seq_k fun K6 hK6 => ?_
    refine WP_region ?_
    have q0 := placeN_0 (show placeN m a 96 = 0 by omega)
    obtain ⟨b, o, rfl⟩ := hin.2.2 (by omega)
    obtain rfl := hpv (by omega)
    simp only [Option.map_some, Addr.add_none]
    have hc := Cells.off (SlR.at_ hr) a.toNat
    refine RL_do rfl rfl (Do_move (v := .pointer _) rfl) ?_
    refine RL_call rfl rfl (DoC_func en94 rfl) (load_c (xs.drop a.toNat) (hL.drop _) _ _ (by rw [List.length_drop]; omega) w56 (hc.only (Sep.only H) (by simp))) ?_
    rintro _ w58 ⟨rfl, hB⟩
    replace H := H.below hB
    refine ⟨_, rfl, ?_⟩
    refine RL_exU rfl (Ex_storeAll sz25 (by simp [wds_length, bys_length, loadN_len]) rfl rfl (one_wds) (Sep.blk (i := 0) H rfl) (by simp [wds_length, bys_length, loadN_len])) ?_
    rintro w59 hW
    replace H := H.wr (i := 0) rfl hW
    refine RL_do rfl rfl (Do_assign rfl) ?_
    refine (RL_nil (thenQ_n (hK6 _ _ ?_)))
    refine (WP_ret (postc1 (v1 := .int _ _) rfl rfl (run_loadVar_agg agg25 sz25 (by simp [wds_length, bys_length, loadN_len]) (Blk.cells (Sep.blk (i := 0) H rfl))) rfl ?_))
    exact ⟨by rw [getR_k (by omega), show placeN m a 96 = 0 by omega], H.kept⟩

/-- orangebox/frame.Flaws -/
theorem Flaws_c (f : List Nat) (hl : f.length = 64) (hs : Small f) (w : World) (hg : Cells w ⟨0, 0, none⟩ (wds tab)) :
    Calls Tryd.prog 34 #[.agg (wds f).toArray] w fun e w' => ∃ v, e = .returned v ∧ w'.ownsRow w.heap.size 80 2 v ((flawsN f).length / 2) (nats (flawsN f)) ∧ Below w.heap.size w w' := by
  have wa := wideA_len f
  have l1 := fl1_len f
  have l2 := fl2_len f
  have l3 := fl3_len' f
  have n3 := numN_lt f
  have n4 := checkN_lt f
  have n5 := sumN_lt f
  have s0 := hs 0
  have s61 := hs 61
  have s62 := hs 62
  have s63 := hs 63
  refine calls_of_WP (args := [.agg (wds f).toArray]) 73 Tryd.func34 rfl rfl rfl ?_
  have H := Sep.start [] w
  refine WP_seq_k fun K1 hK1 => ?_
  refine WP_region ?_
  refine RL_ex rfl rfl (Ex_box rfl) ?_
  rintro _ w60 ⟨b7, rfl, hA⟩
  replace H := H.alloc hA
  refine RL_do rfl rfl (Do_assign rfl) ?_
  refine (RL_nil (thenQ_n (hK1 _ _ ?_)))
  refine WP_seq_k fun K2 hK2 => ?_
  refine WP_region ?_
  refine RL_do rfl rfl (Do_assign rfl) ?_
  replace H := H.nil 80 2
  refine (RL_nil (thenQ_n (hK2 _ _ ?_)))
  refine WP_seq_k fun K3 hK3 => ?_
  refine WP_seq_k fun K4 hK4 => ?_
  refine WP_region ?_
  refine RL_do rfl rfl (Do_loads agg25 rfl sz25 (by simp [wds_length, bys_length, hl]) (Blk.cells (Sep.blk (i := 0) H rfl))) ?_
  refine RL_do rfl rfl (Do_move rfl) ?_
  refine (RL_nil (thenQ_n (hK4 _ _ ?_)))
  refine WP_block ?_
  replace H := H.convs (i := 1) rfl (n' := (wideTo f 0).length / 2) (xs' := nats (wideTo f 0)) (by simp [wideTo]) (by simp [wideTo, nats])
  refine WP_loopS2 [3, 4, 5, 8, 9, 10, 11, 12, 13, 14, 15, 16, 17, 18, 19] (fun (g : Nat) (h : Value) => [(3, h), (8, .int .i64 (g : Nat))]) (fun (g : Nat) (h : Value) wl => Sep [] w wl [.blk b7 (wds f) 25, .sl h 80 2 ((wideTo f g).length / 2) (nats (wideTo f g))] ∧ g ≤ 64) (fun (g : Nat) (h : Value) => 64 - g) (0) (.slice none 0 0) (Sl_cons rfl (Sl_cons rfl Sl_nil)) ⟨H, by decide⟩ ?_
  clear H
  rintro k v ρ w61 ⟨H, hk⟩
  refine WP_seq_k fun K5 hK5 => ?_
  refine WP_region ?_
  refine RL_do rfl rfl (Do_lss rfl rfl) ?_
  refine (RL_nil (thenQ_n (hK5 _ _ ?_)))
  refine WP_seq_k fun K6 hK6 => ?_
  first | refine WP_if rfl (fun c1 => ?_) (fun c1 => ?_) | refine WP_ifb rfl (fun c1 => ?_) (fun c1 => ?_)
  · skip
    refine (WP_skip (thenQ_n (hK6 _ _ ?_)))
    refine WP_seq_k fun K7 hK7 => ?_
    refine WP_block ?_
    refine WP_seq_k fun K8 hK8 => ?_
    refine WP_region ?_
    refine RL_do rfl rfl (Do_move (v := .int _ _) rfl) ?_
    have q1 := hs k
    have q2 := wideTo_len f k
    refine RL_do rfl rfl (Do_index1 u25 one23 sz23 rfl rfl (by omega) (by omega) (by rw [Int.toNat_natCast]; exact wds_get (by omega))) ?_
    refine RL_do rfl rfl (Do_assign (v := .int _ _) rfl) ?_
    refine RL_do rfl rfl (Do_assign (v := .int _ _) rfl) ?_
    refine (RL_nil (thenQ_n (hK8 _ _ ?_)))
    refine WP_seq_k fun K9 hK9 => ?_
    refine WP_region ?_
    refine RL_do rfl rfl (Do_move (v := .int _ _) rfl) ?_
    refine RL_do rfl rfl (Do_gtr rfl rfl) ?_
    refine (RL_nil (thenQ_n (hK9 _ _ ?_)))
    first | refine WP_if rfl (fun c2 => ?_) (fun c2 => ?_) | refine WP_ifb rfl (fun c2 => ?_) (fun c2 => ?_)
    · skip
      refine WP_region ?_
      refine RL_do rfl rfl (Do_move (v := v) rfl) ?_
      refine RL_do rfl rfl (Do_move (v := .int _ _) rfl) ?_
      refine RL_do rfl rfl (Do_build (bt80 _ _ )) ?_
      refine RL_ex rfl rfl (Ex_bs u50 el80 (by decide) (by decide) (fillB_agg rfl (by decide))) ?_
      rintro _ w62 ⟨b8, rfl, hA⟩
      replace H := H.alloc hA
      refine RL_ex rfl rfl (Ex_append u50 el80 rfl rfl (Sep.sl (i := 1) H rfl) (Blk.slr (Sep.blk (i := 2) H rfl) 1 2 rfl (by decide)) (by simp [Value.oneCell']) (by rw [maxLen_eq]; omega) (by omega)) ?_
      rintro va1 w63 hA
      replace H := H.app (i := 1) rfl hA
      refine RL_do rfl rfl (Do_assign (v := va1) rfl) ?_
      refine (RL_nil (blockQ_n (thenQ_n (hK7 _ _ ?_))))
      refine WP_region ?_
      refine RL_do rfl rfl (Do_add rfl rfl (wrap_i64 (by omega) (by omega))) ?_
      refine RL_do rfl rfl (Do_move (v := .int _ _) rfl) ?_
      replace H := H.convs (i := 1) rfl (n' := (wideTo f (k + 1)).length / 2) (xs' := nats (wideTo f (k + 1))) (by rw [wideTo_t (by omega)]; simp; try omega) (by rw [wideTo_t (by omega)]; exact nats_snoc2 _ _ _ rfl rfl)
      replace H := H.keep [true, true, false]
      refine (RL_nil (thenQ_n (And.intro ?_ ?_)))
      · repeat' (first | with_reducible exact Fr_refl | refine Fr_upd rfl ?_ | refine Fr_over rfl rfl ?_)
      · refine ⟨k + 1, va1, (Sl_cons rfl (Sl_cons (vint (by simp)) Sl_nil)), ?_, ?_⟩
        · exact ⟨H, by omega⟩
        · simp; omega
    · skip
      refine (WP_skip (blockQ_n (thenQ_n (hK7 _ _ ?_))))
      refine WP_region ?_
      refine RL_do rfl rfl (Do_add rfl rfl (wrap_i64 (by omega) (by omega))) ?_
      refine RL_do rfl rfl (Do_move (v := .int _ _) rfl) ?_
      replace H := H.convs (i := 1) rfl (n' := (wideTo f (k + 1)).length / 2) (xs' := nats (wideTo f (k + 1))) (by rw [wideTo_f (by omega)]) (by rw [wideTo_f (by omega)])
      refine (RL_nil (thenQ_n (And.intro ?_ ?_)))
      · repeat' (first | with_reducible exact Fr_refl | refine Fr_upd rfl ?_ | refine Fr_over rfl rfl ?_)
      · refine ⟨k + 1, v, (Sl_cons rfl (Sl_cons (vint (by simp)) Sl_nil)), ?_, ?_⟩
        · exact ⟨H, by omega⟩
        · simp; omega
  · skip
    refine (WP_exit (thenQ_x (thenQ_x (blockQ_eq (thenQ_n (hK3 _ _ ?_))))))
    refine WP_seq_k fun K10 hK10 => ?_
    refine WP_seq_k fun K11 hK11 => ?_
    refine WP_region ?_
    (obtain rfl : k = 64 := by omega)
    replace H := H.convs (i := 1) rfl (n' := (wideA f).length / 2) (xs' := nats (wideA f)) (by rw [wideA_eq rfl]) (by rw [wideA_eq rfl])
    obtain ⟨sa, sc, rfl⟩ := ((Sep.slr (i := 1) H rfl)).shape
    refine RL_do rfl rfl (Do_move (v := .slice _ _ _) rfl) ?_
    refine RL_do rfl rfl (Do_len u50 rfl) ?_
    refine RL_do rfl rfl (Do_gtr rfl rfl) ?_
    refine (RL_nil (thenQ_n (hK11 _ _ ?_)))
    first | refine WP_if rfl (fun c3 => ?_) (fun c3 => ?_) | refine WP_ifb rfl (fun c3 => ?_) (fun c3 => ?_)
    · skip
      refine WP_seq_k fun K12 hK12 => ?_
      refine WP_region ?_
      refine RL_do rfl rfl (Do_move (v := .slice _ _ _) rfl) ?_
      refine RL_do rfl rfl (Do_assign (v := .slice _ _ _) rfl) ?_
      refine (RL_nil (thenQ_n (hK12 _ _ ?_)))
      refine (WP_ret (thenQ_r (post1 (v1 := .slice _ _ _) rfl rfl ?_)))
      exact ⟨_, rfl, by rw [flawsN_t (by omega)]; exact H.give (i := 1) rfl, H.kept⟩
    · skip
      refine (WP_skip (thenQ_n (hK10 _ _ ?_)))
      refine WP_seqS [3, 24, 25, 26, 27, 28, 29, 30, 31, 32, 33, 34] (fun (g : Value) => [(3, g)]) (fun (g : Value) wl => Sep [] w wl [.blk b7 (wds f) 25, .sl g 80 2 ((fl1 f).length / 2) (nats (fl1 f))]) ?_ ?_
      · skip
        refine WP_seq_k fun K13 hK13 => ?_
        refine WP_mix [.pure, .read, .read, .pure, .pure, .read, .pure] mixed (by kernel_rfl) (by kernel_rfl) (by kernel_rfl) ?_
        have hE : wideA f = [] := List.eq_nil_of_length_eq_zero (by omega)
        replace H := H.convs (i := 1) rfl (n' := ([]).length / 2) (xs' := nats ([])) (by rw [hE]) (by rw [hE])
        refine XL_pure rfl rfl rfl (fun w' => Do_idxa1 u25 sz23 rfl rfl (by omega) (by omega) (rfl : _ = 0) (by first | exact Nat.zero_add _ | rfl)) ?_
        refine XL_read rfl rfl rfl (fun w' hw' => Do_load one23 rfl (Blk.cell (Sep.blk (i := 0) (Sep.sees H hw') rfl) (wds_get (by omega)))) ?_
        refine XL_call rfl rfl rfl (fun w' hw' => DoC_func en91 rfl) (fun w' hw' => number_c f hl hs _ _ w' (Blk.cells (Sep.blk (i := 0) (Sep.sees H hw') rfl))) ?_
        refine XL_pure rfl rfl rfl (fun w' => Do_rem rfl rfl (by omega) (by omega)) ?_
        refine XL_pure rfl rfl rfl (fun w' => Do_idxa1 u111 sz23 rfl rfl (by omega) (by omega) (by omega : _ = numN f % 4) (by first | exact Nat.zero_add _ | rfl)) ?_
        refine XL_read rfl rfl rfl (fun w' hw' => Do_load one23 rfl (Cells.get0 (hg.only (Sep.only (Sep.sees H hw')) (by simp)) (i := numN f % 4) (wds_get (by show _ < 4; omega)))) ?_
        refine XL_pure rfl rfl rfl (fun w' => Do_neq rfl rfl) ?_
        refine XL_nil fun w64 hS => ?_
        replace H := H.sees hS
        refine (thenQ_n (hK13 _ _ ?_))
        first | refine WP_if rfl (fun c4 => ?_) (fun c4 => ?_) | refine WP_ifb rfl (fun c4 => ?_) (fun c4 => ?_)
        · skip
          refine WP_region ?_
          refine RL_do rfl rfl (Do_move (v := .slice _ _ _) rfl) ?_
          refine RL_do rfl rfl (Do_build (bt80 _ _ )) ?_
          refine RL_ex rfl rfl (Ex_bs u50 el80 (by decide) (by decide) (fillB_agg rfl (by decide))) ?_
          rintro _ w65 ⟨b9, rfl, hA⟩
          replace H := H.alloc hA
          refine RL_ex rfl rfl (Ex_append u50 el80 rfl rfl (Sep.sl (i := 1) H rfl) (Blk.slr (Sep.blk (i := 2) H rfl) 1 2 rfl (by decide)) (by simp [Value.oneCell']) (by rw [maxLen_eq]; decide) (by decide)) ?_
          rintro va2 w66 hA
          replace H := H.app (i := 1) rfl hA
          refine RL_do rfl rfl (Do_assign (v := va2) rfl) ?_
          replace H := H.convs (i := 1) rfl (n' := (fl1 f).length / 2) (xs' := nats (fl1 f)) (by rw [fl1_f (by omega)]; simp; try omega) (by rw [fl1_f (by omega)]; exact nats_snoc2 _ _ _ rfl rfl)
          replace H := H.keep [true, true, false]
          refine (RL_nil (thenQ_n (And.intro ?_ ?_)))
          · repeat' (first | with_reducible exact Fr_refl | refine Fr_upd rfl ?_ | refine Fr_over rfl rfl ?_)
          · exact ⟨va2, (Sl_cons rfl Sl_nil), H⟩
        · skip
          replace H := H.convs (i := 1) rfl (n' := (fl1 f).length / 2) (xs' := nats (fl1 f)) (by rw [fl1_t (by omega)]) (by rw [fl1_t (by omega)])
          refine (WP_skip (thenQ_n (And.intro ?_ ?_)))
          · repeat' (first | with_reducible exact Fr_refl | refine Fr_upd rfl ?_ | refine Fr_over rfl rfl ?_)
          · exact ⟨_, (Sl_cons rfl Sl_nil), H⟩
      · clear H
        rintro v1 ρ w67 H
        refine WP_seq_k fun K14 hK14 => ?_
        refine WP_seq_k fun K15 hK15 => ?_
        refine WP_region ?_
        refine RL_do rfl rfl (Do_assign rfl) ?_
        refine (RL_nil (thenQ_n (hK15 _ _ ?_)))
        refine WP_block ?_
        replace H := H.convs (i := 1) rfl (n' := (oddsTo (fl1 f) f 0).length / 2) (xs' := nats (oddsTo (fl1 f) f 0)) (rfl) (rfl)
        refine WP_loopS2 [3, 6, 35, 36, 37, 38, 39, 40, 41, 42, 43, 44, 45, 46, 47, 48] (fun (g : Nat) (h : Value) => [(3, h), (6, .int .i64 ((g : Nat) + 1))]) (fun (g : Nat) (h : Value) wl => Sep [] w wl [.blk b7 (wds f) 25, .sl h 80 2 ((oddsTo (fl1 f) f g).length / 2) (nats (oddsTo (fl1 f) f g))] ∧ g ≤ 63) (fun (g : Nat) (h : Value) => 63 - g) (0) (v1) (Sl_cons rfl (Sl_cons rfl Sl_nil)) ⟨H, by decide⟩ ?_
        clear H
        rintro k v ρ w68 ⟨H, hk⟩
        refine WP_seq_k fun K16 hK16 => ?_
        refine WP_seq_k fun K17 hK17 => ?_
        refine WP_region ?_
        refine RL_do rfl rfl (Do_move (v := .int _ _) rfl) ?_
        refine RL_do rfl rfl (Do_lss rfl rfl) ?_
        refine (RL_nil (thenQ_n (hK17 _ _ ?_)))
        first | refine WP_if rfl (fun c5 => ?_) (fun c5 => ?_) | refine WP_ifb rfl (fun c5 => ?_) (fun c5 => ?_)
        · skip
          refine (WP_skip (thenQ_n (hK16 _ _ ?_)))
          refine WP_seq_k fun K18 hK18 => ?_
          refine WP_block ?_
          refine WP_seq_k fun K19 hK19 => ?_
          refine WP_region ?_
          refine RL_do rfl rfl (Do_move (v := .int _ _) rfl) ?_
          have q1 := hs (k + 1)
          have q2 := oddsTo_len (fl1 f) f k
          refine RL_do rfl rfl (Do_idxa1 u25 sz23 rfl rfl (by omega) (by omega) (by omega : _ = k + 1) (by first | exact Nat.zero_add _ | rfl)) ?_
          refine RL_do rfl rfl (Do_load one23 rfl (Blk.cell (Sep.blk (i := 0) H rfl) (wds_get (by omega)))) ?_
          refine RL_call rfl rfl (DoC_func en86 rfl) (odd_c _ (wd f (k + 1)) rfl (by omega) w68) ?_
          rintro _ w69 ⟨rfl, hB⟩
          replace H := H.below hB
          refine ⟨_, rfl, ?_⟩
          refine RL_do rfl rfl (Do_not' rfl) ?_
          refine (RL_nil (thenQ_n (hK19 _ _ ?_)))
          first | refine WP_if rfl (fun c6 => ?_) (fun c6 => ?_) | refine WP_ifb rfl (fun c6 => ?_) (fun c6 => ?_)
          · skip
            refine WP_region ?_
            refine RL_do rfl rfl (Do_move (v := v) rfl) ?_
            refine RL_do rfl rfl (Do_move (v := .int _ _) rfl) ?_
            refine RL_do rfl rfl (Do_build (bt80 _ _ )) ?_
            refine RL_ex rfl rfl (Ex_bs u50 el80 (by decide) (by decide) (fillB_agg rfl (by decide))) ?_
            rintro _ w70 ⟨b10, rfl, hA⟩
            replace H := H.alloc hA
            refine RL_ex rfl rfl (Ex_append u50 el80 rfl rfl (Sep.sl (i := 1) H rfl) (Blk.slr (Sep.blk (i := 2) H rfl) 1 2 rfl (by decide)) (by simp [Value.oneCell']) (by rw [maxLen_eq]; omega) (by omega)) ?_
            rintro va3 w71 hA
            replace H := H.app (i := 1) rfl hA
            refine RL_do rfl rfl (Do_assign (v := va3) rfl) ?_
            refine (RL_nil (blockQ_n (thenQ_n (hK18 _ _ ?_))))
            refine WP_region ?_
            refine RL_do rfl rfl (Do_move (v := .int _ _) rfl) ?_
            refine RL_do rfl rfl (Do_add rfl rfl (wrap_i64 (by omega) (by omega))) ?_
            refine RL_do rfl rfl (Do_assign (v := .int _ _) rfl) ?_
            replace H := H.convs (i := 1) rfl (n' := (oddsTo (fl1 f) f (k + 1)).length / 2) (xs' := nats (oddsTo (fl1 f) f (k + 1))) (by rw [oddsTo_f (by assumption)]; simp; try omega) (by rw [oddsTo_f (by assumption)]; exact nats_snoc2 _ _ _ rfl rfl)
            replace H := H.keep [true, true, false]
            refine (RL_nil (thenQ_n (And.intro ?_ ?_)))
            · repeat' (first | with_reducible exact Fr_refl | refine Fr_upd rfl ?_ | refine Fr_over rfl rfl ?_)
            · refine ⟨k + 1, va3, (Sl_cons rfl (Sl_cons (vint (by simp)) Sl_nil)), ?_, ?_⟩
              · exact ⟨H, by omega⟩
              · simp; omega
          · skip
            refine (WP_skip (blockQ_n (thenQ_n (hK18 _ _ ?_))))
            refine WP_region ?_
            refine RL_do rfl rfl (Do_move (v := .int _ _) rfl) ?_
            refine RL_do rfl rfl (Do_add rfl rfl (wrap_i64 (by omega) (by omega))) ?_
            refine RL_do rfl rfl (Do_assign (v := .int _ _) rfl) ?_
            replace H := H.convs (i := 1) rfl (n' := (oddsTo (fl1 f) f (k + 1)).length / 2) (xs' := nats (oddsTo (fl1 f) f (k + 1))) (by rw [oddsTo_t (Decidable.of_not_not (by assumption))]) (by rw [oddsTo_t (Decidable.of_not_not (by assumption))])
            refine (RL_nil (thenQ_n (And.intro ?_ ?_)))
            · repeat' (first | with_reducible exact Fr_refl | refine Fr_upd rfl ?_ | refine Fr_over rfl rfl ?_)
            · refine ⟨k + 1, v, (Sl_cons rfl (Sl_cons (vint (by simp)) Sl_nil)), ?_, ?_⟩
              · exact ⟨H, by omega⟩
              · simp; omega
        · skip
          refine (WP_exit (thenQ_x (thenQ_x (blockQ_eq (thenQ_n (hK14 _ _ ?_))))))
          refine WP_seqS [3, 49, 50, 51, 52, 53, 54, 55, 56, 57] (fun (g : Value) => [(3, g)]) (fun (g : Value) wl => Sep [] w wl [.blk b7 (wds f) 25, .sl g 80 2 ((fl3 f).length / 2) (nats (fl3 f))]) ?_ ?_
          · skip
            refine WP_seq_k fun K20 hK20 => ?_
            refine WP_region ?_
            (obtain rfl : k = 63 := by omega)
            replace H := H.convs (i := 1) rfl (n' := (fl2 f).length / 2) (xs' := nats (fl2 f)) (by rw [fl2_eq rfl]) (by rw [fl2_eq rfl])
            refine RL_do rfl rfl (Do_idxa1 u25 sz23 rfl rfl (by omega) (by omega) (rfl : _ = 61) (by first | exact Nat.zero_add _ | rfl)) ?_
            refine RL_do rfl rfl (Do_load one23 rfl (Blk.cell (Sep.blk (i := 0) H rfl) (wds_get (by omega)))) ?_
            refine RL_call rfl rfl (DoC_func en85 rfl) (data_c _ (by omega) (by omega) w68) ?_
            rintro _ w72 ⟨rfl, hB⟩
            replace H := H.below hB
            refine ⟨_, rfl, ?_⟩
            refine RL_call rfl rfl (DoC_func en92 rfl) (sum_c f hl hs _ _ w72 (Blk.cells (Sep.blk (i := 0) H rfl))) ?_
            rintro _ w73 ⟨rfl, hB⟩
            replace H := H.below hB
            refine ⟨_, rfl, ?_⟩
            refine RL_do rfl rfl (Do_neq rfl rfl) ?_
            refine (RL_nil (thenQ_n (hK20 _ _ ?_)))
            first | refine WP_if rfl (fun c7 => ?_) (fun c7 => ?_) | refine WP_ifb rfl (fun c7 => ?_) (fun c7 => ?_)
            · skip
              refine WP_region ?_
              refine RL_do rfl rfl (Do_move (v := v) rfl) ?_
              refine RL_do rfl rfl (Do_build (bt80 _ _ )) ?_
              refine RL_ex rfl rfl (Ex_bs u50 el80 (by decide) (by decide) (fillB_agg rfl (by decide))) ?_
              rintro _ w74 ⟨b11, rfl, hA⟩
              replace H := H.alloc hA
              refine RL_ex rfl rfl (Ex_append u50 el80 rfl rfl (Sep.sl (i := 1) H rfl) (Blk.slr (Sep.blk (i := 2) H rfl) 1 2 rfl (by decide)) (by simp [Value.oneCell']) (by rw [maxLen_eq]; omega) (by omega)) ?_
              rintro va4 w75 hA
              replace H := H.app (i := 1) rfl hA
              refine RL_do rfl rfl (Do_assign (v := va4) rfl) ?_
              replace H := H.convs (i := 1) rfl (n' := (fl3 f).length / 2) (xs' := nats (fl3 f)) (by rw [fl3_f (by omega)]; simp; try omega) (by rw [fl3_f (by omega)]; exact nats_snoc2 _ _ _ rfl rfl)
              replace H := H.keep [true, true, false]
              refine (RL_nil (thenQ_n (And.intro ?_ ?_)))
              · repeat' (first | with_reducible exact Fr_refl | refine Fr_upd rfl ?_ | refine Fr_over rfl rfl ?_)
              · exact ⟨va4, (Sl_cons rfl Sl_nil), H⟩
            · skip
              replace H := H.convs (i := 1) rfl (n' := (fl3 f).length / 2) (xs' := nats (fl3 f)) (by rw [fl3_t (by omega)]) (by rw [fl3_t (by omega)])
              refine (WP_skip (thenQ_n (And.intro ?_ ?_)))
              · repeat' (first | with_reducible exact Fr_refl | refine Fr_upd rfl ?_ | refine Fr_over rfl rfl ?_)
              · exact ⟨_, (Sl_cons rfl Sl_nil), H⟩
          · clear H
            rintro v1 ρ w76 H
            refine WP_seqS [3, 58, 59, 60, 61, 62, 63, 64, 65, 66, 67, 68, 69, 70, 71] (fun (g : Value) => [(3, g)]) (fun (g : Value) wl => Sep [] w wl [.blk b7 (wds f) 25, .sl g 80 2 ((fl4 f).length / 2) (nats (fl4 f))]) ?_ ?_
            · skip
              refine WP_seq_k fun K21 hK21 => ?_
              refine WP_mix [.pure, .read, .read, .pure, .pure, .read, .read, .pure, .read, .pure] mixed (by kernel_rfl) (by kernel_rfl) (by kernel_rfl) ?_
              refine XL_pure rfl rfl rfl (fun w' => Do_idxa1 u25 sz23 rfl rfl (by omega) (by omega) (rfl : _ = 62) (by first | exact Nat.zero_add _ | rfl)) ?_
              refine XL_read rfl rfl rfl (fun w' hw' => Do_load one23 rfl (Blk.cell (Sep.blk (i := 0) (Sep.sees H hw') rfl) (wds_get (by omega)))) ?_
              refine XL_call rfl rfl rfl (fun w' hw' => DoC_func en85 rfl) (fun w' hw' => data_c _ (by omega) (by omega) w') ?_
              refine XL_pure rfl rfl rfl (fun w' => Do_shl rfl rfl (by decide) (by decide) (rfl : _ = (2048 : Int)) (wrap_i64 (by omega) (by omega))) ?_
              refine XL_pure rfl rfl rfl (fun w' => Do_idxa1 u25 sz23 rfl rfl (by omega) (by omega) (rfl : _ = 63) (by first | exact Nat.zero_add _ | rfl)) ?_
              refine XL_read rfl rfl rfl (fun w' hw' => Do_load one23 rfl (Blk.cell (Sep.blk (i := 0) (Sep.sees H hw') rfl) (wds_get (by omega)))) ?_
              refine XL_call rfl rfl rfl (fun w' hw' => DoC_func en85 rfl) (fun w' hw' => data_c _ (by omega) (by omega) w') ?_
              refine XL_pure rfl rfl rfl (fun w' => Do_or rfl rfl (join_i64 11 (rfl : _ = (2048 : Int)) (by omega) (by omega) (by omega) (by omega) (by omega) (by omega))) ?_
              refine XL_call rfl rfl rfl (fun w' hw' => DoC_func en93 rfl) (fun w' hw' => check_c f hl hs _ _ w' (Blk.cells (Sep.blk (i := 0) (Sep.sees H hw') rfl))) ?_
              refine XL_pure rfl rfl rfl (fun w' => Do_neq rfl rfl) ?_
              refine XL_nil fun w77 hS => ?_
              replace H := H.sees hS
              refine (thenQ_n (hK21 _ _ ?_))
              first | refine WP_if rfl (fun c8 => ?_) (fun c8 => ?_) | refine WP_ifb rfl (fun c8 => ?_) (fun c8 => ?_)
              · skip
                refine WP_region ?_
                refine RL_do rfl rfl (Do_move (v := v1) rfl) ?_
                refine RL_do rfl rfl (Do_build (bt80 _ _ )) ?_
                refine RL_ex rfl rfl (Ex_bs u50 el80 (by decide) (by decide) (fillB_agg rfl (by decide))) ?_
                rintro _ w78 ⟨b12, rfl, hA⟩
                replace H := H.alloc hA
                refine RL_ex rfl rfl (Ex_append u50 el80 rfl rfl (Sep.sl (i := 1) H rfl) (Blk.slr (Sep.blk (i := 2) H rfl) 1 2 rfl (by decide)) (by simp [Value.oneCell']) (by rw [maxLen_eq]; omega) (by omega)) ?_
                rintro va5 w79 hA
                replace H := H.app (i := 1) rfl hA
                refine RL_do rfl rfl (Do_assign (v := va5) rfl) ?_
                replace H := H.convs (i := 1) rfl (n' := (fl4 f).length / 2) (xs' := nats (fl4 f)) (by rw [fl4_f (by omega)]; simp; try omega) (by rw [fl4_f (by omega)]; exact nats_snoc2 _ _ _ rfl rfl)
                replace H := H.keep [true, true, false]
                refine (RL_nil (thenQ_n (And.intro ?_ ?_)))
                · repeat' (first | with_reducible exact Fr_refl | refine Fr_upd rfl ?_ | refine Fr_over rfl rfl ?_)
                · exact ⟨va5, (Sl_cons rfl Sl_nil), H⟩
              · skip
                replace H := H.convs (i := 1) rfl (n' := (fl4 f).length / 2) (xs' := nats (fl4 f)) (by rw [fl4_t (by omega)]) (by rw [fl4_t (by omega)])
                refine (WP_skip (thenQ_n (And.intro ?_ ?_)))
                · repeat' (first | with_reducible exact Fr_refl | refine Fr_upd rfl ?_ | refine Fr_over rfl rfl ?_)
                · exact ⟨_, (Sl_cons rfl Sl_nil), H⟩
            · clear H
              rintro v1 ρ w80 H
              refine WP_seq_k fun K22 hK22 => ?_
              refine WP_region ?_
              refine RL_do rfl rfl (Do_move (v := v1) rfl) ?_
              refine RL_do rfl rfl (Do_assign (v := v1) rfl) ?_
              refine (RL_nil (thenQ_n (hK22 _ _ ?_)))
              refine (WP_ret (post1 (v1 := v1) rfl rfl ?_))
              exact ⟨_, rfl, by rw [flawsN_f (by omega)]; exact H.give (i := 1) rfl, H.kept⟩
end Go.Proofs.YtafgmocdnjdmoaaDoor
namespace Go.Proofs.YtafgmocdnjdmoaaDoor
open Go.RowKit Go.OB Go.Fr1
theorem u128 : Tryd.prog.underlying 128 = some (.array 4 3) := Tryd.underlying128
theorem bt128 (a0 : Int) (a1 : Int) (a2 : Int) (a3 : Int) : Tryd.prog.built 128 [(0, .int .i64 a0), (1, .int .i64 a1), (2, .int .i64 a2), (3, .int .i64 a3)] = some [.int .i64 a0, .int .i64 a1, .int .i64 a2, .int .i64 a3].toArray := by kernel_rfl
theorem en84 : Enters Tryd.prog 84 := ⟨_, Tryd.func84, rfl, by kernel_rfl⟩
theorem en87 : Enters Tryd.prog 87 := ⟨_, Tryd.func87, rfl, by kernel_rfl⟩
theorem en88 : Enters Tryd.prog 88 := ⟨_, Tryd.func88, rfl, by kernel_rfl⟩
/-- orangebox/orangeboxref1.odd -/
theorem oddR_c (x : Int) (n : Nat) (hx : x = n) (hn : n < 65536) (w : World) :
    Calls Tryd.prog 87 #[.int .i64 x] w fun e w' => e = .returned (.bool (decide (oddN n))) ∧ Below w.heap.size w w' := by
  refine calls_of_WP (args := [.int .i64 x]) 15 Tryd.func87 rfl rfl rfl ?_
  have H := Sep.start [] w
  refine WP_seq_k fun K1 hK1 => ?_
  refine WP_region ?_
  refine RL_do rfl rfl (Do_assign rfl) ?_
  refine (RL_nil (thenQ_n (hK1 _ _ ?_)))
  refine WP_seq_k fun K2 hK2 => ?_
  refine WP_region ?_
  refine RL_do rfl rfl (Do_assign rfl) ?_
  refine (RL_nil (thenQ_n (hK2 _ _ ?_)))
  refine WP_seq_k fun K3 hK3 => ?_
  refine WP_block ?_
  refine WP_loopS2 [0, 3, 4, 5, 6, 7, 8, 9, 10, 11] (fun (g : Nat) (h : Nat) => [(0, .int .i64 (g : Nat)), (3, .int .i64 (h : Nat))]) (fun (g : Nat) (h : Nat) wl => Sep [] w wl [] ∧ g ≤ n ∧ h + pop g = pop n) (fun (g : Nat) (h : Nat) => g) (n) (0) (Sl_cons (vint hx) (Sl_cons rfl Sl_nil)) ⟨H, ⟨Nat.le_refl _, by omega⟩⟩ ?_
  clear H
  rintro m k ρ w81 ⟨H, ⟨hm, hk⟩⟩
  refine WP_seq_k fun K4 hK4 => ?_
  refine WP_seq_k fun K5 hK5 => ?_
  refine WP_region ?_
  refine RL_do rfl rfl (Do_move (v := .int _ _) rfl) ?_
  refine RL_do rfl rfl (Do_gtr rfl rfl) ?_
  refine (RL_nil (thenQ_n (hK5 _ _ ?_)))
  first | refine WP_if rfl (fun c1 => ?_) (fun c1 => ?_) | refine WP_ifb rfl (fun c1 => ?_) (fun c1 => ?_)
  · skip
    refine (WP_skip (thenQ_n (hK4 _ _ ?_)))
    refine WP_seq_k fun K6 hK6 => ?_
    refine WP_block ?_
    refine WP_region ?_
    refine RL_do rfl rfl (Do_move (v := .int _ _) rfl) ?_
    have q1 := pop_le n
    have q2 := pop_le m
    refine RL_do rfl rfl (Do_move (v := .int _ _) rfl) ?_
    refine RL_do rfl rfl (Do_rem rfl rfl (by omega) (by omega)) ?_
    refine RL_do rfl rfl (Do_add rfl rfl (wrap_i64 (by omega) (by omega))) ?_
    refine RL_do rfl rfl (Do_assign (v := .int _ _) rfl) ?_
    refine (RL_nil (blockQ_n (thenQ_n (hK6 _ _ ?_))))
    refine WP_region ?_
    refine RL_do rfl rfl (Do_move (v := .int _ _) rfl) ?_
    refine RL_do rfl rfl (Do_quo rfl rfl (by omega) (by omega) (wrap_i64 (by omega) (by omega))) ?_
    refine RL_do rfl rfl (Do_assign (v := .int _ _) rfl) ?_
    refine (RL_nil (thenQ_n (And.intro ?_ ?_)))
    · repeat' (first | with_reducible exact Fr_refl | refine Fr_upd rfl ?_ | refine Fr_over rfl rfl ?_)
    · refine ⟨m / 2, k + m % 2, (Sl_cons (vint (by omega)) (Sl_cons (vint (by omega)) Sl_nil)), ?_, ?_⟩
      · exact ⟨H, by omega, by rw [← hk, pop_half (m := m) (by omega)]; omega⟩
      · omega
  · skip
    refine (WP_exit (thenQ_x (thenQ_x (blockQ_eq (thenQ_n (hK3 _ _ ?_))))))
    refine WP_seq_k fun K7 hK7 => ?_
    refine WP_region ?_
    (obtain rfl : m = 0 := by omega)
    have q1 := pop_zero
    have q2 := pop_le n
    refine RL_do rfl rfl (Do_move (v := .int _ _) rfl) ?_
    refine RL_do rfl rfl (Do_rem rfl rfl (by omega) (by omega)) ?_
    refine RL_do rfl rfl (Do_eql rfl rfl) ?_
    refine RL_do rfl rfl (Do_assign (v := .bool _) rfl) ?_
    refine (RL_nil (thenQ_n (hK7 _ _ ?_)))
    refine (WP_ret (post1 (v1 := .bool _) rfl rfl ?_))
    exact ⟨retb (by unfold oddN; omega), H.kept⟩

/-- orangebox/orangeboxref1.word -/
theorem wordRef_c (x : Int) (n : Nat) (hx : x = n) (hn : n < 2048) (w : World) :
    Calls Tryd.prog 84 #[.int .i64 x] w fun e w' => e = .returned (.int .i64 (wordN n : Nat)) ∧ Below w.heap.size w w' := by
  refine calls_of_WP (args := [.int .i64 x]) 8 Tryd.func84 rfl rfl rfl ?_
  have H := Sep.start [] w
  refine WP_seq_k fun K1 hK1 => ?_
  refine WP_region ?_
  refine RL_do rfl rfl (Do_assign rfl) ?_
  refine (RL_nil (thenQ_n (hK1 _ _ ?_)))
  refine WP_seq_k fun K2 hK2 => ?_
  refine WP_seq_k fun K3 hK3 => ?_
  refine WP_region ?_
  refine RL_do rfl rfl (Do_move (v := .int _ _) rfl) ?_
  refine RL_call rfl rfl (DoC_func en87 rfl) (oddR_c _ n hx (by omega) w) ?_
  rintro _ w82 ⟨rfl, hB⟩
  replace H := H.below hB
  refine ⟨_, rfl, ?_⟩
  refine (RL_nil (thenQ_n (hK3 _ _ ?_)))
  first | refine WP_if rfl (fun c1 => ?_) (fun c1 => ?_) | refine WP_ifb rfl (fun c1 => ?_) (fun c1 => ?_)
  · skip
    refine WP_seq_k fun K4 hK4 => ?_
    refine WP_region ?_
    refine RL_do rfl rfl (Do_move (v := .int _ _) rfl) ?_
    refine RL_do rfl rfl (Do_assign (v := .int _ _) rfl) ?_
    refine (RL_nil (thenQ_n (hK4 _ _ ?_)))
    refine (WP_ret (thenQ_r (post1 (v1 := .int _ _) rfl rfl ?_)))
    exact ⟨reti (by rw [wordN, if_pos (by assumption)]; exact hx), H.kept⟩
  · skip
    refine (WP_skip (thenQ_n (hK2 _ _ ?_)))
    refine WP_seq_k fun K5 hK5 => ?_
    refine WP_region ?_
    refine RL_do rfl rfl (Do_move (v := .int _ _) rfl) ?_
    refine RL_do rfl rfl (Do_add rfl rfl (wrap_i64 (by omega) (by omega))) ?_
    refine RL_do rfl rfl (Do_assign (v := .int _ _) rfl) ?_
    refine (RL_nil (thenQ_n (hK5 _ _ ?_)))
    refine (WP_ret (post1 (v1 := .int _ _) rfl rfl ?_))
    exact ⟨reti (by rw [wordN, if_neg (by assumption)]; omega), H.kept⟩

/-- orangebox/frame.Word -/
theorem Word_c (d : Int) (w : World) :
    Calls Tryd.prog 26 #[.int .i64 d] w fun e w' => e = .returned (.tuple #[.int .i64 (wordR d).1, .int .i64 (wordR d).2]) ∧ Below w.heap.size w w' := by
  refine calls_of_WP (args := [.int .i64 d]) 13 Tryd.func26 rfl rfl rfl ?_
  have H := Sep.start [] w
  refine WP_seq_k fun K1 hK1 => ?_
  refine WP_region ?_
  refine RL_do rfl rfl (Do_assign rfl) ?_
  refine RL_do rfl rfl (Do_assign rfl) ?_
  refine (RL_nil (thenQ_n (hK1 _ _ ?_)))
  refine WP_seq_k fun K2 hK2 => ?_
  refine WP_seq_k fun K3 hK3 => ?_
  refine WP_region ?_
  refine RL_do rfl rfl (Do_move (v := .int _ _) rfl) ?_
  refine RL_do rfl rfl (Do_lss rfl rfl) ?_
  first | refine RL_split rfl rfl rfl (fun c1 => ?_) (fun c1 => ?_) | refine RL_splitb rfl rfl rfl (fun c1 => ?_) (fun c1 => ?_)
  · skip
    refine RL_off rfl rfl ?_
    refine RL_off rfl rfl ?_
    refine RL_do rfl rfl (Do_pick_t (v := .bool _) rfl rfl) ?_
    refine (RL_nil (thenQ_n (hK3 _ _ ?_)))
    refine WP_ift rfl ?_
    refine WP_seq_k fun K4 hK4 => ?_
    refine WP_region ?_
    refine RL_do rfl rfl (Do_assign rfl) ?_
    refine RL_do rfl rfl (Do_assign rfl) ?_
    refine (RL_nil (thenQ_n (hK4 _ _ ?_)))
    refine (WP_ret (thenQ_r (post2 (v1 := .int _ _) (v2 := .int _ _) rfl rfl rfl ?_)))
    exact ⟨by rw [wordR_1 (by omega)], H.kept⟩
  · skip
    refine RL_do rfl rfl (Do_move (v := .int _ _) rfl) ?_
    refine RL_do rfl rfl (Do_gtr rfl rfl) ?_
    refine RL_do rfl rfl (Do_pick_f (v := .bool _) rfl rfl) ?_
    refine (RL_nil (thenQ_n (hK3 _ _ ?_)))
    first | refine WP_if rfl (fun c2 => ?_) (fun c2 => ?_) | refine WP_ifb rfl (fun c2 => ?_) (fun c2 => ?_)
    · skip
      refine WP_seq_k fun K5 hK5 => ?_
      refine WP_region ?_
      refine RL_do rfl rfl (Do_assign rfl) ?_
      refine RL_do rfl rfl (Do_assign rfl) ?_
      refine (RL_nil (thenQ_n (hK5 _ _ ?_)))
      refine (WP_ret (thenQ_r (post2 (v1 := .int _ _) (v2 := .int _ _) rfl rfl rfl ?_)))
      exact ⟨by rw [wordR_1 (by omega)], H.kept⟩
    · skip
      refine (WP_skip (thenQ_n (hK2 _ _ ?_)))
      refine WP_seq_k fun K6 hK6 => ?_
      refine WP_region ?_
      have q1 := wordN_lt (d := d.toNat) (by omega)
      refine RL_do rfl rfl (Do_move (v := .int _ _) rfl) ?_
      refine RL_call rfl rfl (DoC_func en83 rfl) (word_c _ d.toNat (by omega) (by omega) w) ?_
      rintro _ w83 ⟨rfl, hB⟩
      replace H := H.below hB
      refine ⟨_, rfl, ?_⟩
      refine RL_do rfl rfl (Do_conv u23 u3 rfl (wrap_i64 (by omega) (by omega))) ?_
      refine RL_do rfl rfl (Do_assign (v := .int _ _) rfl) ?_
      refine RL_do rfl rfl (Do_assign rfl) ?_
      refine (RL_nil (thenQ_n (hK6 _ _ ?_)))
      refine (WP_ret (post2 (v1 := .int _ _) (v2 := .int _ _) rfl rfl rfl ?_))
      exact ⟨by rw [wordR_2 (by omega)], H.kept⟩

/-- orangebox/orangeboxref1.Word -/
theorem WordRef_c (d : Int) (w : World) :
    Calls Tryd.prog 27 #[.int .i64 d] w fun e w' => e = .returned (.tuple #[.int .i64 (wordR d).1, .int .i64 (wordR d).2]) ∧ Below w.heap.size w w' := by
  refine calls_of_WP (args := [.int .i64 d]) 12 Tryd.func27 rfl rfl rfl ?_
  have H := Sep.start [] w
  refine WP_seq_k fun K1 hK1 => ?_
  refine WP_region ?_
  refine RL_do rfl rfl (Do_assign rfl) ?_
  refine RL_do rfl rfl (Do_assign rfl) ?_
  refine (RL_nil (thenQ_n (hK1 _ _ ?_)))
  refine WP_seq_k fun K2 hK2 => ?_
  refine WP_seq_k fun K3 hK3 => ?_
  refine WP_region ?_
  refine RL_do rfl rfl (Do_move (v := .int _ _) rfl) ?_
  refine RL_do rfl rfl (Do_lss rfl rfl) ?_
  first | refine RL_split rfl rfl rfl (fun c1 => ?_) (fun c1 => ?_) | refine RL_splitb rfl rfl rfl (fun c1 => ?_) (fun c1 => ?_)
  · skip
    refine RL_off rfl rfl ?_
    refine RL_off rfl rfl ?_
    refine RL_do rfl rfl (Do_pick_t (v := .bool _) rfl rfl) ?_
    refine (RL_nil (thenQ_n (hK3 _ _ ?_)))
    refine WP_ift rfl ?_
    refine WP_seq_k fun K4 hK4 => ?_
    refine WP_region ?_
    refine RL_do rfl rfl (Do_assign rfl) ?_
    refine RL_do rfl rfl (Do_assign rfl) ?_
    refine (RL_nil (thenQ_n (hK4 _ _ ?_)))
    refine (WP_ret (thenQ_r (post2 (v1 := .int _ _) (v2 := .int _ _) rfl rfl rfl ?_)))
    exact ⟨by rw [wordR_1 (by omega)], H.kept⟩
  · skip
    refine RL_do rfl rfl (Do_move (v := .int _ _) rfl) ?_
    refine RL_do rfl rfl (Do_gtr rfl rfl) ?_
    refine RL_do rfl rfl (Do_pick_f (v := .bool _) rfl rfl) ?_
    refine (RL_nil (thenQ_n (hK3 _ _ ?_)))
    first | refine WP_if rfl (fun c2 => ?_) (fun c2 => ?_) | refine WP_ifb rfl (fun c2 => ?_) (fun c2 => ?_)
    · skip
      refine WP_seq_k fun K5 hK5 => ?_
      refine WP_region ?_
      refine RL_do rfl rfl (Do_assign rfl) ?_
      refine RL_do rfl rfl (Do_assign rfl) ?_
      refine (RL_nil (thenQ_n (hK5 _ _ ?_)))
      refine (WP_ret (thenQ_r (post2 (v1 := .int _ _) (v2 := .int _ _) rfl rfl rfl ?_)))
      exact ⟨by rw [wordR_1 (by omega)], H.kept⟩
    · skip
      refine (WP_skip (thenQ_n (hK2 _ _ ?_)))
      refine WP_seq_k fun K6 hK6 => ?_
      refine WP_region ?_
      refine RL_do rfl rfl (Do_move (v := .int _ _) rfl) ?_
      refine RL_call rfl rfl (DoC_func en84 rfl) (wordRef_c _ d.toNat (by omega) (by omega) w) ?_
      rintro _ w84 ⟨rfl, hB⟩
      replace H := H.below hB
      refine ⟨_, rfl, ?_⟩
      refine RL_do rfl rfl (Do_assign (v := .int _ _) rfl) ?_
      refine RL_do rfl rfl (Do_assign rfl) ?_
      refine (RL_nil (thenQ_n (hK6 _ _ ?_)))
      refine (WP_ret (post2 (v1 := .int _ _) (v2 := .int _ _) rfl rfl rfl ?_))
      exact ⟨by rw [wordR_2 (by omega)], H.kept⟩

/-- orangebox/frame.Data -/
theorem Data_c (x : Int) (w : World) :
    Calls Tryd.prog 28 #[.int .i64 x] w fun e w' => e = .returned (.tuple #[.int .i64 (dataR x).1, .bool (dataR x).2.1, .int .i64 (dataR x).2.2]) ∧ Below w.heap.size w w' := by
  refine calls_of_WP (args := [.int .i64 x]) 17 Tryd.func28 rfl rfl rfl ?_
  have H := Sep.start [] w
  refine WP_seq_k fun K1 hK1 => ?_
  refine WP_region ?_
  refine RL_do rfl rfl (Do_assign rfl) ?_
  refine RL_do rfl rfl (Do_assign rfl) ?_
  refine RL_do rfl rfl (Do_assign rfl) ?_
  refine (RL_nil (thenQ_n (hK1 _ _ ?_)))
  refine WP_seq_k fun K2 hK2 => ?_
  refine WP_seq_k fun K3 hK3 => ?_
  refine WP_region ?_
  refine RL_do rfl rfl (Do_move (v := .int _ _) rfl) ?_
  refine RL_do rfl rfl (Do_lss rfl rfl) ?_
  first | refine RL_split rfl rfl rfl (fun c1 => ?_) (fun c1 => ?_) | refine RL_splitb rfl rfl rfl (fun c1 => ?_) (fun c1 => ?_)
  · skip
    refine RL_off rfl rfl ?_
    refine RL_off rfl rfl ?_
    refine RL_do rfl rfl (Do_pick_t (v := .bool _) rfl rfl) ?_
    refine (RL_nil (thenQ_n (hK3 _ _ ?_)))
    refine WP_ift rfl ?_
    refine WP_seq_k fun K4 hK4 => ?_
    refine WP_region ?_
    refine RL_do rfl rfl (Do_assign rfl) ?_
    refine RL_do rfl rfl (Do_assign rfl) ?_
    refine RL_do rfl rfl (Do_assign rfl) ?_
    refine (RL_nil (thenQ_n (hK4 _ _ ?_)))
    refine (WP_ret (thenQ_r (post3 (v1 := .int _ _) (v2 := .bool _) (v3 := .int _ _) rfl rfl rfl rfl ?_)))
    exact ⟨by rw [dataR_1 (by omega)], H.kept⟩
  · skip
    refine RL_do rfl rfl (Do_move (v := .int _ _) rfl) ?_
    refine RL_do rfl rfl (Do_gtr rfl rfl) ?_
    refine RL_do rfl rfl (Do_pick_f (v := .bool _) rfl rfl) ?_
    refine (RL_nil (thenQ_n (hK3 _ _ ?_)))
    first | refine WP_if rfl (fun c2 => ?_) (fun c2 => ?_) | refine WP_ifb rfl (fun c2 => ?_) (fun c2 => ?_)
    · skip
      refine WP_seq_k fun K5 hK5 => ?_
      refine WP_region ?_
      refine RL_do rfl rfl (Do_assign rfl) ?_
      refine RL_do rfl rfl (Do_assign rfl) ?_
      refine RL_do rfl rfl (Do_assign rfl) ?_
      refine (RL_nil (thenQ_n (hK5 _ _ ?_)))
      refine (WP_ret (thenQ_r (post3 (v1 := .int _ _) (v2 := .bool _) (v3 := .int _ _) rfl rfl rfl rfl ?_)))
      exact ⟨by rw [dataR_1 (by omega)], H.kept⟩
    · skip
      refine (WP_skip (thenQ_n (hK2 _ _ ?_)))
      refine WP_seq_k fun K6 hK6 => ?_
      refine WP_region ?_
      refine RL_do rfl rfl (Do_move (v := .int _ _) rfl) ?_
      refine RL_do rfl rfl (Do_conv u3 u23 rfl (wrap_u16 (by omega) (by omega))) ?_
      refine RL_call rfl rfl (DoC_func en85 rfl) (data_c _ (by omega) (by omega) w) ?_
      rintro _ w85 ⟨rfl, hB⟩
      replace H := H.below hB
      refine ⟨_, rfl, ?_⟩
      refine RL_do rfl rfl (Do_move (v := .int _ _) rfl) ?_
      refine RL_do rfl rfl (Do_conv u3 u23 rfl (wrap_u16 (by omega) (by omega))) ?_
      refine RL_call rfl rfl (DoC_func en86 rfl) (odd_c _ x.toNat (by omega) (by omega) w85) ?_
      rintro _ w86 ⟨rfl, hB⟩
      replace H := H.below hB
      refine ⟨_, rfl, ?_⟩
      refine RL_do rfl rfl (Do_assign (v := .int _ _) rfl) ?_
      refine RL_do rfl rfl (Do_assign (v := .bool _) rfl) ?_
      refine RL_do rfl rfl (Do_assign rfl) ?_
      refine (RL_nil (thenQ_n (hK6 _ _ ?_)))
      refine (WP_ret (post3 (v1 := .int _ _) (v2 := .bool _) (v3 := .int _ _) rfl rfl rfl rfl ?_))
      exact ⟨by rw [dataR_2 (by omega), show decide (x.toNat ≤ 4095 ∧ oddN x.toNat) = decide (oddN x.toNat) from decide_eq_decide.2 ⟨fun h => h.2, fun h => ⟨by omega, h⟩⟩], H.kept⟩

/-- orangebox/orangeboxref1.Data -/
theorem DataRef_c (x : Int) (w : World) :
    Calls Tryd.prog 29 #[.int .i64 x] w fun e w' => e = .returned (.tuple #[.int .i64 (dataR x).1, .bool (dataR x).2.1, .int .i64 (dataR x).2.2]) ∧ Below w.heap.size w w' := by
  refine calls_of_WP (args := [.int .i64 x]) 15 Tryd.func29 rfl rfl rfl ?_
  have H := Sep.start [] w
  refine WP_seq_k fun K1 hK1 => ?_
  refine WP_region ?_
  refine RL_do rfl rfl (Do_assign rfl) ?_
  refine RL_do rfl rfl (Do_assign rfl) ?_
  refine RL_do rfl rfl (Do_assign rfl) ?_
  refine (RL_nil (thenQ_n (hK1 _ _ ?_)))
  refine WP_seq_k fun K2 hK2 => ?_
  refine WP_seq_k fun K3 hK3 => ?_
  refine WP_region ?_
  refine RL_do rfl rfl (Do_move (v := .int _ _) rfl) ?_
  refine RL_do rfl rfl (Do_lss rfl rfl) ?_
  first | refine RL_split rfl rfl rfl (fun c1 => ?_) (fun c1 => ?_) | refine RL_splitb rfl rfl rfl (fun c1 => ?_) (fun c1 => ?_)
  · skip
    refine RL_off rfl rfl ?_
    refine RL_off rfl rfl ?_
    refine RL_do rfl rfl (Do_pick_t (v := .bool _) rfl rfl) ?_
    refine (RL_nil (thenQ_n (hK3 _ _ ?_)))
    refine WP_ift rfl ?_
    refine WP_seq_k fun K4 hK4 => ?_
    refine WP_region ?_
    refine RL_do rfl rfl (Do_assign rfl) ?_
    refine RL_do rfl rfl (Do_assign rfl) ?_
    refine RL_do rfl rfl (Do_assign rfl) ?_
    refine (RL_nil (thenQ_n (hK4 _ _ ?_)))
    refine (WP_ret (thenQ_r (post3 (v1 := .int _ _) (v2 := .bool _) (v3 := .int _ _) rfl rfl rfl rfl ?_)))
    exact ⟨by rw [dataR_1 (by omega)], H.kept⟩
  · skip
    refine RL_do rfl rfl (Do_move (v := .int _ _) rfl) ?_
    refine RL_do rfl rfl (Do_gtr rfl rfl) ?_
    refine RL_do rfl rfl (Do_pick_f (v := .bool _) rfl rfl) ?_
    refine (RL_nil (thenQ_n (hK3 _ _ ?_)))
    first | refine WP_if rfl (fun c2 => ?_) (fun c2 => ?_) | refine WP_ifb rfl (fun c2 => ?_) (fun c2 => ?_)
    · skip
      refine WP_seq_k fun K5 hK5 => ?_
      refine WP_region ?_
      refine RL_do rfl rfl (Do_assign rfl) ?_
      refine RL_do rfl rfl (Do_assign rfl) ?_
      refine RL_do rfl rfl (Do_assign rfl) ?_
      refine (RL_nil (thenQ_n (hK5 _ _ ?_)))
      refine (WP_ret (thenQ_r (post3 (v1 := .int _ _) (v2 := .bool _) (v3 := .int _ _) rfl rfl rfl rfl ?_)))
      exact ⟨by rw [dataR_1 (by omega)], H.kept⟩
    · skip
      refine (WP_skip (thenQ_n (hK2 _ _ ?_)))
      refine WP_seq_k fun K6 hK6 => ?_
      refine WP_region ?_
      refine RL_do rfl rfl (Do_move (v := .int _ _) rfl) ?_
      refine RL_do rfl rfl (Do_rem rfl rfl (by omega) (by omega)) ?_
      refine RL_do rfl rfl (Do_move (v := .int _ _) rfl) ?_
      refine RL_call rfl rfl (DoC_func en87 rfl) (oddR_c _ x.toNat (by omega) (by omega) w) ?_
      rintro _ w87 ⟨rfl, hB⟩
      replace H := H.below hB
      refine ⟨_, rfl, ?_⟩
      refine RL_do rfl rfl (Do_assign (v := .int _ _) rfl) ?_
      refine RL_do rfl rfl (Do_assign (v := .bool _) rfl) ?_
      refine RL_do rfl rfl (Do_assign rfl) ?_
      refine (RL_nil (thenQ_n (hK6 _ _ ?_)))
      refine (WP_ret (post3 (v1 := .int _ _) (v2 := .bool _) (v3 := .int _ _) rfl rfl rfl rfl ?_))
      exact ⟨by rw [dataR_2 (by omega)], H.kept⟩

/-- orangebox/orangeboxref1.syncOf -/
theorem syncOf_c (x : Int) (n : Nat) (hx : x = n) (hn : n < 4194304) (w : World) :
    Calls Tryd.prog 88 #[.int .i64 x] w fun e w' => e = .returned (.int .i64 (wd tab (n % 4) : Nat)) ∧ Below w.heap.size w w' := by
  refine calls_of_WP (args := [.int .i64 x]) 7 Tryd.func88 rfl rfl rfl ?_
  have H := Sep.start [] w
  refine WP_seq_k fun K1 hK1 => ?_
  refine WP_region ?_
  refine RL_do rfl rfl (Do_assign rfl) ?_
  refine (RL_nil (thenQ_n (hK1 _ _ ?_)))
  refine WP_seq_k fun K2 hK2 => ?_
  refine WP_region ?_
  refine RL_do rfl rfl (Do_build (bt128 _ _ _ _ )) ?_
  refine RL_do rfl rfl (Do_move (v := .int _ _) rfl) ?_
  refine RL_do rfl rfl (Do_rem rfl rfl (by omega) (by omega)) ?_
  refine RL_do rfl rfl (Do_index1 u128 one3 sz3 rfl rfl (by omega) (by omega) (by rw [show (x % 4).toNat = n % 4 by omega]; exact nats_get (l := tab) (by show _ < 4; omega))) ?_
  refine RL_do rfl rfl (Do_assign (v := .int _ _) rfl) ?_
  refine (RL_nil (thenQ_n (hK2 _ _ ?_)))
  refine (WP_ret (post1 (v1 := .int _ _) rfl rfl ?_))
  exact ⟨rfl, H.kept⟩

/-- orangebox/frame.Sync -/
theorem Sync_c (x : Int) (w : World) (hg : Cells w ⟨0, 0, none⟩ (wds tab)) :
    Calls Tryd.prog 30 #[.int .i64 x] w fun e w' => e = .returned (.tuple #[.int .i64 (syncR x).1, .int .i64 (syncR x).2]) ∧ Below w.heap.size w w' := by
  refine calls_of_WP (args := [.int .i64 x]) 15 Tryd.func30 rfl rfl rfl ?_
  have H := Sep.start [] w
  refine WP_seq_k fun K1 hK1 => ?_
  refine WP_region ?_
  refine RL_do rfl rfl (Do_assign rfl) ?_
  refine RL_do rfl rfl (Do_assign rfl) ?_
  refine (RL_nil (thenQ_n (hK1 _ _ ?_)))
  refine WP_seq_k fun K2 hK2 => ?_
  refine WP_seq_k fun K3 hK3 => ?_
  refine WP_region ?_
  refine RL_do rfl rfl (Do_move (v := .int _ _) rfl) ?_
  refine RL_do rfl rfl (Do_lss rfl rfl) ?_
  first | refine RL_split rfl rfl rfl (fun c1 => ?_) (fun c1 => ?_) | refine RL_splitb rfl rfl rfl (fun c1 => ?_) (fun c1 => ?_)
  · skip
    refine RL_off rfl rfl ?_
    refine RL_off rfl rfl ?_
    refine RL_do rfl rfl (Do_pick_t (v := .bool _) rfl rfl) ?_
    refine (RL_nil (thenQ_n (hK3 _ _ ?_)))
    refine WP_ift rfl ?_
    refine WP_seq_k fun K4 hK4 => ?_
    refine WP_region ?_
    refine RL_do rfl rfl (Do_assign rfl) ?_
    refine RL_do rfl rfl (Do_assign rfl) ?_
    refine (RL_nil (thenQ_n (hK4 _ _ ?_)))
    refine (WP_ret (thenQ_r (post2 (v1 := .int _ _) (v2 := .int _ _) rfl rfl rfl ?_)))
    exact ⟨by rw [syncR_1 (by omega)], H.kept⟩
  · skip
    refine RL_do rfl rfl (Do_move (v := .int _ _) rfl) ?_
    refine RL_do rfl rfl (Do_geq rfl rfl) ?_
    refine RL_do rfl rfl (Do_pick_f (v := .bool _) rfl rfl) ?_
    refine (RL_nil (thenQ_n (hK3 _ _ ?_)))
    first | refine WP_if rfl (fun c2 => ?_) (fun c2 => ?_) | refine WP_ifb rfl (fun c2 => ?_) (fun c2 => ?_)
    · skip
      refine WP_seq_k fun K5 hK5 => ?_
      refine WP_region ?_
      refine RL_do rfl rfl (Do_assign rfl) ?_
      refine RL_do rfl rfl (Do_assign rfl) ?_
      refine (RL_nil (thenQ_n (hK5 _ _ ?_)))
      refine (WP_ret (thenQ_r (post2 (v1 := .int _ _) (v2 := .int _ _) rfl rfl rfl ?_)))
      exact ⟨by rw [syncR_1 (by omega)], H.kept⟩
    · skip
      refine (WP_skip (thenQ_n (hK2 _ _ ?_)))
      refine WP_seq_k fun K6 hK6 => ?_
      refine WP_region ?_
      have q1 := tab_lt (x.toNat % 4)
      refine RL_do rfl rfl (Do_move (v := .int _ _) rfl) ?_
      refine RL_do rfl rfl (Do_rem rfl rfl (by omega) (by omega)) ?_
      refine RL_do rfl rfl (Do_idxa1 u111 sz23 rfl rfl (by omega) (by omega) (by omega : _ = x.toNat % 4) (by first | exact Nat.zero_add _ | rfl)) ?_
      refine RL_do rfl rfl (Do_load one23 rfl (Cells.get0 (hg.only (Sep.only H) (by simp)) (i := x.toNat % 4) (wds_get (by show _ < 4; omega)))) ?_
      refine RL_do rfl rfl (Do_conv u23 u3 rfl (wrap_i64 (by omega) (by omega))) ?_
      refine RL_do rfl rfl (Do_assign (v := .int _ _) rfl) ?_
      refine RL_do rfl rfl (Do_assign rfl) ?_
      refine (RL_nil (thenQ_n (hK6 _ _ ?_)))
      refine (WP_ret (post2 (v1 := .int _ _) (v2 := .int _ _) rfl rfl rfl ?_))
      exact ⟨by rw [syncR_2 (by omega)], H.kept⟩

/-- orangebox/orangeboxref1.Sync -/
theorem SyncRef_c (x : Int) (w : World) :
    Calls Tryd.prog 31 #[.int .i64 x] w fun e w' => e = .returned (.tuple #[.int .i64 (syncR x).1, .int .i64 (syncR x).2]) ∧ Below w.heap.size w w' := by
  refine calls_of_WP (args := [.int .i64 x]) 12 Tryd.func31 rfl rfl rfl ?_
  have H := Sep.start [] w
  refine WP_seq_k fun K1 hK1 => ?_
  refine WP_region ?_
  refine RL_do rfl rfl (Do_assign rfl) ?_
  refine RL_do rfl rfl (Do_assign rfl) ?_
  refine (RL_nil (thenQ_n (hK1 _ _ ?_)))
  refine WP_seq_k fun K2 hK2 => ?_
  refine WP_seq_k fun K3 hK3 => ?_
  refine WP_region ?_
  refine RL_do rfl rfl (Do_move (v := .int _ _) rfl) ?_
  refine RL_do rfl rfl (Do_lss rfl rfl) ?_
  first | refine RL_split rfl rfl rfl (fun c1 => ?_) (fun c1 => ?_) | refine RL_splitb rfl rfl rfl (fun c1 => ?_) (fun c1 => ?_)
  · skip
    refine RL_off rfl rfl ?_
    refine RL_off rfl rfl ?_
    refine RL_do rfl rfl (Do_pick_t (v := .bool _) rfl rfl) ?_
    refine (RL_nil (thenQ_n (hK3 _ _ ?_)))
    refine WP_ift rfl ?_
    refine WP_seq_k fun K4 hK4 => ?_
    refine WP_region ?_
    refine RL_do rfl rfl (Do_assign rfl) ?_
    refine RL_do rfl rfl (Do_assign rfl) ?_
    refine (RL_nil (thenQ_n (hK4 _ _ ?_)))
    refine (WP_ret (thenQ_r (post2 (v1 := .int _ _) (v2 := .int _ _) rfl rfl rfl ?_)))
    exact ⟨by rw [syncR_1 (by omega)], H.kept⟩
  · skip
    refine RL_do rfl rfl (Do_move (v := .int _ _) rfl) ?_
    refine RL_do rfl rfl (Do_geq rfl rfl) ?_
    refine RL_do rfl rfl (Do_pick_f (v := .bool _) rfl rfl) ?_
    refine (RL_nil (thenQ_n (hK3 _ _ ?_)))
    first | refine WP_if rfl (fun c2 => ?_) (fun c2 => ?_) | refine WP_ifb rfl (fun c2 => ?_) (fun c2 => ?_)
    · skip
      refine WP_seq_k fun K5 hK5 => ?_
      refine WP_region ?_
      refine RL_do rfl rfl (Do_assign rfl) ?_
      refine RL_do rfl rfl (Do_assign rfl) ?_
      refine (RL_nil (thenQ_n (hK5 _ _ ?_)))
      refine (WP_ret (thenQ_r (post2 (v1 := .int _ _) (v2 := .int _ _) rfl rfl rfl ?_)))
      exact ⟨by rw [syncR_1 (by omega)], H.kept⟩
    · skip
      refine (WP_skip (thenQ_n (hK2 _ _ ?_)))
      refine WP_seq_k fun K6 hK6 => ?_
      refine WP_region ?_
      refine RL_do rfl rfl (Do_move (v := .int _ _) rfl) ?_
      refine RL_call rfl rfl (DoC_func en88 rfl) (syncOf_c _ x.toNat (by omega) (by omega) w) ?_
      rintro _ w88 ⟨rfl, hB⟩
      replace H := H.below hB
      refine ⟨_, rfl, ?_⟩
      refine RL_do rfl rfl (Do_assign (v := .int _ _) rfl) ?_
      refine RL_do rfl rfl (Do_assign rfl) ?_
      refine (RL_nil (thenQ_n (hK6 _ _ ?_)))
      refine (WP_ret (post2 (v1 := .int _ _) (v2 := .int _ _) rfl rfl rfl ?_))
      exact ⟨by rw [syncR_2 (by omega)], H.kept⟩
end Go.Proofs.YtafgmocdnjdmoaaDoor
