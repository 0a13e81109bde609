/- Walks: what each function computes, for every argument; no condition but those that stand in the statements. -/
import Derived.Test.YtbjhondbheijiaaGreatZV0
import Derived.Test.YtbjhondbheijiaaGreatZV7
import Derived.Test.YtbjhondbheijiaaGreatZV5
namespace Go.Proofs.YtbjhondbheijiaaGreat.L
open Go.RowKit Go.OB Go.Lf
/- orangebox/orangeboxref9.times -/
set_option maxHeartbeats 4000000 in
theorem F_ref9_times_w (p0 : Int) (p1 : Int) (r : Orangeboxref9Wide) (hF : F_ref9_times p0 p1 = some r) (O S : List Nat) (w : World) (H : Hd O w w S []) :
    Calls Tryz.prog 19 ([.int .i64 p0, .int .i64 p1] : List Value).toArray w fun e w' => e = .returned (.agg [.bool r.neg, .int .u64 r.high, .int .u64 r.low].toArray) ∧ Hd O w w' S [] := by
  unfold F_ref9_times at hF
  refine calls_of_WP 31 Tryz.func19 rfl rfl rfl ?_
  refine WP_seq_k fun K1 hK1 => ?_
  refine WP_region ?_
  refine RL_ex rfl rfl (Lx_alloc zero54 H) ?_
  rintro _ w4 ⟨b2, rfl, H⟩
  refine (RL_nil (thenQ_n (hK1 _ _ ?_)))
  refine WP_seq_k fun K5 hK5 => ?_
  refine WP_region ?_
  refine RL_do rfl rfl (Do_move (v := .int .i64 p0) rfl) ?_
  obtain ⟨x6, e7, hF⟩ := letO_some hF
  refine RL_do rfl rfl (Do_as (Do_lss (a := p0) (b := 0) rfl rfl) (congrArg Value.bool e7)) ?_
  refine RL_do rfl rfl (Do_move (v := .int .i64 p1) rfl) ?_
  obtain ⟨x8, e9, hF⟩ := letO_some hF
  refine RL_do rfl rfl (Do_as (Do_lss (a := p1) (b := 0) rfl rfl) (congrArg Value.bool e9)) ?_
  obtain ⟨x10, e11, hF⟩ := letO_some hF
  refine RL_do rfl rfl (Do_as (Do_neqb (p := x6) (q := x8) u4 rfl rfl) (congrArg Value.bool e11)) ?_
  refine RL_do rfl rfl (Do_assign (v := .bool x10) rfl) ?_
  refine (RL_nil (thenQ_n (hK5 _ _ ?_)))
  refine WP_seq_k fun K12 hK12 => ?_
  refine WP_region ?_
  refine RL_do rfl rfl (Do_move (v := .int .i64 p0) rfl) ?_
  refine RL_do rfl rfl (Do_move (v := .int .i64 p0) rfl) ?_
  obtain ⟨x13, e14, hF⟩ := letO_some hF
  refine RL_do rfl rfl (Do_neg (a := p0) rfl e14) ?_
  obtain ⟨x15, e16, hF⟩ := letO_some hF
  refine RL_do rfl rfl (Do_max (j := p0) (q := x13) rfl rfl e16) ?_
  obtain ⟨x17, e18, hF⟩ := letO_some hF
  refine RL_do rfl rfl (Do_conv u3 u52 rfl e18) ?_
  refine RL_do rfl rfl (Do_move (v := .int .i64 p1) rfl) ?_
  refine RL_do rfl rfl (Do_move (v := .int .i64 p1) rfl) ?_
  obtain ⟨x19, e20, hF⟩ := letO_some hF
  refine RL_do rfl rfl (Do_neg (a := p1) rfl e20) ?_
  obtain ⟨x21, e22, hF⟩ := letO_some hF
  refine RL_do rfl rfl (Do_max (j := p1) (q := x19) rfl rfl e22) ?_
  obtain ⟨x23, e24, hF⟩ := letO_some hF
  refine RL_do rfl rfl (Do_conv u3 u52 rfl e24) ?_
  have H25 := H
  obtain ⟨⟨x26, x27⟩, e28, hF⟩ := bindO_some hF
  refine RL_call rfl rfl (DoC_func en39 rfl) (F_math_bits_Mul64_w x17 x23 _ e28 _ _ _ (H.enter [] [] (by decide) rfl)) ?_
  rintro _ w29 ⟨rfl, G30⟩
  have H := H25.step (G30.only : Only [] _ _)
  refine ⟨_, rfl, ?_⟩
  refine RL_do rfl rfl (Do_move (v := .tuple #[.int .u64 x26, .int .u64 x27]) rfl) ?_
  refine RL_do rfl rfl (Do_extract (v := .int .u64 x26) rfl rfl) ?_
  refine RL_do rfl rfl (Do_extract (v := .int .u64 x27) rfl rfl) ?_
  refine RL_do rfl rfl (Do_assign (v := .int .u64 x26) rfl) ?_
  refine RL_do rfl rfl (Do_assign (v := .int .u64 x27) rfl) ?_
  refine (RL_nil (thenQ_n (hK12 _ _ ?_)))
  refine WP_seq_k fun K31 hK31 => ?_
  refine WP_region ?_
  refine RL_do rfl rfl (Do_move (v := .bool x10) rfl) ?_
  refine RL_do rfl rfl (Do_move (v := .int .u64 x26) rfl) ?_
  refine RL_do rfl rfl (Do_move (v := .int .u64 x27) rfl) ?_
  refine RL_do rfl rfl (Do_build (cs := [.bool x10, .int .u64 x26, .int .u64 x27]) (bt54_0_1_2 _ _ _)) ?_
  refine RL_exU rfl (Lx_storeN (vs := [.bool x10, .int .u64 x26, .int .u64 x27]) H 0 rfl sz54 rfl rfl rfl ⟨rfl, rfl, rfl, trivial⟩ rfl) ?_
  rintro w32 H
  refine (RL_nil (thenQ_n (hK31 _ _ ?_)))
  have hR := Option.some.inj hF
  subst hR
  refine (WP_ret (postc  rfl rfl (run_loadVar_agg agg54 sz54 rfl (Blk.cells (H.item (i := 0) rfl))) ?_))
  exact ⟨rfl, H.pick [] (by decide)⟩
end Go.Proofs.YtbjhondbheijiaaGreat.L
namespace Go.Proofs.YtbjhondbheijiaaGreat.L
open Go.RowKit Go.OB Go.Lf
/- orangebox/orangeboxref9.ratio -/
set_option maxHeartbeats 4000000 in
theorem F_ref9_ratio_w (p0 : Orangeboxref9Wide) (p1 : Int) (r : Ratio × Bool) (hF : F_ref9_ratio p0 p1 = some r) (O S : List Nat) (w : World) (H : Hd O w w S []) :
    Calls Tryz.prog 40 ([.agg [.bool p0.neg, .int .u64 p0.high, .int .u64 p0.low].toArray, .int .u64 p1] : List Value).toArray w fun e w' => e = .returned (.tuple #[.agg [.int .i64 r.1.Num, .int .i64 r.1.Den].toArray, .bool r.2]) ∧ Hd O w w' S [] := by
  unfold F_ref9_ratio at hF
  refine calls_of_WP 81 Tryz.func40 rfl rfl rfl ?_
  refine WP_seq_k fun K1 hK1 => ?_
  refine WP_region ?_
  refine RL_ex rfl rfl (Lx_box (cs := [.bool p0.neg, .int .u64 p0.high, .int .u64 p0.low]) rfl H) ?_
  rintro _ w4 ⟨b2, rfl, H⟩
  refine RL_ex rfl rfl (Lx_alloc zero31 H) ?_
  rintro _ w7 ⟨b5, rfl, H⟩
  refine RL_do rfl rfl (Do_assign (v := .bool false) rfl) ?_
  refine (RL_nil (thenQ_n (hK1 _ _ ?_)))
  refine WP_seq_k fun K19 hK19 => ?_
  obtain ⟨g25, hF, hK27⟩ := bindO_some hF
  refine WP_seqS [14, 15, 16, 17, 18, 19, 20, 21] (fun (g : Unit) => [(21, .bool g25)]) (fun g wl => Hd O w wl S [.blk b2 [.bool p0.neg, .int .u64 p0.high, .int .u64 p0.low] 54, .blk b5 [.int .i64 0, .int .i64 0] 31]) ?_ ?_
  · skip
    refine WP_region ?_
    refine RL_do rfl rfl (fa54_1 rfl) ?_
    refine RL_do rfl rfl (Do_load one52 rfl (Cells.get (Blk.cells (H.item (i := 0) rfl)) (i := 1) rfl)) ?_
    obtain ⟨x28, e29, hF⟩ := letO_some hF
    refine RL_do rfl rfl (Do_as (Do_eql (a := p0.high) (b := 0) rfl rfl) (congrArg Value.bool e29)) ?_
    refine RL_splitb (b := x28) rfl rfl rfl (fun c30 => ?_) (fun c30 => ?_)
    · have hF := iteB_t c30 hF
      refine RL_do rfl rfl (fa54_2 rfl) ?_
      refine RL_do rfl rfl (Do_load one52 rfl (Cells.get (Blk.cells (H.item (i := 0) rfl)) (i := 2) rfl)) ?_
      obtain ⟨x31, e32, hF⟩ := letO_some hF
      refine RL_do rfl rfl (Do_as (Do_eql (a := p0.low) (b := 0) rfl rfl) (congrArg Value.bool e32)) ?_
      refine RL_do rfl rfl (Do_pick_t (v := .bool x31) rfl rfl) ?_
      have hR := Option.some.inj hF
      subst hR
      refine (RL_nil (thenQ_n (And.intro ?_ ?_)))
      · repeat' (first | with_reducible exact Fr_refl | refine Fr_upd rfl ?_ | refine Fr_over rfl rfl ?_)
      · exact ⟨(), (Sl_cons rfl Sl_nil), H.pick [0, 1] (by decide)⟩
    · have hF := iteB_f c30 hF
      refine RL_off rfl rfl ?_
      refine RL_off rfl rfl ?_
      refine RL_off rfl rfl ?_
      refine RL_do rfl rfl (Do_pick_f (v := .bool false) rfl rfl) ?_
      have hR := Option.some.inj hF
      subst hR
      refine (RL_nil (thenQ_n (And.intro ?_ ?_)))
      · repeat' (first | with_reducible exact Fr_refl | refine Fr_upd rfl ?_ | refine Fr_over rfl rfl ?_)
      · exact ⟨(), (Sl_cons rfl Sl_nil), H.pick [0, 1] (by decide)⟩
  · rintro _ ρ w26 H
    have hF := hK27
    refine WP_ifb (b := g25) rfl (fun c33 => ?_) (fun c33 => ?_)
    · have hF := iteB_t c33 hF
      refine WP_seq_k fun K34 hK34 => ?_
      refine WP_region ?_
      refine RL_do rfl rfl (Do_build (cs := [.int .i64 0, .int .i64 1]) (bt31_1 _)) ?_
      refine RL_exU rfl (Lx_storeN (vs := [.int .i64 0, .int .i64 1]) H 1 rfl sz31 rfl rfl rfl ⟨rfl, rfl, trivial⟩ rfl) ?_
      rintro w35 H
      refine RL_do rfl rfl (Do_assign (v := .bool true) rfl) ?_
      refine (RL_nil (thenQ_n (hK34 _ _ ?_)))
      have hR := Option.some.inj hF
      subst hR
      refine (WP_ret (thenQ_r (postc1 (v1 := .bool true) rfl rfl (run_loadVar_agg agg31 sz31 rfl (Blk.cells (H.item (i := 1) rfl))) rfl ?_)))
      exact ⟨rfl, H.pick [] (by decide)⟩
    · have hF := iteB_f c33 hF
      refine (WP_skip (thenQ_n (hK19 _ _ ?_)))
      refine WP_seq_k fun K36 hK36 => ?_
      have H37 := H
      have H := H.rebase
      have H38 := H
      refine WP_mix0 H [0, 1, 2, 3, 4, 5, 6, 7, 8, 9, 10, 11, 12] [.pure, .read, .pure, .pure, .pure, .read, .pure, .fcall, .pure, .pure, .pure, .pure, .pure] mixed (by kernel_rfl) (by kernel_rfl) (by kernel_rfl) rfl ?_
      refine Mx.XL_pure rfl rfl rfl (fun w' hw' => fa54_1 rfl) ?_
      refine Mx.XL_read oS rfl rfl rfl (fun w' hw' => Do_load one52 rfl (Cells.get (Blk.cells ((H.sees hw').item (i := 0) rfl)) (i := 1) rfl)) ?_
      refine Mx.XL_pure rfl rfl rfl (fun w' hw' => Do_move (v := .int .u64 p1) rfl) ?_
      obtain ⟨x39, e40, hF⟩ := bindO_some hF
      refine Mx.XL_pure rfl rfl rfl (fun w' hw' => Do_rem' (j := p0.high) (q := p1) rfl rfl e40) ?_
      refine Mx.XL_pure rfl rfl rfl (fun w' hw' => fa54_2 rfl) ?_
      refine Mx.XL_read oS rfl rfl rfl (fun w' hw' => Do_load one52 rfl (Cells.get (Blk.cells ((H.sees hw').item (i := 0) rfl)) (i := 2) rfl)) ?_
      refine Mx.XL_pure rfl rfl rfl (fun w' hw' => Do_move (v := .int .u64 p1) rfl) ?_
      have H41 := H
      obtain ⟨⟨x42, x43⟩, e44, hF⟩ := bindO_some hF
      refine Mx.XL_fcall oS rfl rfl rfl (v := .tuple #[.int .u64 x42, .int .u64 x43]) (fun w' hw' => DoC_func en57 rfl) (fun w' hw' => by have q := call_read (E.X_Div64_w x39 p0.low p1 _ e44 _ _ _ (Hd.fresh0 w')); exact q) ?_
      have H := H41
      refine Mx.XL_pure rfl rfl rfl (fun w' hw' => Do_move (v := .tuple #[.int .u64 x42, .int .u64 x43]) rfl) ?_
      refine Mx.XL_pure rfl rfl rfl (fun w' hw' => Do_extract (v := .int .u64 x42) rfl rfl) ?_
      refine Mx.XL_pure rfl rfl rfl (fun w' hw' => Do_extract (v := .int .u64 x43) rfl rfl) ?_
      refine Mx.XL_pure rfl rfl rfl (fun w' hw' => Do_assign (v := .int .u64 x42) rfl) ?_
      refine Mx.XL_pure rfl rfl rfl (fun w' hw' => Do_assign (v := .int .u64 x43) rfl) ?_
      refine Mx.XL_nil fun w45 hS => ?_
      have H := H.sees hS
      have H := H37.rejoin H
      refine (thenQ_n (hK36 _ _ ?_))
      refine WP_seq_k fun K46 hK46 => ?_
      refine WP_region ?_
      refine RL_do rfl rfl (Do_move (v := .int .u64 p1) rfl) ?_
      refine RL_do rfl rfl (Do_assign (v := .int .u64 p1) rfl) ?_
      refine (RL_nil (thenQ_n (hK46 _ _ ?_)))
      obtain ⟨g84, hF, hK86⟩ := bindO_some hF
      refine WP_seqS [8, 9, 35, 36, 37, 38, 39, 40, 41] (fun (g : Unit) => [(8, .int .u64 g84)]) (fun g wl => Hd O w wl S [.blk b2 [.bool p0.neg, .int .u64 p0.high, .int .u64 p0.low] 54, .blk b5 [.int .i64 0, .int .i64 0] 31]) ?_ ?_
      · skip
        refine WP_seq_k fun K87 hK87 => ?_
        refine WP_region ?_
        refine RL_do rfl rfl (Do_move (v := .int .u64 x43) rfl) ?_
        refine RL_do rfl rfl (Do_assign (v := .int .u64 x43) rfl) ?_
        refine (RL_nil (thenQ_n (hK87 _ _ ?_)))
        refine WP_block ?_
        unfold F_ref9_ratio_L1 at hF
        obtain ⟨B120, n121, eB122, hF⟩ := loopO_some hF
        refine WP_loopS [8, 9, 36, 37, 38, 39, 40, 41] (fun (g : Nat × Int × Int) => [(8, .int .u64 g.2.1), (9, .int .u64 g.2.2)]) (fun g wl => Hd O w wl S [.blk b2 [.bool p0.neg, .int .u64 p0.high, .int .u64 p0.low] 54, .blk b5 [.int .i64 0, .int .i64 0] 31] ∧ loopN B120 g.1 (g.2.1, g.2.2) = some g84) (fun g => g.1) (n121, p1, x43) (Sl_cons rfl (Sl_cons rfl Sl_nil)) ⟨H.pick [0, 1] (by decide), hF⟩ ?_
        clear H hF
        rintro ⟨n121, g118, g119⟩ ρ w124 ⟨H, hF⟩
        obtain ⟨n125, rfl, hF⟩ := loopN_pos hF
        have hF := loop_body eB122 hF
        refine WP_seq_k fun K130 hK130 => ?_
        refine WP_seq_k fun K131 hK131 => ?_
        refine WP_region ?_
        refine RL_do rfl rfl (Do_move (v := .int .u64 g119) rfl) ?_
        obtain ⟨x132, e133, hF⟩ := letO_some hF
        refine RL_do rfl rfl (Do_as (Do_neq (a := g119) (b := 0) rfl rfl) (congrArg Value.bool e133)) ?_
        refine (RL_nil (thenQ_n (hK131 _ _ ?_)))
        refine WP_ifb (b := x132) rfl (fun c134 => ?_) (fun c134 => ?_)
        · have hF := iteB_t c134 hF
          refine (WP_skip (thenQ_n (hK130 _ _ ?_)))
          refine WP_block ?_
          have H135 := H
          have H := H.rebase
          have H136 := H
          refine WP_mix0 H [0, 1, 2, 3, 4, 5] [.pure, .pure, .pure, .pure, .pure, .pure] mixed (by kernel_rfl) (by kernel_rfl) (by kernel_rfl) rfl ?_
          refine Mx.XL_pure rfl rfl rfl (fun w' hw' => Do_move (v := .int .u64 g119) rfl) ?_
          refine Mx.XL_pure rfl rfl rfl (fun w' hw' => Do_move (v := .int .u64 g118) rfl) ?_
          refine Mx.XL_pure rfl rfl rfl (fun w' hw' => Do_move (v := .int .u64 g119) rfl) ?_
          obtain ⟨x137, e138, hF⟩ := bindO_some hF
          refine Mx.XL_pure rfl rfl rfl (fun w' hw' => Do_rem' (j := g118) (q := g119) rfl rfl e138) ?_
          refine Mx.XL_pure rfl rfl rfl (fun w' hw' => Do_assign (v := .int .u64 g119) rfl) ?_
          refine Mx.XL_pure rfl rfl rfl (fun w' hw' => Do_assign (v := .int .u64 x137) rfl) ?_
          refine Mx.XL_nil fun w139 hS => ?_
          have H := H.sees hS
          have H := H135.rejoin H
          refine (blockQ_n (thenQ_n (And.intro ?_ ?_)))
          · repeat' (first | with_reducible exact Fr_refl | refine Fr_upd rfl ?_ | refine Fr_over rfl rfl ?_)
          · exact ⟨(n125, g119, x137), (Sl_cons rfl (Sl_cons rfl Sl_nil)), ⟨H.pick [0, 1] (by decide), hF⟩, Nat.lt_succ_self _⟩
        · have hF := iteB_f c134 hF
          have hR := Option.some.inj hF
          subst hR
          refine (WP_exit (thenQ_x (thenQ_x (blockQ_eq (thenQ_n (And.intro ?_ ?_))))))
          · repeat' (first | with_reducible exact Fr_refl | refine Fr_upd rfl ?_ | refine Fr_over rfl rfl ?_)
          · exact ⟨(), (Sl_cons rfl Sl_nil), H.pick [0, 1] (by decide)⟩
      · rintro _ ρ w85 H
        have hF := hK86
        refine WP_seq_k fun K140 hK140 => ?_
        refine WP_region ?_
        refine RL_do rfl rfl (fa54_1 rfl) ?_
        refine RL_do rfl rfl (Do_load one52 rfl (Cells.get (Blk.cells (H.item (i := 0) rfl)) (i := 1) rfl)) ?_
        refine RL_do rfl rfl (Do_move (v := .int .u64 g84) rfl) ?_
        obtain ⟨x141, e142, hF⟩ := bindO_some hF
        refine RL_do rfl rfl (Do_quo' (j := p0.high) (q := g84) rfl rfl e142) ?_
        refine RL_do rfl rfl (Do_assign (v := .int .u64 x141) rfl) ?_
        refine (RL_nil (thenQ_n (hK140 _ _ ?_)))
        refine WP_seq_k fun K143 hK143 => ?_
        have H144 := H
        have H := H.rebase
        have H145 := H
        refine WP_mix0 H [0, 1, 2, 3, 4, 5, 6, 7, 8, 9, 10, 11, 12] [.pure, .read, .pure, .pure, .pure, .read, .pure, .fcall, .pure, .pure, .pure, .pure, .pure] mixed (by kernel_rfl) (by kernel_rfl) (by kernel_rfl) rfl ?_
        refine Mx.XL_pure rfl rfl rfl (fun w' hw' => fa54_1 rfl) ?_
        refine Mx.XL_read oS rfl rfl rfl (fun w' hw' => Do_load one52 rfl (Cells.get (Blk.cells ((H.sees hw').item (i := 0) rfl)) (i := 1) rfl)) ?_
        refine Mx.XL_pure rfl rfl rfl (fun w' hw' => Do_move (v := .int .u64 g84) rfl) ?_
        obtain ⟨x146, e147, hF⟩ := bindO_some hF
        refine Mx.XL_pure rfl rfl rfl (fun w' hw' => Do_rem' (j := p0.high) (q := g84) rfl rfl e147) ?_
        refine Mx.XL_pure rfl rfl rfl (fun w' hw' => fa54_2 rfl) ?_
        refine Mx.XL_read oS rfl rfl rfl (fun w' hw' => Do_load one52 rfl (Cells.get (Blk.cells ((H.sees hw').item (i := 0) rfl)) (i := 2) rfl)) ?_
        refine Mx.XL_pure rfl rfl rfl (fun w' hw' => Do_move (v := .int .u64 g84) rfl) ?_
        have H148 := H
        obtain ⟨⟨x149, x150⟩, e151, hF⟩ := bindO_some hF
        refine Mx.XL_fcall oS rfl rfl rfl (v := .tuple #[.int .u64 x149, .int .u64 x150]) (fun w' hw' => DoC_func en57 rfl) (fun w' hw' => by have q := call_read (E.X_Div64_w x146 p0.low g84 _ e151 _ _ _ (Hd.fresh0 w')); exact q) ?_
        have H := H148
        refine Mx.XL_pure rfl rfl rfl (fun w' hw' => Do_move (v := .tuple #[.int .u64 x149, .int .u64 x150]) rfl) ?_
        refine Mx.XL_pure rfl rfl rfl (fun w' hw' => Do_extract (v := .int .u64 x149) rfl rfl) ?_
        refine Mx.XL_pure rfl rfl rfl (fun w' hw' => Do_extract (v := .int .u64 x150) rfl rfl) ?_
        refine Mx.XL_pure rfl rfl rfl (fun w' hw' => Do_assign (v := .int .u64 x149) rfl) ?_
        refine Mx.XL_pure rfl rfl rfl (fun w' hw' => Do_assign (v := .int .u64 x150) rfl) ?_
        refine Mx.XL_nil fun w152 hS => ?_
        have H := H.sees hS
        have H := H144.rejoin H
        refine (thenQ_n (hK143 _ _ ?_))
        refine WP_seq_k fun K153 hK153 => ?_
        refine WP_region ?_
        refine RL_do rfl rfl (Do_move (v := .int .u64 p1) rfl) ?_
        refine RL_do rfl rfl (Do_move (v := .int .u64 g84) rfl) ?_
        obtain ⟨x154, e155, hF⟩ := bindO_some hF
        refine RL_do rfl rfl (Do_quo' (j := p1) (q := g84) rfl rfl e155) ?_
        refine RL_do rfl rfl (Do_assign (v := .int .u64 x154) rfl) ?_
        refine (RL_nil (thenQ_n (hK153 _ _ ?_)))
        refine WP_seq_k fun K170 hK170 => ?_
        obtain ⟨g179, hF, hK181⟩ := bindO_some hF
        refine WP_seqS [60, 61, 62, 63, 64, 65, 66, 67, 68, 69] (fun (g : Unit) => [(69, .bool g179)]) (fun g wl => Hd O w wl S [.blk b2 [.bool p0.neg, .int .u64 p0.high, .int .u64 p0.low] 54, .blk b5 [.int .i64 0, .int .i64 0] 31]) ?_ ?_
        · skip
          refine WP_region ?_
          refine RL_do rfl rfl (Do_move (v := .int .u64 x141) rfl) ?_
          obtain ⟨x182, e183, hF⟩ := letO_some hF
          refine RL_do rfl rfl (Do_as (Do_neq (a := x141) (b := 0) rfl rfl) (congrArg Value.bool e183)) ?_
          refine RL_splitb (b := x182) rfl rfl rfl (fun c184 => ?_) (fun c184 => ?_)
          · have hF := iteB_t c184 hF
            refine RL_off rfl rfl ?_
            refine RL_off rfl rfl ?_
            refine RL_do rfl rfl (Do_pick_t (v := .bool true) rfl rfl) ?_
            refine RL_do rfl rfl (Do_move (v := .bool true) rfl) ?_
            refine RL_off rfl rfl ?_
            refine RL_off rfl rfl ?_
            refine RL_do rfl rfl (Do_pick_t (v := .bool true) rfl rfl) ?_
            have hR := Option.some.inj hF
            subst hR
            refine (RL_nil (thenQ_n (And.intro ?_ ?_)))
            · repeat' (first | with_reducible exact Fr_refl | refine Fr_upd rfl ?_ | refine Fr_over rfl rfl ?_)
            · exact ⟨(), (Sl_cons rfl Sl_nil), H.pick [0, 1] (by decide)⟩
          · have hF := iteB_f c184 hF
            refine RL_do rfl rfl (Do_move (v := .int .u64 x149) rfl) ?_
            obtain ⟨x185, e186, hF⟩ := letO_some hF
            refine RL_do rfl rfl (Do_as (Do_gtr (a := x149) (b := 4611686018427387904) rfl rfl) (congrArg Value.bool e186)) ?_
            refine RL_do rfl rfl (Do_pick_f (v := .bool x185) rfl rfl) ?_
            refine RL_splitb (b := x185) rfl rfl rfl (fun c187 => ?_) (fun c187 => ?_)
            · have hF := iteB_t c187 hF
              refine RL_off rfl rfl ?_
              refine RL_off rfl rfl ?_
              refine RL_do rfl rfl (Do_pick_t (v := .bool true) rfl rfl) ?_
              have hR := Option.some.inj hF
              subst hR
              refine (RL_nil (thenQ_n (And.intro ?_ ?_)))
              · repeat' (first | with_reducible exact Fr_refl | refine Fr_upd rfl ?_ | refine Fr_over rfl rfl ?_)
              · exact ⟨(), (Sl_cons rfl Sl_nil), H.pick [0, 1] (by decide)⟩
            · have hF := iteB_f c187 hF
              refine RL_do rfl rfl (Do_move (v := .int .u64 x154) rfl) ?_
              obtain ⟨x188, e189, hF⟩ := letO_some hF
              refine RL_do rfl rfl (Do_as (Do_gtr (a := x154) (b := 4611686018427387904) rfl rfl) (congrArg Value.bool e189)) ?_
              refine RL_do rfl rfl (Do_pick_f (v := .bool x188) rfl rfl) ?_
              have hR := Option.some.inj hF
              subst hR
              refine (RL_nil (thenQ_n (And.intro ?_ ?_)))
              · repeat' (first | with_reducible exact Fr_refl | refine Fr_upd rfl ?_ | refine Fr_over rfl rfl ?_)
              · exact ⟨(), (Sl_cons rfl Sl_nil), H.pick [0, 1] (by decide)⟩
        · rintro _ ρ w180 H
          have hF := hK181
          refine WP_ifb (b := g179) rfl (fun c190 => ?_) (fun c190 => ?_)
          · have hF := iteB_t c190 hF
            refine WP_seq_k fun K191 hK191 => ?_
            refine WP_region ?_
            refine RL_do rfl rfl (Do_build (cs := [.int .i64 0, .int .i64 0]) bz31) ?_
            refine RL_exU rfl (Lx_storeN (vs := [.int .i64 0, .int .i64 0]) H 1 rfl sz31 rfl rfl rfl ⟨rfl, rfl, trivial⟩ rfl) ?_
            rintro w192 H
            refine RL_do rfl rfl (Do_assign (v := .bool false) rfl) ?_
            refine (RL_nil (thenQ_n (hK191 _ _ ?_)))
            have hR := Option.some.inj hF
            subst hR
            refine (WP_ret (thenQ_r (postc1 (v1 := .bool false) rfl rfl (run_loadVar_agg agg31 sz31 rfl (Blk.cells (H.item (i := 1) rfl))) rfl ?_)))
            exact ⟨rfl, H.pick [] (by decide)⟩
          · have hF := iteB_f c190 hF
            refine (WP_skip (thenQ_n (hK170 _ _ ?_)))
            refine WP_seq_k fun K193 hK193 => ?_
            refine WP_region ?_
            refine RL_do rfl rfl (Do_move (v := .int .u64 x149) rfl) ?_
            obtain ⟨x194, e195, hF⟩ := letO_some hF
            refine RL_do rfl rfl (Do_conv u52 u3 rfl e195) ?_
            refine RL_do rfl rfl (Do_assign (v := .int .i64 x194) rfl) ?_
            refine (RL_nil (thenQ_n (hK193 _ _ ?_)))
            obtain ⟨g200, hF, hK202⟩ := bindO_some hF
            refine WP_seqS [13, 73, 74, 75, 76] (fun (g : Unit) => [(13, .int .i64 g200)]) (fun g wl => Hd O w wl S [.blk b5 [.int .i64 0, .int .i64 0] 31]) ?_ ?_
            · skip
              refine WP_seq_k fun K203 hK203 => ?_
              refine WP_region ?_
              refine RL_do rfl rfl (fa54_0 rfl) ?_
              refine RL_do rfl rfl (Do_load one4 rfl (Cells.get (Blk.cells (H.item (i := 0) rfl)) (i := 0) rfl)) ?_
              refine (RL_nil (thenQ_n (hK203 _ _ ?_)))
              refine WP_ifb (b := p0.neg) rfl (fun c204 => ?_) (fun c204 => ?_)
              · have hF := iteB_t c204 hF
                refine WP_region ?_
                refine RL_do rfl rfl (Do_move (v := .int .i64 x194) rfl) ?_
                obtain ⟨x205, e206, hF⟩ := letO_some hF
                refine RL_do rfl rfl (Do_neg (a := x194) rfl e206) ?_
                refine RL_do rfl rfl (Do_assign (v := .int .i64 x205) rfl) ?_
                have hR := Option.some.inj hF
                subst hR
                refine (RL_nil (thenQ_n (And.intro ?_ ?_)))
                · repeat' (first | with_reducible exact Fr_refl | refine Fr_upd rfl ?_ | refine Fr_over rfl rfl ?_)
                · exact ⟨(), (Sl_cons rfl Sl_nil), H.pick [1] (by decide)⟩
              · have hF := iteB_f c204 hF
                have hR := Option.some.inj hF
                subst hR
                refine (WP_skip (thenQ_n (And.intro ?_ ?_)))
                · repeat' (first | with_reducible exact Fr_refl | refine Fr_upd rfl ?_ | refine Fr_over rfl rfl ?_)
                · exact ⟨(), (Sl_cons rfl Sl_nil), H.pick [1] (by decide)⟩
            · rintro _ ρ w201 H
              have hF := hK202
              refine WP_seq_k fun K207 hK207 => ?_
              refine WP_region ?_
              refine RL_do rfl rfl (Do_move (v := .int .i64 g200) rfl) ?_
              refine RL_do rfl rfl (Do_move (v := .int .u64 x154) rfl) ?_
              obtain ⟨x208, e209, hF⟩ := letO_some hF
              refine RL_do rfl rfl (Do_conv u52 u3 rfl e209) ?_
              refine RL_do rfl rfl (Do_build (cs := [.int .i64 g200, .int .i64 x208]) (bt31_0_1 _ _)) ?_
              refine RL_exU rfl (Lx_storeN (vs := [.int .i64 g200, .int .i64 x208]) H 0 rfl sz31 rfl rfl rfl ⟨rfl, rfl, trivial⟩ rfl) ?_
              rintro w210 H
              refine RL_do rfl rfl (Do_assign (v := .bool true) rfl) ?_
              refine (RL_nil (thenQ_n (hK207 _ _ ?_)))
              have hR := Option.some.inj hF
              subst hR
              refine (WP_ret (postc1 (v1 := .bool true) rfl rfl (run_loadVar_agg agg31 sz31 rfl (Blk.cells (H.item (i := 0) rfl))) rfl ?_))
              exact ⟨rfl, H.pick [] (by decide)⟩
end Go.Proofs.YtbjhondbheijiaaGreat.L
namespace Go.Proofs.YtbjhondbheijiaaGreat.L
open Go.RowKit Go.OB Go.Lf
/- orangebox/orangeboxref9.told -/
set_option maxHeartbeats 4000000 in
theorem F_ref9_told_w (p0 : Orangeboxref9Wide) (p1 : Int) (r : Ratio × Int) (hF : F_ref9_told p0 p1 = some r) (O S : List Nat) (w : World) (H : Hd O w w S []) :
    Calls Tryz.prog 18 ([.agg [.bool p0.neg, .int .u64 p0.high, .int .u64 p0.low].toArray, .int .u64 p1] : List Value).toArray w fun e w' => e = .returned (.tuple #[.agg [.int .i64 r.1.Num, .int .i64 r.1.Den].toArray, .int .i64 r.2]) ∧ Hd O w w' S [] := by
  unfold F_ref9_told at hF
  refine calls_of_WP 18 Tryz.func18 rfl rfl rfl ?_
  refine WP_seq_k fun K1 hK1 => ?_
  refine WP_region ?_
  refine RL_ex rfl rfl (Lx_box (cs := [.bool p0.neg, .int .u64 p0.high, .int .u64 p0.low]) rfl H) ?_
  rintro _ w4 ⟨b2, rfl, H⟩
  refine RL_ex rfl rfl (Lx_alloc zero31 H) ?_
  rintro _ w7 ⟨b5, rfl, H⟩
  refine RL_do rfl rfl (Do_assign (v := .int .i64 0) rfl) ?_
  refine (RL_nil (thenQ_n (hK1 _ _ ?_)))
  refine WP_seq_k fun K8 hK8 => ?_
  refine WP_region ?_
  refine RL_do rfl rfl (Do_as (Do_loads (cs := [.bool p0.neg, .int .u64 p0.high, .int .u64 p0.low]) agg54 rfl sz54 rfl (Blk.cells (H.item (i := 0) rfl))) rfl) ?_
  refine RL_do rfl rfl (Do_move (v := .int .u64 p1) rfl) ?_
  have H9 := H
  obtain ⟨⟨x10, x11⟩, e12, hF⟩ := bindO_some hF
  refine RL_call rfl rfl (DoC_func en40 rfl) (F_ref9_ratio_w p0 p1 _ e12 _ _ _ (H.enter [] [] (by decide) rfl)) ?_
  rintro _ w13 ⟨rfl, G14⟩
  have H := H9.step (G14.only : Only [] _ _)
  refine ⟨_, rfl, ?_⟩
  refine RL_do rfl rfl (Do_move (v := .tuple #[.agg [.int .i64 x10.Num, .int .i64 x10.Den].toArray, .bool x11]) rfl) ?_
  refine RL_do rfl rfl (Do_extract (v := .agg [.int .i64 x10.Num, .int .i64 x10.Den].toArray) rfl rfl) ?_
  refine RL_do rfl rfl (Do_extract (v := .bool x11) rfl rfl) ?_
  refine RL_ex rfl rfl (Lx_alloc zero31 H) ?_
  rintro _ w17 ⟨b15, rfl, H⟩
  refine RL_exU rfl (Lx_storeN (vs := [.int .i64 x10.Num, .int .i64 x10.Den]) H 2 rfl sz31 rfl rfl rfl ⟨rfl, rfl, trivial⟩ rfl) ?_
  rintro w18 H
  refine RL_do rfl rfl (Do_assign (v := .bool x11) rfl) ?_
  refine (RL_nil (thenQ_n (hK8 _ _ ?_)))
  refine WP_seq_k fun K25 hK25 => ?_
  refine WP_seq_k fun K26 hK26 => ?_
  refine WP_region ?_
  refine RL_do rfl rfl (Do_move (v := .bool x11) rfl) ?_
  obtain ⟨x27, e28, hF⟩ := letO_some hF
  refine RL_do rfl rfl (Do_as (Do_not (p := x11) rfl) (congrArg Value.bool e28)) ?_
  refine (RL_nil (thenQ_n (hK26 _ _ ?_)))
  refine WP_ifb (b := x27) rfl (fun c29 => ?_) (fun c29 => ?_)
  · have hF := iteB_t c29 hF
    refine WP_seq_k fun K30 hK30 => ?_
    refine WP_region ?_
    refine RL_do rfl rfl (Do_build (cs := [.int .i64 0, .int .i64 0]) bz31) ?_
    refine RL_exU rfl (Lx_storeN (vs := [.int .i64 0, .int .i64 0]) H 1 rfl sz31 rfl rfl rfl ⟨rfl, rfl, trivial⟩ rfl) ?_
    rintro w31 H
    refine RL_do rfl rfl (Do_assign (v := .int .i64 3) rfl) ?_
    refine (RL_nil (thenQ_n (hK30 _ _ ?_)))
    have hR := Option.some.inj hF
    subst hR
    refine (WP_ret (thenQ_r (postc1 (v1 := .int .i64 3) rfl rfl (run_loadVar_agg agg31 sz31 rfl (Blk.cells (H.item (i := 1) rfl))) rfl ?_)))
    exact ⟨rfl, H.pick [] (by decide)⟩
  · have hF := iteB_f c29 hF
    refine (WP_skip (thenQ_n (hK25 _ _ ?_)))
    refine WP_seq_k fun K32 hK32 => ?_
    refine WP_region ?_
    refine RL_do rfl rfl (Do_as (Do_loads (cs := [.int .i64 x10.Num, .int .i64 x10.Den]) agg31 rfl sz31 rfl (Blk.cells (H.item (i := 2) rfl))) rfl) ?_
    refine RL_exU rfl (Lx_storeN (vs := [.int .i64 x10.Num, .int .i64 x10.Den]) H 1 rfl sz31 rfl rfl rfl ⟨rfl, rfl, trivial⟩ rfl) ?_
    rintro w33 H
    refine RL_do rfl rfl (Do_assign (v := .int .i64 0) rfl) ?_
    refine (RL_nil (thenQ_n (hK32 _ _ ?_)))
    have hR := Option.some.inj hF
    subst hR
    refine (WP_ret (postc1 (v1 := .int .i64 0) rfl rfl (run_loadVar_agg agg31 sz31 rfl (Blk.cells (H.item (i := 1) rfl))) rfl ?_))
    exact ⟨rfl, H.pick [] (by decide)⟩
end Go.Proofs.YtbjhondbheijiaaGreat.L
namespace Go.Proofs.YtbjhondbheijiaaGreat.L
open Go.RowKit Go.OB Go.Lf
/- orangebox/orangeboxref9.Mean -/
set_option maxHeartbeats 4000000 in
theorem F_ref9_Mean_w (p0 : List Flight) (p1 : Mask) (p2 : Str) (v1 : Value) (v3 : Value) (v4 : Value) (r : Ratio × Int) (hF : F_ref9_Mean p0 p1 p2 = some r) (O S : List Nat) (w : World) (H : Hd O w w S [.fz (.sl rFlight v1 p0), .fz (.sl Rp.str v3 p1.Hide), .fz (.sl rGrain v4 p1.Grains)]) :
    Calls Tryz.prog 7 ([v1, .agg [.bool p1.Tails, .int .i64 p1.Days, v3, v4, .int .i64 p1.Least].toArray, .string (bs p2)] : List Value).toArray w fun e w' => e = .returned (.tuple #[.agg [.int .i64 r.1.Num, .int .i64 r.1.Den].toArray, .int .i64 r.2]) ∧ Hd O w w' S [] := by
  unfold F_ref9_Mean at hF
  refine calls_of_WP 43 Tryz.func7 rfl rfl rfl ?_
  refine WP_seq_k fun K7 hK7 => ?_
  refine WP_region ?_
  refine RL_ex rfl rfl (Lx_box (cs := [.bool p1.Tails, .int .i64 p1.Days, v3, v4, .int .i64 p1.Least]) rfl H) ?_
  rintro _ w10 ⟨b8, rfl, H⟩
  refine RL_ex rfl rfl (Lx_alloc zero31 H) ?_
  rintro _ w13 ⟨b11, rfl, H⟩
  refine RL_do rfl rfl (Do_assign (v := .int .i64 0) rfl) ?_
  refine (RL_nil (thenQ_n (hK7 _ _ ?_)))
  refine WP_seq_k fun K26 hK26 => ?_
  refine WP_seq_k fun K27 hK27 => ?_
  refine WP_region ?_
  refine RL_do rfl rfl (Do_move (v := v1) rfl) ?_
  refine RL_do rfl rfl (Do_as (Do_loads (cs := [.bool p1.Tails, .int .i64 p1.Days, v3, v4, .int .i64 p1.Least]) agg26 rfl sz26 rfl (Blk.cells (H.item (i := 3) rfl))) rfl) ?_
  refine RL_do rfl rfl (Do_move (v := .string (bs p2)) rfl) ?_
  have H28 := H
  obtain ⟨x29, e30, hF⟩ := bindO_some hF
  refine RL_call rfl rfl (DoC_func en12 rfl) (F_ref9_peaksFault_w p0 p1 p2 v1 v3 v4 _ e30 _ _ _ (H.enter [] [0, 1, 2] (by decide) rfl)) ?_
  rintro _ w31 ⟨rfl, G32⟩
  have H := H28.step (G32.only : Only [] _ _)
  refine ⟨_, rfl, ?_⟩
  refine RL_do rfl rfl (Do_assign (v := .int .i64 x29) rfl) ?_
  refine (RL_nil (thenQ_n (hK27 _ _ ?_)))
  refine WP_seq_k fun K33 hK33 => ?_
  refine WP_region ?_
  refine RL_do rfl rfl (Do_move (v := .int .i64 x29) rfl) ?_
  obtain ⟨x34, e35, hF⟩ := letO_some hF
  refine RL_do rfl rfl (Do_as (Do_neq (a := x29) (b := 0) rfl rfl) (congrArg Value.bool e35)) ?_
  refine (RL_nil (thenQ_n (hK33 _ _ ?_)))
  refine WP_ifb (b := x34) rfl (fun c36 => ?_) (fun c36 => ?_)
  · have hF := iteB_t c36 hF
    refine WP_seq_k fun K37 hK37 => ?_
    refine WP_region ?_
    refine RL_do rfl rfl (Do_build (cs := [.int .i64 0, .int .i64 0]) bz31) ?_
    refine RL_do rfl rfl (Do_move (v := .int .i64 x29) rfl) ?_
    refine RL_exU rfl (Lx_storeN (vs := [.int .i64 0, .int .i64 0]) H 4 rfl sz31 rfl rfl rfl ⟨rfl, rfl, trivial⟩ rfl) ?_
    rintro w38 H
    refine RL_do rfl rfl (Do_assign (v := .int .i64 x29) rfl) ?_
    refine (RL_nil (thenQ_n (hK37 _ _ ?_)))
    have hR := Option.some.inj hF
    subst hR
    refine (WP_ret (thenQ_r (postc1 (v1 := .int .i64 x29) rfl rfl (run_loadVar_agg agg31 sz31 rfl (Blk.cells (H.item (i := 4) rfl))) rfl ?_)))
    exact ⟨rfl, H.pick [] (by decide)⟩
  · have hF := iteB_f c36 hF
    refine (WP_skip (thenQ_n (hK26 _ _ ?_)))
    refine WP_seq_k fun K39 hK39 => ?_
    refine WP_region ?_
    refine RL_do rfl rfl (Do_move (v := v1) rfl) ?_
    refine RL_do rfl rfl (Do_as (Do_loads (cs := [.bool p1.Tails, .int .i64 p1.Days, v3, v4, .int .i64 p1.Least]) agg26 rfl sz26 rfl (Blk.cells (H.item (i := 3) rfl))) rfl) ?_
    refine RL_do rfl rfl (Do_move (v := .string (bs p2)) rfl) ?_
    obtain ⟨⟨x40, x41, x42, x43⟩, e44, hF⟩ := bindO_some hF
    refine RL_call rfl rfl (DoC_func en13 rfl) (F_ref9_peaks_w p0 p1 p2 v1 v3 v4 _ e44 _ _ _ (H.enter [] [0, 1, 2] (by decide) rfl)) ?_
    rintro _ w49 ⟨v45, v47, rfl, G50⟩
    have H := H.back1 [0, 1, 2] rfl G50
    refine ⟨_, rfl, ?_⟩
    refine RL_do rfl rfl (Do_move (v := .tuple #[v45, v47, .int .i64 x42, .int .i64 x43]) rfl) ?_
    refine RL_do rfl rfl (Do_extract (v := v45) rfl rfl) ?_
    refine RL_do rfl rfl (Do_extract (v := v47) rfl rfl) ?_
    refine RL_do rfl rfl (Do_extract (v := .int .i64 x42) rfl rfl) ?_
    refine RL_do rfl rfl (Do_extract (v := .int .i64 x43) rfl rfl) ?_
    refine RL_do rfl rfl (Do_assign (v := v45) rfl) ?_
    refine RL_do rfl rfl (Do_assign (v := v47) rfl) ?_
    refine RL_do rfl rfl (Do_assign (v := .int .i64 x42) rfl) ?_
    refine RL_do rfl rfl (Do_assign (v := .int .i64 x43) rfl) ?_
    refine (RL_nil (thenQ_n (hK39 _ _ ?_)))
    refine WP_seq_k fun K57 hK57 => ?_
    refine WP_seq_k fun K58 hK58 => ?_
    refine WP_region ?_
    refine RL_do rfl rfl (Do_move (v := .int .i64 x43) rfl) ?_
    obtain ⟨x59, e60, hF⟩ := letO_some hF
    refine RL_do rfl rfl (Do_as (Do_neq (a := x43) (b := 0) rfl rfl) (congrArg Value.bool e60)) ?_
    refine (RL_nil (thenQ_n (hK58 _ _ ?_)))
    refine WP_ifb (b := x59) rfl (fun c61 => ?_) (fun c61 => ?_)
    · have hF := iteB_t c61 hF
      refine WP_seq_k fun K62 hK62 => ?_
      refine WP_region ?_
      refine RL_do rfl rfl (Do_build (cs := [.int .i64 0, .int .i64 0]) bz31) ?_
      refine RL_do rfl rfl (Do_move (v := .int .i64 x43) rfl) ?_
      refine RL_exU rfl (Lx_storeN (vs := [.int .i64 0, .int .i64 0]) H 4 rfl sz31 rfl rfl rfl ⟨rfl, rfl, trivial⟩ rfl) ?_
      rintro w63 H
      refine RL_do rfl rfl (Do_assign (v := .int .i64 x43) rfl) ?_
      refine (RL_nil (thenQ_n (hK62 _ _ ?_)))
      have hR := Option.some.inj hF
      subst hR
      refine (WP_ret (thenQ_r (postc1 (v1 := .int .i64 x43) rfl rfl (run_loadVar_agg agg31 sz31 rfl (Blk.cells (H.item (i := 4) rfl))) rfl ?_)))
      exact ⟨rfl, H.pick [] (by decide)⟩
    · have hF := iteB_f c61 hF
      refine (WP_skip (thenQ_n (hK57 _ _ ?_)))
      refine WP_seq_k fun K64 hK64 => ?_
      refine WP_region ?_
      refine RL_do rfl rfl (Do_move (v := v45) rfl) ?_
      have H65 := H
      have H := H.freeze (i := 5) rfl
      obtain ⟨x66, e67, hF⟩ := bindO_some hF
      refine RL_call rfl rfl (DoC_func en20 rfl) (F_ref9_sum_w x40 v45 _ e67 _ _ _ (H.enter [] [5] (by decide) rfl)) ?_
      rintro _ w68 ⟨rfl, G69⟩
      have H := H65.step (G69.only : Only [] _ _)
      refine ⟨_, rfl, ?_⟩
      have H70 := H
      obtain ⟨x71, e72, hF⟩ := bindO_some hF
      refine RL_call rfl rfl (DoC_func en19 rfl) (F_ref9_times_w x66 1 _ e72 _ _ _ (H.enter [] [] (by decide) rfl)) ?_
      rintro _ w73 ⟨rfl, G74⟩
      have H := H70.step (G74.only : Only [] _ _)
      refine ⟨_, rfl, ?_⟩
      refine RL_do rfl rfl (Do_move (v := v45) rfl) ?_
      obtain ⟨x75, e76, hF⟩ := letO_some hF
      obtain ⟨a77, c78, q79⟩ := Sr.len (Sr.of_own (H.item (i := 5) rfl))
      refine RL_do rfl rfl (Do_as (Do_len u42 q79) (congrArg (Value.int .i64) e76)) ?_
      obtain ⟨x80, e81, hF⟩ := letO_some hF
      refine RL_do rfl rfl (Do_conv u3 u52 rfl e81) ?_
      have H82 := H
      obtain ⟨⟨x83, x84⟩, e85, hF⟩ := bindO_some hF
      refine RL_call rfl rfl (DoC_func en18 rfl) (F_ref9_told_w x71 x80 _ e85 _ _ _ (H.enter [] [] (by decide) rfl)) ?_
      rintro _ w86 ⟨rfl, G87⟩
      have H := H82.step (G87.only : Only [] _ _)
      refine ⟨_, rfl, ?_⟩
      refine RL_do rfl rfl (Do_extract (v := .agg [.int .i64 x83.Num, .int .i64 x83.Den].toArray) rfl rfl) ?_
      refine RL_do rfl rfl (Do_extract (v := .int .i64 x84) rfl rfl) ?_
      refine RL_exU rfl (Lx_storeN (vs := [.int .i64 x83.Num, .int .i64 x83.Den]) H 4 rfl sz31 rfl rfl rfl ⟨rfl, rfl, trivial⟩ rfl) ?_
      rintro w88 H
      refine RL_do rfl rfl (Do_assign (v := .int .i64 x84) rfl) ?_
      refine (RL_nil (thenQ_n (hK64 _ _ ?_)))
      have hR := Option.some.inj hF
      subst hR
      refine (WP_ret (postc1 (v1 := .int .i64 x84) rfl rfl (run_loadVar_agg agg31 sz31 rfl (Blk.cells (H.item (i := 4) rfl))) rfl ?_))
      exact ⟨rfl, H.pick [] (by decide)⟩
end Go.Proofs.YtbjhondbheijiaaGreat.L
namespace Go.Proofs.YtbjhondbheijiaaGreat.L
open Go.RowKit Go.OB Go.Lf
/- orangebox/fleet.CheckTable$1 -/
set_option maxHeartbeats 4000000 in
theorem F_fleet_CheckTable_1_w (p0 : FleetRow) (v1 : Value) (r : Bool) (hF : F_fleet_CheckTable_1 p0 = some r) (O S : List Nat) (w : World) (H : Hd O w w S [.fz (.sl (Rp.int .i64) v1 p0.Events)]) :
    Calls Tryz.prog 59 ([.agg [.string (bs p0.Key), .bool p0.Hidden, .int .i64 p0.Flights, v1].toArray] : List Value).toArray w fun e w' => e = .returned (.bool r) ∧ Hd O w w' S [] := by
  unfold F_fleet_CheckTable_1 at hF
  refine calls_of_WP 6 Tryz.func59 rfl rfl rfl ?_
  refine WP_seq_k fun K3 hK3 => ?_
  refine WP_region ?_
  refine RL_ex rfl rfl (Lx_box (cs := [.string (bs p0.Key), .bool p0.Hidden, .int .i64 p0.Flights, v1]) rfl H) ?_
  rintro _ w6 ⟨b4, rfl, H⟩
  refine RL_do rfl rfl (Do_assign (v := .bool false) rfl) ?_
  refine (RL_nil (thenQ_n (hK3 _ _ ?_)))
  refine WP_seq_k fun K7 hK7 => ?_
  refine WP_region ?_
  refine RL_do rfl rfl (fa57_1 rfl) ?_
  refine RL_do rfl rfl (Do_load one4 rfl (Cells.get (Blk.cells (H.item (i := 1) rfl)) (i := 1) rfl)) ?_
  obtain ⟨x8, e9, hF⟩ := letO_some hF
  refine RL_do rfl rfl (Do_as (Do_not (p := p0.Hidden) rfl) (congrArg Value.bool e9)) ?_
  refine RL_do rfl rfl (Do_assign (v := .bool x8) rfl) ?_
  refine (RL_nil (thenQ_n (hK7 _ _ ?_)))
  have hR := Option.some.inj hF
  subst hR
  refine (WP_ret (post1 (v1 := .bool x8) rfl rfl ?_))
  exact ⟨rfl, H.pick [] (by decide)⟩
end Go.Proofs.YtbjhondbheijiaaGreat.L
namespace Go.Proofs.YtbjhondbheijiaaGreat.L
open Go.RowKit Go.OB Go.Lf
/- slices.IndexFunc[[]orangebox/api.FleetRow,orangebox/api.FleetRow]@orangebox/fleet.CheckTable$1 -/
set_option maxHeartbeats 4000000 in
theorem F_slices_IndexFunc___api_FleetRow_api_FleetRow__fleet_CheckTable_1_w (p0 : List FleetRow) (v1 : Value) (r : Int) (hF : F_slices_IndexFunc___api_FleetRow_api_FleetRow__fleet_CheckTable_1 p0 = some r) (O S : List Nat) (w : World) (H : Hd O w w S [.fz (.sl rFleetRow v1 p0)]) :
    Calls Tryz.prog 58 ([v1, .func (.func 59) #[] #[]] : List Value).toArray w fun e w' => e = .returned (.int .i64 r) ∧ Hd O w w' S [] := by
  unfold F_slices_IndexFunc___api_FleetRow_api_FleetRow__fleet_CheckTable_1 at hF
  refine calls_of_WP 19 Tryz.func58 rfl rfl rfl ?_
  refine WP_seq_k fun K3 hK3 => ?_
  refine WP_region ?_
  refine RL_do rfl rfl (Do_assign (v := .int .i64 0) rfl) ?_
  refine (RL_nil (thenQ_n (hK3 _ _ ?_)))
  obtain ⟨k132, ek133, hF⟩ := joinO_some hF
  refine WP_seqS [4, 5, 6, 7, 8, 9, 10, 11, 12, 13, 14, 15, 16, 17, 18] (fun (g : Unit) => []) (fun g wl => Hd O w wl S [] ∧ k132 () = some r) ?_ ?_
  · skip
    refine WP_seq_k fun K134 hK134 => ?_
    refine WP_region ?_
    refine RL_do rfl rfl (Do_move (v := v1) rfl) ?_
    obtain ⟨x135, e136, hF⟩ := letO_some hF
    obtain ⟨a137, c138, q139⟩ := SlF.len ((H.item (i := 0) rfl))
    refine RL_do rfl rfl (Do_as (Do_len u60 q139) (congrArg (Value.int .i64) e136)) ?_
    refine RL_do rfl rfl (Do_move (v := .int .i64 0) rfl) ?_
    refine (RL_nil (thenQ_n (hK134 _ _ ?_)))
    refine WP_block ?_
    unfold F_slices_IndexFunc___api_FleetRow_api_FleetRow__fleet_CheckTable_1_L1 at hF
    obtain ⟨B256, n257, eB258, hF⟩ := loopO_some hF
    refine WP_loopS [4, 5, 8, 9, 10, 11, 12, 13, 14, 15, 16, 17, 18] (fun (g : Nat × Int) => [(8, .int .i64 g.2)]) (fun g wl => Hd O w wl S [.fz (.sl rFleetRow v1 p0)] ∧ loopN B256 g.1 g.2 = some r) (fun g => g.1) (n257, 0) (Sl_cons rfl Sl_nil) ⟨H.pick [0] (by decide), hF⟩ ?_
    clear H hF
    rintro ⟨n257, g255⟩ ρ w260 ⟨H, hF⟩
    obtain ⟨n261, rfl, hF⟩ := loopN_pos hF
    have hF := loop_body eB258 hF
    refine WP_seq_k fun K262 hK262 => ?_
    refine WP_region ?_
    obtain ⟨x263, e264, hF⟩ := letO_some hF
    refine RL_do rfl rfl (Do_as (Do_lss (a := g255) (b := x135) rfl rfl) (congrArg Value.bool e264)) ?_
    refine (RL_nil (thenQ_n (hK262 _ _ ?_)))
    refine WP_seq_k fun K266 hK266 => ?_
    refine WP_ifb (b := x263) rfl (fun c267 => ?_) (fun c267 => ?_)
    · have hF := iteB_t c267 hF
      refine (WP_skip (thenQ_n (hK266 _ _ ?_)))
      refine WP_seq_k fun K292 hK292 => ?_
      refine WP_block ?_
      refine WP_seq_k fun K293 hK293 => ?_
      refine WP_region ?_
      refine RL_do rfl rfl (Do_move (v := .int .i64 g255) rfl) ?_
      refine RL_do rfl rfl (Do_assign (v := .int .i64 g255) rfl) ?_
      refine (RL_nil (thenQ_n (hK293 _ _ ?_)))
      refine WP_seq_k fun K294 hK294 => ?_
      refine WP_region ?_
      refine RL_do rfl rfl (Do_move (v := .func (.func 59) #[] #[]) rfl) ?_
      refine RL_do rfl rfl (Do_move (v := v1) rfl) ?_
      refine RL_do rfl rfl (Do_move (v := .int .i64 g255) rfl) ?_
      obtain ⟨x295, e296, hF⟩ := bindO_some hF
      obtain ⟨b297, o298, c299, cs300, q301, h304, h302, h303, h305⟩ := rd_at (H.item (i := 0) rfl) e296
      obtain ⟨v306, rfl, h307⟩ := rFleetRow_open h304
      have H := H.fzs [.at b297 (o298 + g255.toNat * 4) _, .sl (Rp.int .i64) v306 x295.Events] ⟨⟨h302, h303, h305⟩, h307, trivial⟩
      refine RL_do rfl rfl (Do_idx u60 sz57 q301 rfl (at_some e296).1 (at_some e296).2.1 rfl rfl) ?_
      refine RL_do rfl rfl (Do_as (Do_loads (cs := [.string (bs x295.Key), .bool x295.Hidden, .int .i64 x295.Flights, v306]) agg57 rfl sz57 rfl (H.item (i := 1) rfl).2.2) rfl) ?_
      have H310 := H
      obtain ⟨x311, e312, hF⟩ := bindO_some hF
      refine RL_call rfl rfl (DoC_clo en59 rfl rfl) (F_fleet_CheckTable_1_w x295 v306 _ e312 _ _ _ (H.enter [] [2] (by decide) rfl)) ?_
      rintro _ w313 ⟨rfl, G314⟩
      have H := H310.step (G314.only : Only [] _ _)
      refine ⟨_, rfl, ?_⟩
      refine (RL_nil (thenQ_n (hK294 _ _ ?_)))
      refine WP_ifb (b := x311) rfl (fun c315 => ?_) (fun c315 => ?_)
      · have hF := iteB_t c315 hF
        refine WP_seq_k fun K316 hK316 => ?_
        refine WP_region ?_
        refine RL_do rfl rfl (Do_move (v := .int .i64 g255) rfl) ?_
        refine RL_do rfl rfl (Do_assign (v := .int .i64 g255) rfl) ?_
        refine (RL_nil (thenQ_n (hK316 _ _ ?_)))
        have hR := Option.some.inj hF
        subst hR
        refine (WP_ret (blockQ_r (thenQ_r (thenQ_r (blockQ_r (thenQ_r (post1 (v1 := .int .i64 g255) rfl rfl ?_)))))))
        exact ⟨rfl, H.pick [] (by decide)⟩
      · have hF := iteB_f c315 hF
        refine (WP_skip (blockQ_n (thenQ_n (hK292 _ _ ?_))))
        refine WP_region ?_
        obtain ⟨x317, e318, hF⟩ := letO_some hF
        refine RL_do rfl rfl (Do_add (a := g255) (b := 1) rfl rfl e318) ?_
        refine RL_do rfl rfl (Do_move (v := .int .i64 x317) rfl) ?_
        refine (RL_nil (thenQ_n (And.intro ?_ ?_)))
        · repeat' (first | with_reducible exact Fr_refl | refine Fr_upd rfl ?_ | refine Fr_over rfl rfl ?_)
        · exact ⟨(n261, x317), (Sl_cons rfl Sl_nil), ⟨H.pick [0] (by decide), hF⟩, Nat.lt_succ_self _⟩
    · have hF := iteB_f c267 hF
      refine (WP_exit (thenQ_x (thenQ_x (blockQ_eq (thenQ_n (And.intro ?_ ?_))))))
      · repeat' (first | with_reducible exact Fr_refl | refine Fr_upd rfl ?_ | refine Fr_over rfl rfl ?_)
      · exact ⟨(), Sl_nil, ⟨H.pick [] (by decide), hF⟩⟩
  · rintro _ ρ w131 ⟨H, hF⟩
    have hF := join_body ek133 hF
    refine WP_seq_k fun K319 hK319 => ?_
    refine WP_region ?_
    refine RL_do rfl rfl (Do_assign (v := .int .i64 (-1)) rfl) ?_
    refine (RL_nil (thenQ_n (hK319 _ _ ?_)))
    have hR := Option.some.inj hF
    subst hR
    refine (WP_ret (post1 (v1 := .int .i64 (-1)) rfl rfl ?_))
    exact ⟨rfl, H.pick [] (by decide)⟩
end Go.Proofs.YtbjhondbheijiaaGreat.L
namespace Go.Proofs.YtbjhondbheijiaaGreat.L
open Go.RowKit Go.OB Go.Lf
/- orangebox/fleet.CheckTable$3 -/
set_option maxHeartbeats 4000000 in
theorem F_fleet_CheckTable_3_w (p0 : FleetRow) (c0 : FleetRow) (v1 : Value) (b3 : Nat) (v4 : Value) (r : Bool) (hF : F_fleet_CheckTable_3 p0 c0 = some r) (O S : List Nat) (w : World) (H : Hd O w w S [.blk b3 [.string (bs c0.Key), .bool c0.Hidden, .int .i64 c0.Flights, v4] 57, .fz (.sl (Rp.int .i64) v1 p0.Events), .fz (.sl (Rp.int .i64) v4 c0.Events)]) :
    Calls Tryz.prog 62 ([.agg [.string (bs p0.Key), .bool p0.Hidden, .int .i64 p0.Flights, v1].toArray, .pointer (some ⟨b3, 0, none⟩)] : List Value).toArray w fun e w' => e = .returned (.bool r) ∧ Hd O w w' S [.blk b3 [.string (bs c0.Key), .bool c0.Hidden, .int .i64 c0.Flights, v4] 57] := by
  unfold F_fleet_CheckTable_3 at hF
  refine calls_of_WP 9 Tryz.func62 rfl rfl rfl ?_
  refine WP_seq_k fun K7 hK7 => ?_
  refine WP_region ?_
  refine RL_ex rfl rfl (Lx_box (cs := [.string (bs p0.Key), .bool p0.Hidden, .int .i64 p0.Flights, v1]) rfl H) ?_
  rintro _ w10 ⟨b8, rfl, H⟩
  refine RL_do rfl rfl (Do_assign (v := .bool false) rfl) ?_
  refine (RL_nil (thenQ_n (hK7 _ _ ?_)))
  refine WP_seq_k fun K11 hK11 => ?_
  refine WP_region ?_
  refine RL_do rfl rfl (fa57_0 rfl) ?_
  refine RL_do rfl rfl (Do_load one9 rfl (Cells.get (Blk.cells (H.item (i := 3) rfl)) (i := 0) rfl)) ?_
  refine RL_do rfl rfl (fa57_0 rfl) ?_
  refine RL_do rfl rfl (Do_load one9 rfl (Cells.get (Blk.cells (H.item (i := 0) rfl)) (i := 0) rfl)) ?_
  obtain ⟨x12, e13, hF⟩ := letO_some hF
  refine RL_do rfl rfl (Do_as (Do_eqls (s1 := p0.Key) (s2 := c0.Key) rfl rfl) (congrArg Value.bool e13)) ?_
  refine RL_do rfl rfl (Do_assign (v := .bool x12) rfl) ?_
  refine (RL_nil (thenQ_n (hK11 _ _ ?_)))
  have hR := Option.some.inj hF
  subst hR
  refine (WP_ret (post1 (v1 := .bool x12) rfl rfl ?_))
  exact ⟨rfl, H.pick [0] (by decide)⟩
end Go.Proofs.YtbjhondbheijiaaGreat.L
namespace Go.Proofs.YtbjhondbheijiaaGreat.L
open Go.RowKit Go.OB Go.Lf
/- slices.IndexFunc[[]orangebox/api.FleetRow,orangebox/api.FleetRow]@orangebox/fleet.CheckTable$3 -/
set_option maxHeartbeats 4000000 in
theorem F_slices_IndexFunc___api_FleetRow_api_FleetRow__fleet_CheckTable_3_w (p0 : List FleetRow) (p1c0 : FleetRow) (v1 : Value) (b3 : Nat) (v4 : Value) (r : Int) (hF : F_slices_IndexFunc___api_FleetRow_api_FleetRow__fleet_CheckTable_3 p0 p1c0 = some r) (O S : List Nat) (w : World) (H : Hd O w w S [.blk b3 [.string (bs p1c0.Key), .bool p1c0.Hidden, .int .i64 p1c0.Flights, v4] 57, .fz (.sl rFleetRow v1 p0), .fz (.sl (Rp.int .i64) v4 p1c0.Events)]) :
    Calls Tryz.prog 58 ([v1, .func (.func 62) #[] [.pointer (some ⟨b3, 0, none⟩)].toArray] : List Value).toArray w fun e w' => e = .returned (.int .i64 r) ∧ Hd O w w' S [.blk b3 [.string (bs p1c0.Key), .bool p1c0.Hidden, .int .i64 p1c0.Flights, v4] 57] := by
  unfold F_slices_IndexFunc___api_FleetRow_api_FleetRow__fleet_CheckTable_3 at hF
  refine calls_of_WP 19 Tryz.func58 rfl rfl rfl ?_
  refine WP_seq_k fun K7 hK7 => ?_
  refine WP_region ?_
  refine RL_do rfl rfl (Do_assign (v := .int .i64 0) rfl) ?_
  refine (RL_nil (thenQ_n (hK7 _ _ ?_)))
  obtain ⟨k132, ek133, hF⟩ := joinO_some hF
  refine WP_seqS [4, 5, 6, 7, 8, 9, 10, 11, 12, 13, 14, 15, 16, 17, 18] (fun (g : Unit) => []) (fun g wl => Hd O w wl S [.blk b3 [.string (bs p1c0.Key), .bool p1c0.Hidden, .int .i64 p1c0.Flights, v4] 57, .fz (.sl (Rp.int .i64) v4 p1c0.Events)] ∧ k132 () = some r) ?_ ?_
  · skip
    refine WP_seq_k fun K134 hK134 => ?_
    refine WP_region ?_
    refine RL_do rfl rfl (Do_move (v := v1) rfl) ?_
    obtain ⟨x135, e136, hF⟩ := letO_some hF
    obtain ⟨a137, c138, q139⟩ := SlF.len ((H.item (i := 1) rfl))
    refine RL_do rfl rfl (Do_as (Do_len u60 q139) (congrArg (Value.int .i64) e136)) ?_
    refine RL_do rfl rfl (Do_move (v := .int .i64 0) rfl) ?_
    refine (RL_nil (thenQ_n (hK134 _ _ ?_)))
    refine WP_block ?_
    unfold F_slices_IndexFunc___api_FleetRow_api_FleetRow__fleet_CheckTable_3_L1 at hF
    obtain ⟨B252, n253, eB254, hF⟩ := loopO_some hF
    refine WP_loopS [4, 5, 8, 9, 10, 11, 12, 13, 14, 15, 16, 17, 18] (fun (g : Nat × Int) => [(8, .int .i64 g.2)]) (fun g wl => Hd O w wl S [.blk b3 [.string (bs p1c0.Key), .bool p1c0.Hidden, .int .i64 p1c0.Flights, v4] 57, .fz (.sl (Rp.int .i64) v4 p1c0.Events), .fz (.sl rFleetRow v1 p0)] ∧ loopN B252 g.1 g.2 = some r) (fun g => g.1) (n253, 0) (Sl_cons rfl Sl_nil) ⟨H.pick [0, 2, 1] (by decide), hF⟩ ?_
    clear H hF
    rintro ⟨n253, g251⟩ ρ w256 ⟨H, hF⟩
    obtain ⟨n257, rfl, hF⟩ := loopN_pos hF
    have hF := loop_body eB254 hF
    refine WP_seq_k fun K258 hK258 => ?_
    refine WP_region ?_
    obtain ⟨x259, e260, hF⟩ := letO_some hF
    refine RL_do rfl rfl (Do_as (Do_lss (a := g251) (b := x135) rfl rfl) (congrArg Value.bool e260)) ?_
    refine (RL_nil (thenQ_n (hK258 _ _ ?_)))
    refine WP_seq_k fun K262 hK262 => ?_
    refine WP_ifb (b := x259) rfl (fun c263 => ?_) (fun c263 => ?_)
    · have hF := iteB_t c263 hF
      refine (WP_skip (thenQ_n (hK262 _ _ ?_)))
      refine WP_seq_k fun K287 hK287 => ?_
      refine WP_block ?_
      refine WP_seq_k fun K288 hK288 => ?_
      refine WP_region ?_
      refine RL_do rfl rfl (Do_move (v := .int .i64 g251) rfl) ?_
      refine RL_do rfl rfl (Do_assign (v := .int .i64 g251) rfl) ?_
      refine (RL_nil (thenQ_n (hK288 _ _ ?_)))
      refine WP_seq_k fun K289 hK289 => ?_
      refine WP_region ?_
      refine RL_do rfl rfl (Do_move (v := .func (.func 62) #[] [.pointer (some ⟨b3, 0, none⟩)].toArray) rfl) ?_
      refine RL_do rfl rfl (Do_move (v := v1) rfl) ?_
      refine RL_do rfl rfl (Do_move (v := .int .i64 g251) rfl) ?_
      obtain ⟨x290, e291, hF⟩ := bindO_some hF
      obtain ⟨b292, o293, c294, cs295, q296, h299, h297, h298, h300⟩ := rd_at (H.item (i := 2) rfl) e291
      obtain ⟨v301, rfl, h302⟩ := rFleetRow_open h299
      have H := H.fzs [.at b292 (o293 + g251.toNat * 4) _, .sl (Rp.int .i64) v301 x290.Events] ⟨⟨h297, h298, h300⟩, h302, trivial⟩
      refine RL_do rfl rfl (Do_idx u60 sz57 q296 rfl (at_some e291).1 (at_some e291).2.1 rfl rfl) ?_
      refine RL_do rfl rfl (Do_as (Do_loads (cs := [.string (bs x290.Key), .bool x290.Hidden, .int .i64 x290.Flights, v301]) agg57 rfl sz57 rfl (H.item (i := 3) rfl).2.2) rfl) ?_
      obtain ⟨x305, e306, hF⟩ := bindO_some hF
      refine RL_call rfl rfl (DoC_clo en62 rfl rfl) (F_fleet_CheckTable_3_w x290 p1c0 v301 b3 v4 _ e306 _ _ _ (H.enter [0] [4, 1] (by decide) rfl)) ?_
      rintro _ w307 ⟨rfl, G308⟩
      have H : Hd O _ w307 _ [.fz (.sl (Rp.int .i64) v4 p1c0.Events), .fz (.sl rFleetRow v1 p0), .fz (.at b292 (o293 + g251.toNat * 4) [.string (bs x290.Key), .bool x290.Hidden, .int .i64 x290.Flights, v301]), .fz (.sl (Rp.int .i64) v301 x290.Events), .blk b3 [.string (bs p1c0.Key), .bool p1c0.Hidden, .int .i64 p1c0.Flights, v4] 57] := H.back [0] [4, 1] rfl G308
      refine ⟨_, rfl, ?_⟩
      refine (RL_nil (thenQ_n (hK289 _ _ ?_)))
      refine WP_ifb (b := x305) rfl (fun c309 => ?_) (fun c309 => ?_)
      · have hF := iteB_t c309 hF
        refine WP_seq_k fun K310 hK310 => ?_
        refine WP_region ?_
        refine RL_do rfl rfl (Do_move (v := .int .i64 g251) rfl) ?_
        refine RL_do rfl rfl (Do_assign (v := .int .i64 g251) rfl) ?_
        refine (RL_nil (thenQ_n (hK310 _ _ ?_)))
        have hR := Option.some.inj hF
        subst hR
        refine (WP_ret (blockQ_r (thenQ_r (thenQ_r (blockQ_r (thenQ_r (post1 (v1 := .int .i64 g251) rfl rfl ?_)))))))
        exact ⟨rfl, H.pick [4] (by decide)⟩
      · have hF := iteB_f c309 hF
        refine (WP_skip (blockQ_n (thenQ_n (hK287 _ _ ?_))))
        refine WP_region ?_
        obtain ⟨x311, e312, hF⟩ := letO_some hF
        refine RL_do rfl rfl (Do_add (a := g251) (b := 1) rfl rfl e312) ?_
        refine RL_do rfl rfl (Do_move (v := .int .i64 x311) rfl) ?_
        refine (RL_nil (thenQ_n (And.intro ?_ ?_)))
        · repeat' (first | with_reducible exact Fr_refl | refine Fr_upd rfl ?_ | refine Fr_over rfl rfl ?_)
        · exact ⟨(n257, x311), (Sl_cons rfl Sl_nil), ⟨H.pick [4, 0, 1] (by decide), hF⟩, Nat.lt_succ_self _⟩
    · have hF := iteB_f c263 hF
      refine (WP_exit (thenQ_x (thenQ_x (blockQ_eq (thenQ_n (And.intro ?_ ?_))))))
      · repeat' (first | with_reducible exact Fr_refl | refine Fr_upd rfl ?_ | refine Fr_over rfl rfl ?_)
      · exact ⟨(), Sl_nil, ⟨H.pick [0, 1] (by decide), hF⟩⟩
  · rintro _ ρ w131 ⟨H, hF⟩
    have hF := join_body ek133 hF
    refine WP_seq_k fun K313 hK313 => ?_
    refine WP_region ?_
    refine RL_do rfl rfl (Do_assign (v := .int .i64 (-1)) rfl) ?_
    refine (RL_nil (thenQ_n (hK313 _ _ ?_)))
    have hR := Option.some.inj hF
    subst hR
    refine (WP_ret (post1 (v1 := .int .i64 (-1)) rfl rfl ?_))
    exact ⟨rfl, H.pick [0] (by decide)⟩
end Go.Proofs.YtbjhondbheijiaaGreat.L
namespace Go.Proofs.YtbjhondbheijiaaGreat.L
open Go.RowKit Go.OB Go.Lf
/- slices.ContainsFunc[[]orangebox/api.FleetRow,orangebox/api.FleetRow]@orangebox/fleet.CheckTable$3 -/
set_option maxHeartbeats 4000000 in
theorem F_slices_ContainsFunc___api_FleetRow_api_FleetRow__fleet_CheckTable_3_w (p0 : List FleetRow) (p1c0 : FleetRow) (v1 : Value) (b3 : Nat) (v4 : Value) (r : Bool) (hF : F_slices_ContainsFunc___api_FleetRow_api_FleetRow__fleet_CheckTable_3 p0 p1c0 = some r) (O S : List Nat) (w : World) (H : Hd O w w S [.blk b3 [.string (bs p1c0.Key), .bool p1c0.Hidden, .int .i64 p1c0.Flights, v4] 57, .fz (.sl rFleetRow v1 p0), .fz (.sl (Rp.int .i64) v4 p1c0.Events)]) :
    Calls Tryz.prog 61 ([v1, .func (.func 62) #[] [.pointer (some ⟨b3, 0, none⟩)].toArray] : List Value).toArray w fun e w' => e = .returned (.bool r) ∧ Hd O w w' S [.blk b3 [.string (bs p1c0.Key), .bool p1c0.Hidden, .int .i64 p1c0.Flights, v4] 57] := by
  unfold F_slices_ContainsFunc___api_FleetRow_api_FleetRow__fleet_CheckTable_3 at hF
  refine calls_of_WP 9 Tryz.func61 rfl rfl rfl ?_
  refine WP_seq_k fun K7 hK7 => ?_
  refine WP_region ?_
  refine RL_do rfl rfl (Do_assign (v := .bool false) rfl) ?_
  refine (RL_nil (thenQ_n (hK7 _ _ ?_)))
  refine WP_seq_k fun K8 hK8 => ?_
  refine WP_region ?_
  refine RL_do rfl rfl (Do_move (v := v1) rfl) ?_
  refine RL_do rfl rfl (Do_move (v := .func (.func 62) #[] [.pointer (some ⟨b3, 0, none⟩)].toArray) rfl) ?_
  obtain ⟨x9, e10, hF⟩ := bindO_some hF
  refine RL_call rfl rfl (DoC_func en58 rfl) (F_slices_IndexFunc___api_FleetRow_api_FleetRow__fleet_CheckTable_3_w p0 p1c0 v1 b3 v4 _ e10 _ _ _ (H.enter [0] [1, 2] (by decide) rfl)) ?_
  rintro _ w11 ⟨rfl, G12⟩
  have H : Hd O _ w11 _ [.fz (.sl rFleetRow v1 p0), .fz (.sl (Rp.int .i64) v4 p1c0.Events), .blk b3 [.string (bs p1c0.Key), .bool p1c0.Hidden, .int .i64 p1c0.Flights, v4] 57] := H.back [0] [1, 2] rfl G12
  refine ⟨_, rfl, ?_⟩
  obtain ⟨x13, e14, hF⟩ := letO_some hF
  refine RL_do rfl rfl (Do_as (Do_geq (a := x9) (b := 0) rfl rfl) (congrArg Value.bool e14)) ?_
  refine RL_do rfl rfl (Do_assign (v := .bool x13) rfl) ?_
  refine (RL_nil (thenQ_n (hK8 _ _ ?_)))
  have hR := Option.some.inj hF
  subst hR
  refine (WP_ret (post1 (v1 := .bool x13) rfl rfl ?_))
  exact ⟨rfl, H.pick [2] (by decide)⟩
end Go.Proofs.YtbjhondbheijiaaGreat.L
namespace Go.Proofs.YtbjhondbheijiaaGreat.L
open Go.RowKit Go.OB Go.Lf
/- orangebox/fleet.CheckTable$2 -/
set_option maxHeartbeats 4000000 in
theorem F_fleet_CheckTable_2_w (p0 : Int) (r : Bool) (hF : F_fleet_CheckTable_2 p0 = some r) (O S : List Nat) (w : World) (H : Hd O w w S []) :
    Calls Tryz.prog 60 ([.int .i64 p0] : List Value).toArray w fun e w' => e = .returned (.bool r) ∧ Hd O w w' S [] := by
  unfold F_fleet_CheckTable_2 at hF
  refine calls_of_WP 6 Tryz.func60 rfl rfl rfl ?_
  refine WP_seq_k fun K1 hK1 => ?_
  refine WP_region ?_
  refine RL_do rfl rfl (Do_assign (v := .bool false) rfl) ?_
  refine (RL_nil (thenQ_n (hK1 _ _ ?_)))
  refine WP_seq_k fun K2 hK2 => ?_
  refine WP_region ?_
  refine RL_do rfl rfl (Do_move (v := .int .i64 p0) rfl) ?_
  have H3 := H
  obtain ⟨x4, e5, hF⟩ := bindO_some hF
  refine RL_call rfl rfl (DoC_func en10 rfl) (F_fleet_within_w p0 0 1000000000 _ e5 _ _ _ (H.enter [] [] (by decide) rfl)) ?_
  rintro _ w6 ⟨rfl, G7⟩
  have H := H3.step (G7.only : Only [] _ _)
  refine ⟨_, rfl, ?_⟩
  obtain ⟨x8, e9, hF⟩ := letO_some hF
  refine RL_do rfl rfl (Do_as (Do_not (p := x4) rfl) (congrArg Value.bool e9)) ?_
  refine RL_do rfl rfl (Do_assign (v := .bool x8) rfl) ?_
  refine (RL_nil (thenQ_n (hK2 _ _ ?_)))
  have hR := Option.some.inj hF
  subst hR
  refine (WP_ret (post1 (v1 := .bool x8) rfl rfl ?_))
  exact ⟨rfl, H.pick [] (by decide)⟩
end Go.Proofs.YtbjhondbheijiaaGreat.L
namespace Go.Proofs.YtbjhondbheijiaaGreat.L
open Go.RowKit Go.OB Go.Lf
/- slices.IndexFunc[[]int,int]@orangebox/fleet.CheckTable$2 -/
set_option maxHeartbeats 4000000 in
theorem F_slices_IndexFunc___int_int__fleet_CheckTable_2_w (p0 : List Int) (v1 : Value) (r : Int) (hF : F_slices_IndexFunc___int_int__fleet_CheckTable_2 p0 = some r) (O S : List Nat) (w : World) (H : Hd O w w S [.fz (.sl (Rp.int .i64) v1 p0)]) :
    Calls Tryz.prog 84 ([v1, .func (.func 60) #[] #[]] : List Value).toArray w fun e w' => e = .returned (.int .i64 r) ∧ Hd O w w' S [] := by
  unfold F_slices_IndexFunc___int_int__fleet_CheckTable_2 at hF
  refine calls_of_WP 19 Tryz.func84 rfl rfl rfl ?_
  refine WP_seq_k fun K3 hK3 => ?_
  refine WP_region ?_
  refine RL_do rfl rfl (Do_assign (v := .int .i64 0) rfl) ?_
  refine (RL_nil (thenQ_n (hK3 _ _ ?_)))
  obtain ⟨k120, ek121, hF⟩ := joinO_some hF
  refine WP_seqS [4, 5, 6, 7, 8, 9, 10, 11, 12, 13, 14, 15, 16, 17, 18] (fun (g : Unit) => []) (fun g wl => Hd O w wl S [] ∧ k120 () = some r) ?_ ?_
  · skip
    refine WP_seq_k fun K122 hK122 => ?_
    refine WP_region ?_
    refine RL_do rfl rfl (Do_move (v := v1) rfl) ?_
    obtain ⟨x123, e124, hF⟩ := letO_some hF
    obtain ⟨a125, c126, q127⟩ := SlF.len ((H.item (i := 0) rfl))
    refine RL_do rfl rfl (Do_as (Do_len u42 q127) (congrArg (Value.int .i64) e124)) ?_
    refine RL_do rfl rfl (Do_move (v := .int .i64 0) rfl) ?_
    refine (RL_nil (thenQ_n (hK122 _ _ ?_)))
    refine WP_block ?_
    unfold F_slices_IndexFunc___int_int__fleet_CheckTable_2_L1 at hF
    obtain ⟨B232, n233, eB234, hF⟩ := loopO_some hF
    refine WP_loopS [4, 5, 8, 9, 10, 11, 12, 13, 14, 15, 16, 17, 18] (fun (g : Nat × Int) => [(8, .int .i64 g.2)]) (fun g wl => Hd O w wl S [.fz (.sl (Rp.int .i64) v1 p0)] ∧ loopN B232 g.1 g.2 = some r) (fun g => g.1) (n233, 0) (Sl_cons rfl Sl_nil) ⟨H.pick [0] (by decide), hF⟩ ?_
    clear H hF
    rintro ⟨n233, g231⟩ ρ w236 ⟨H, hF⟩
    obtain ⟨n237, rfl, hF⟩ := loopN_pos hF
    have hF := loop_body eB234 hF
    refine WP_seq_k fun K238 hK238 => ?_
    refine WP_region ?_
    obtain ⟨x239, e240, hF⟩ := letO_some hF
    refine RL_do rfl rfl (Do_as (Do_lss (a := g231) (b := x123) rfl rfl) (congrArg Value.bool e240)) ?_
    refine (RL_nil (thenQ_n (hK238 _ _ ?_)))
    refine WP_seq_k fun K242 hK242 => ?_
    refine WP_ifb (b := x239) rfl (fun c243 => ?_) (fun c243 => ?_)
    · have hF := iteB_t c243 hF
      refine (WP_skip (thenQ_n (hK242 _ _ ?_)))
      refine WP_seq_k fun K265 hK265 => ?_
      refine WP_block ?_
      refine WP_seq_k fun K266 hK266 => ?_
      refine WP_region ?_
      refine RL_do rfl rfl (Do_move (v := .int .i64 g231) rfl) ?_
      refine RL_do rfl rfl (Do_assign (v := .int .i64 g231) rfl) ?_
      refine (RL_nil (thenQ_n (hK266 _ _ ?_)))
      refine WP_seq_k fun K267 hK267 => ?_
      refine WP_region ?_
      refine RL_do rfl rfl (Do_move (v := .func (.func 60) #[] #[]) rfl) ?_
      refine RL_do rfl rfl (Do_move (v := v1) rfl) ?_
      refine RL_do rfl rfl (Do_move (v := .int .i64 g231) rfl) ?_
      obtain ⟨x268, e269, hF⟩ := bindO_some hF
      obtain ⟨b270, o271, c272, cs273, q274, h277, h275, h276, h278⟩ := rd_at (H.item (i := 0) rfl) e269
      obtain rfl : cs273 = [.int .i64 x268] := h277
      have H := H.fz (.at b270 (o271 + g231.toNat * 1) _) ⟨h275, h276, h278⟩
      refine RL_do rfl rfl (Do_idx u42 sz3 q274 rfl (at_some e269).1 (at_some e269).2.1 rfl rfl) ?_
      refine RL_do rfl rfl (Do_load one3 rfl (Cells.get (H.item (i := 1) rfl).2.2 (i := 0) rfl)) ?_
      have H280 := H
      obtain ⟨x281, e282, hF⟩ := bindO_some hF
      refine RL_call rfl rfl (DoC_clo en60 rfl rfl) (F_fleet_CheckTable_2_w x268 _ e282 _ _ _ (H.enter [] [] (by decide) rfl)) ?_
      rintro _ w283 ⟨rfl, G284⟩
      have H := H280.step (G284.only : Only [] _ _)
      refine ⟨_, rfl, ?_⟩
      refine (RL_nil (thenQ_n (hK267 _ _ ?_)))
      refine WP_ifb (b := x281) rfl (fun c285 => ?_) (fun c285 => ?_)
      · have hF := iteB_t c285 hF
        refine WP_seq_k fun K286 hK286 => ?_
        refine WP_region ?_
        refine RL_do rfl rfl (Do_move (v := .int .i64 g231) rfl) ?_
        refine RL_do rfl rfl (Do_assign (v := .int .i64 g231) rfl) ?_
        refine (RL_nil (thenQ_n (hK286 _ _ ?_)))
        have hR := Option.some.inj hF
        subst hR
        refine (WP_ret (blockQ_r (thenQ_r (thenQ_r (blockQ_r (thenQ_r (post1 (v1 := .int .i64 g231) rfl rfl ?_)))))))
        exact ⟨rfl, H.pick [] (by decide)⟩
      · have hF := iteB_f c285 hF
        refine (WP_skip (blockQ_n (thenQ_n (hK265 _ _ ?_))))
        refine WP_region ?_
        obtain ⟨x287, e288, hF⟩ := letO_some hF
        refine RL_do rfl rfl (Do_add (a := g231) (b := 1) rfl rfl e288) ?_
        refine RL_do rfl rfl (Do_move (v := .int .i64 x287) rfl) ?_
        refine (RL_nil (thenQ_n (And.intro ?_ ?_)))
        · repeat' (first | with_reducible exact Fr_refl | refine Fr_upd rfl ?_ | refine Fr_over rfl rfl ?_)
        · exact ⟨(n237, x287), (Sl_cons rfl Sl_nil), ⟨H.pick [0] (by decide), hF⟩, Nat.lt_succ_self _⟩
    · have hF := iteB_f c243 hF
      refine (WP_exit (thenQ_x (thenQ_x (blockQ_eq (thenQ_n (And.intro ?_ ?_))))))
      · repeat' (first | with_reducible exact Fr_refl | refine Fr_upd rfl ?_ | refine Fr_over rfl rfl ?_)
      · exact ⟨(), Sl_nil, ⟨H.pick [] (by decide), hF⟩⟩
  · rintro _ ρ w119 ⟨H, hF⟩
    have hF := join_body ek121 hF
    refine WP_seq_k fun K289 hK289 => ?_
    refine WP_region ?_
    refine RL_do rfl rfl (Do_assign (v := .int .i64 (-1)) rfl) ?_
    refine (RL_nil (thenQ_n (hK289 _ _ ?_)))
    have hR := Option.some.inj hF
    subst hR
    refine (WP_ret (post1 (v1 := .int .i64 (-1)) rfl rfl ?_))
    exact ⟨rfl, H.pick [] (by decide)⟩
end Go.Proofs.YtbjhondbheijiaaGreat.L
namespace Go.Proofs.YtbjhondbheijiaaGreat.L
open Go.RowKit Go.OB Go.Lf
/- slices.ContainsFunc[[]int,int]@orangebox/fleet.CheckTable$2 -/
set_option maxHeartbeats 4000000 in
theorem F_slices_ContainsFunc___int_int__fleet_CheckTable_2_w (p0 : List Int) (v1 : Value) (r : Bool) (hF : F_slices_ContainsFunc___int_int__fleet_CheckTable_2 p0 = some r) (O S : List Nat) (w : World) (H : Hd O w w S [.fz (.sl (Rp.int .i64) v1 p0)]) :
    Calls Tryz.prog 63 ([v1, .func (.func 60) #[] #[]] : List Value).toArray w fun e w' => e = .returned (.bool r) ∧ Hd O w w' S [] := by
  unfold F_slices_ContainsFunc___int_int__fleet_CheckTable_2 at hF
  refine calls_of_WP 9 Tryz.func63 rfl rfl rfl ?_
  refine WP_seq_k fun K3 hK3 => ?_
  refine WP_region ?_
  refine RL_do rfl rfl (Do_assign (v := .bool false) rfl) ?_
  refine (RL_nil (thenQ_n (hK3 _ _ ?_)))
  refine WP_seq_k fun K4 hK4 => ?_
  refine WP_region ?_
  refine RL_do rfl rfl (Do_move (v := v1) rfl) ?_
  refine RL_do rfl rfl (Do_move (v := .func (.func 60) #[] #[]) rfl) ?_
  have H5 := H
  obtain ⟨x6, e7, hF⟩ := bindO_some hF
  refine RL_call rfl rfl (DoC_func en84 rfl) (F_slices_IndexFunc___int_int__fleet_CheckTable_2_w p0 v1 _ e7 _ _ _ (H.enter [] [0] (by decide) rfl)) ?_
  rintro _ w8 ⟨rfl, G9⟩
  have H := H5.step (G9.only : Only [] _ _)
  refine ⟨_, rfl, ?_⟩
  obtain ⟨x10, e11, hF⟩ := letO_some hF
  refine RL_do rfl rfl (Do_as (Do_geq (a := x6) (b := 0) rfl rfl) (congrArg Value.bool e11)) ?_
  refine RL_do rfl rfl (Do_assign (v := .bool x10) rfl) ?_
  refine (RL_nil (thenQ_n (hK4 _ _ ?_)))
  have hR := Option.some.inj hF
  subst hR
  refine (WP_ret (post1 (v1 := .bool x10) rfl rfl ?_))
  exact ⟨rfl, H.pick [] (by decide)⟩
end Go.Proofs.YtbjhondbheijiaaGreat.L
namespace Go.Proofs.YtbjhondbheijiaaGreat.L
open Go.RowKit Go.OB Go.Lf
/- orangebox/fleet.CheckTable -/
set_option maxHeartbeats 4000000 in
theorem F_fleet_CheckTable_w (p0 : List FleetRow) (v1 : Value) (r : Int) (hF : F_fleet_CheckTable p0 = some r) (O S : List Nat) (w : World) (H : Hd O w w S [.fz (.sl rFleetRow v1 p0)]) :
    Calls Tryz.prog 41 ([v1] : List Value).toArray w fun e w' => e = .returned (.int .i64 r) ∧ Hd O w w' S [] := by
  unfold F_fleet_CheckTable at hF
  refine calls_of_WP 67 Tryz.func41 rfl rfl rfl ?_
  refine WP_seq_k fun K3 hK3 => ?_
  refine WP_region ?_
  refine RL_do rfl rfl (Do_assign (v := .int .i64 0) rfl) ?_
  refine (RL_nil (thenQ_n (hK3 _ _ ?_)))
  refine WP_seq_k fun K14 hK14 => ?_
  refine WP_seq_k fun K15 hK15 => ?_
  refine WP_region ?_
  refine RL_do rfl rfl (Do_move (v := v1) rfl) ?_
  obtain ⟨x16, e17, hF⟩ := letO_some hF
  obtain ⟨a18, c19, q20⟩ := SlF.len ((H.item (i := 0) rfl))
  refine RL_do rfl rfl (Do_as (Do_len u60 q20) (congrArg (Value.int .i64) e17)) ?_
  obtain ⟨x21, e22, hF⟩ := letO_some hF
  refine RL_do rfl rfl (Do_as (Do_gtr (a := x16) (b := 300) rfl rfl) (congrArg Value.bool e22)) ?_
  refine (RL_nil (thenQ_n (hK15 _ _ ?_)))
  refine WP_ifb (b := x21) rfl (fun c23 => ?_) (fun c23 => ?_)
  · have hF := iteB_t c23 hF
    refine WP_seq_k fun K24 hK24 => ?_
    refine WP_region ?_
    refine RL_do rfl rfl (Do_assign (v := .int .i64 3) rfl) ?_
    refine (RL_nil (thenQ_n (hK24 _ _ ?_)))
    have hR := Option.some.inj hF
    subst hR
    refine (WP_ret (thenQ_r (post1 (v1 := .int .i64 3) rfl rfl ?_)))
    exact ⟨rfl, H.pick [] (by decide)⟩
  · have hF := iteB_f c23 hF
    refine (WP_skip (thenQ_n (hK14 _ _ ?_)))
    refine WP_seq_k fun K25 hK25 => ?_
    refine WP_region ?_
    refine RL_do rfl rfl (Do_move (v := v1) rfl) ?_
    have H26 := H
    obtain ⟨x27, e28, hF⟩ := bindO_some hF
    refine RL_call rfl rfl (DoC_func en58 rfl) (F_slices_IndexFunc___api_FleetRow_api_FleetRow__fleet_CheckTable_1_w p0 v1 _ e28 _ _ _ (H.enter [] [0] (by decide) rfl)) ?_
    rintro _ w29 ⟨rfl, G30⟩
    have H := H26.step (G30.only : Only [] _ _)
    refine ⟨_, rfl, ?_⟩
    refine RL_do rfl rfl (Do_assign (v := .int .i64 x27) rfl) ?_
    refine (RL_nil (thenQ_n (hK25 _ _ ?_)))
    refine WP_seq_k fun K31 hK31 => ?_
    refine WP_region ?_
    refine RL_do rfl rfl (Do_assign (v := .func (.func 60) #[] #[]) rfl) ?_
    refine (RL_nil (thenQ_n (hK31 _ _ ?_)))
    obtain ⟨k476, ek477, hF⟩ := joinO_some hF
    refine WP_seqS [2, 5, 6, 12, 13, 14, 15, 16, 17, 18, 19, 20, 21, 22, 23, 24, 25, 26, 27, 28, 29, 30, 31, 32, 33, 34, 35, 36, 37, 38, 39, 40, 41, 42, 43, 44, 45, 46, 47, 48, 49, 50, 51, 52, 53, 54, 55, 56, 57, 58, 59, 60, 61, 62, 63, 64, 65, 66] (fun (g : Unit) => []) (fun g wl => Hd O w wl S [] ∧ k476 () = some r) ?_ ?_
    · skip
      refine WP_seq_k fun K478 hK478 => ?_
      refine WP_region ?_
      refine RL_do rfl rfl (Do_move (v := v1) rfl) ?_
      obtain ⟨x479, e480, hF⟩ := letO_some hF
      obtain ⟨a481, c482, q483⟩ := SlF.len ((H.item (i := 0) rfl))
      refine RL_do rfl rfl (Do_as (Do_len u60 q483) (congrArg (Value.int .i64) e480)) ?_
      refine RL_do rfl rfl (Do_move (v := .int .i64 0) rfl) ?_
      refine (RL_nil (thenQ_n (hK478 _ _ ?_)))
      refine WP_block ?_
      unfold F_fleet_CheckTable_L1 at hF
      obtain ⟨B916, n917, eB918, hF⟩ := loopO_some hF
      refine WP_loopS [2, 5, 6, 14, 15, 16, 17, 18, 19, 20, 21, 22, 23, 24, 25, 26, 27, 28, 29, 30, 31, 32, 33, 34, 35, 36, 37, 38, 39, 40, 41, 42, 43, 44, 45, 46, 47, 48, 49, 50, 51, 52, 53, 54, 55, 56, 57, 58, 59, 60, 61, 62, 63, 64, 65, 66] (fun (g : Nat × Int) => [(14, .int .i64 g.2)]) (fun g wl => Hd O w wl S [.fz (.sl rFleetRow v1 p0)] ∧ loopN B916 g.1 g.2 = some r) (fun g => g.1) (n917, 0) (Sl_cons rfl Sl_nil) ⟨H.pick [0] (by decide), hF⟩ ?_
      clear H hF
      rintro ⟨n917, g915⟩ ρ w920 ⟨H, hF⟩
      obtain ⟨n921, rfl, hF⟩ := loopN_pos hF
      have hF := loop_body eB918 hF
      refine WP_seq_k fun K922 hK922 => ?_
      refine WP_region ?_
      obtain ⟨x923, e924, hF⟩ := letO_some hF
      refine RL_do rfl rfl (Do_as (Do_lss (a := g915) (b := x479) rfl rfl) (congrArg Value.bool e924)) ?_
      refine (RL_nil (thenQ_n (hK922 _ _ ?_)))
      refine WP_seq_k fun K926 hK926 => ?_
      refine WP_ifb (b := x923) rfl (fun c927 => ?_) (fun c927 => ?_)
      · have hF := iteB_t c927 hF
        refine (WP_skip (thenQ_n (hK926 _ _ ?_)))
        refine WP_seq_k fun K1031 hK1031 => ?_
        refine WP_block ?_
        refine WP_seq_k fun K1032 hK1032 => ?_
        refine WP_region ?_
        refine RL_do rfl rfl (Do_move (v := .int .i64 g915) rfl) ?_
        obtain ⟨x1033, e1034, hF⟩ := bindO_some hF
        obtain ⟨b1035, o1036, c1037, cs1038, q1039, h1042, h1040, h1041, h1043⟩ := rd_at (H.item (i := 0) rfl) e1034
        obtain ⟨v1044, rfl, h1045⟩ := rFleetRow_open h1042
        have H := H.fzs [.at b1035 (o1036 + g915.toNat * 4) _, .sl (Rp.int .i64) v1044 x1033.Events] ⟨⟨h1040, h1041, h1043⟩, h1045, trivial⟩
        refine RL_do rfl rfl (Do_idx u60 sz57 q1039 rfl (at_some e1034).1 (at_some e1034).2.1 rfl rfl) ?_
        refine RL_do rfl rfl (Do_as (Do_loads (cs := [.string (bs x1033.Key), .bool x1033.Hidden, .int .i64 x1033.Flights, v1044]) agg57 rfl sz57 rfl (H.item (i := 1) rfl).2.2) rfl) ?_
        refine RL_ex rfl rfl (Lx_alloc zero57 H) ?_
        rintro _ w1050 ⟨b1048, rfl, H⟩
        refine RL_do rfl rfl (Do_assign (v := .int .i64 g915) rfl) ?_
        refine RL_exU rfl (Lx_storeN (vs := [.string (bs x1033.Key), .bool x1033.Hidden, .int .i64 x1033.Flights, v1044]) H 3 rfl sz57 rfl rfl rfl ⟨rfl, rfl, rfl, (slf_one (H.item (i := 2) rfl)), trivial⟩ rfl) ?_
        rintro w1051 H
        refine (RL_nil (thenQ_n (hK1032 _ _ ?_)))
        refine WP_block ?_
        refine WP_seq_k fun K1052 hK1052 => ?_
        refine WP_region ?_
        refine RL_do rfl rfl (Do_move (v := v1) rfl) ?_
        refine RL_do rfl rfl (Do_move (v := .int .i64 g915) rfl) ?_
        obtain ⟨x1053, e1054, hF⟩ := bindO_some hF
        refine RL_exP rfl rfl (Lx_slice_h u60 sz57 (H.item (i := 0) rfl) rfl rfl e1054) ?_
        rintro v1055 h1056
        have H := H.fz (.sl rFleetRow v1055 x1053) h1056
        refine RL_do rfl rfl (Do_makeFunc rfl) ?_
        obtain ⟨x1058, e1059, hF⟩ := bindO_some hF
        refine RL_call rfl rfl (DoC_func en61 rfl) (F_slices_ContainsFunc___api_FleetRow_api_FleetRow__fleet_CheckTable_3_w x1053 x1033 v1055 b1048 v1044 _ e1059 _ _ _ (H.enter [3] [4, 2] (by decide) rfl)) ?_
        rintro _ w1060 ⟨rfl, G1061⟩
        have H : Hd O _ w1060 _ [.fz (.sl rFleetRow v1 p0), .fz (.at b1035 (o1036 + g915.toNat * 4) [.string (bs x1033.Key), .bool x1033.Hidden, .int .i64 x1033.Flights, v1044]), .fz (.sl (Rp.int .i64) v1044 x1033.Events), .fz (.sl rFleetRow v1055 x1053), .blk b1048 [.string (bs x1033.Key), .bool x1033.Hidden, .int .i64 x1033.Flights, v1044] 57] := H.back [3] [4, 2] rfl G1061
        refine ⟨_, rfl, ?_⟩
        refine RL_do rfl rfl (Do_assign (v := .bool x1058) rfl) ?_
        refine (RL_nil (thenQ_n (hK1052 _ _ ?_)))
        refine WP_ifb (b := x1058) rfl (fun c1062 => ?_) (fun c1062 => ?_)
        · have hF := iteB_t c1062 hF
          refine WP_seq_k fun K1063 hK1063 => ?_
          refine WP_region ?_
          refine RL_do rfl rfl (Do_assign (v := .int .i64 5) rfl) ?_
          refine (RL_nil (thenQ_n (hK1063 _ _ ?_)))
          have hR := Option.some.inj hF
          subst hR
          refine (WP_ret (blockQ_r (blockQ_r (thenQ_r (thenQ_r (blockQ_r (thenQ_r (post1 (v1 := .int .i64 5) rfl rfl ?_))))))))
          exact ⟨rfl, H.pick [] (by decide)⟩
        · have hF := iteB_f c1062 hF
          obtain ⟨g1075, hF, hK1077⟩ := bindO_some hF
          refine WP_seqS [25, 26, 27, 28, 29, 30, 31, 32, 33, 34, 35, 36, 37, 38] (fun (g : Unit) => [(25, .bool g1075)]) (fun g wl => Hd O w wl S [.fz (.sl rFleetRow v1 p0), .blk b1048 [.string (bs x1033.Key), .bool x1033.Hidden, .int .i64 x1033.Flights, v1044] 57, .fz (.sl (Rp.int .i64) v1044 x1033.Events)]) ?_ ?_
          · skip
            refine WP_region ?_
            refine RL_do rfl rfl (fa57_1 rfl) ?_
            refine RL_do rfl rfl (Do_load one4 rfl (Cells.get (Blk.cells (H.item (i := 4) rfl)) (i := 1) rfl)) ?_
            refine RL_splitb (b := x1033.Hidden) rfl rfl rfl (fun c1078 => ?_) (fun c1078 => ?_)
            · have hF := iteB_t c1078 hF
              refine RL_do rfl rfl (fa57_2 rfl) ?_
              refine RL_do rfl rfl (Do_load one3 rfl (Cells.get (Blk.cells (H.item (i := 4) rfl)) (i := 2) rfl)) ?_
              obtain ⟨x1079, e1080, hF⟩ := letO_some hF
              refine RL_do rfl rfl (Do_as (Do_neq (a := x1033.Flights) (b := 0) rfl rfl) (congrArg Value.bool e1080)) ?_
              refine RL_splitb (b := x1079) rfl rfl rfl (fun c1081 => ?_) (fun c1081 => ?_)
              · have hF := iteB_t c1081 hF
                refine RL_off rfl rfl ?_
                refine RL_off rfl rfl ?_
                refine RL_off rfl rfl ?_
                refine RL_off rfl rfl ?_
                refine RL_do rfl rfl (Do_pick_t (v := .bool true) rfl rfl) ?_
                refine RL_do rfl rfl (Do_pick_t (v := .bool true) rfl rfl) ?_
                refine RL_do rfl rfl (Do_assign (v := .bool true) rfl) ?_
                have hR := Option.some.inj hF
                subst hR
                refine (RL_nil (thenQ_n (And.intro ?_ ?_)))
                · repeat' (first | with_reducible exact Fr_refl | refine Fr_upd rfl ?_ | refine Fr_over rfl rfl ?_)
                · exact ⟨(), (Sl_cons rfl Sl_nil), H.pick [0, 4, 2] (by decide)⟩
              · have hF := iteB_f c1081 hF
                refine RL_do rfl rfl (fa57_3 rfl) ?_
                refine RL_do rfl rfl (Do_load one42 rfl (Cells.get (Blk.cells (H.item (i := 4) rfl)) (i := 3) rfl)) ?_
                obtain ⟨x1082, e1083, hF⟩ := letO_some hF
                obtain ⟨a1084, c1085, q1086⟩ := SlF.len ((H.item (i := 2) rfl))
                refine RL_do rfl rfl (Do_as (Do_len u42 q1086) (congrArg (Value.int .i64) e1083)) ?_
                obtain ⟨x1087, e1088, hF⟩ := letO_some hF
                refine RL_do rfl rfl (Do_as (Do_gtr (a := x1082) (b := 0) rfl rfl) (congrArg Value.bool e1088)) ?_
                refine RL_do rfl rfl (Do_pick_f (v := .bool x1087) rfl rfl) ?_
                refine RL_do rfl rfl (Do_pick_t (v := .bool x1087) rfl rfl) ?_
                refine RL_do rfl rfl (Do_assign (v := .bool x1087) rfl) ?_
                have hR := Option.some.inj hF
                subst hR
                refine (RL_nil (thenQ_n (And.intro ?_ ?_)))
                · repeat' (first | with_reducible exact Fr_refl | refine Fr_upd rfl ?_ | refine Fr_over rfl rfl ?_)
                · exact ⟨(), (Sl_cons rfl Sl_nil), H.pick [0, 4, 2] (by decide)⟩
            · have hF := iteB_f c1078 hF
              refine RL_off rfl rfl ?_
              refine RL_off rfl rfl ?_
              refine RL_off rfl rfl ?_
              refine RL_off rfl rfl ?_
              refine RL_off rfl rfl ?_
              refine RL_off rfl rfl ?_
              refine RL_off rfl rfl ?_
              refine RL_off rfl rfl ?_
              refine RL_off rfl rfl ?_
              refine RL_do rfl rfl (Do_pick_f (v := .bool false) rfl rfl) ?_
              refine RL_do rfl rfl (Do_assign (v := .bool false) rfl) ?_
              have hR := Option.some.inj hF
              subst hR
              refine (RL_nil (thenQ_n (And.intro ?_ ?_)))
              · repeat' (first | with_reducible exact Fr_refl | refine Fr_upd rfl ?_ | refine Fr_over rfl rfl ?_)
              · exact ⟨(), (Sl_cons rfl Sl_nil), H.pick [0, 4, 2] (by decide)⟩
          · rintro _ ρ w1076 H
            have hF := hK1077
            refine WP_ifb (b := g1075) rfl (fun c1089 => ?_) (fun c1089 => ?_)
            · have hF := iteB_t c1089 hF
              refine WP_seq_k fun K1090 hK1090 => ?_
              refine WP_region ?_
              refine RL_do rfl rfl (Do_assign (v := .int .i64 2) rfl) ?_
              refine (RL_nil (thenQ_n (hK1090 _ _ ?_)))
              have hR := Option.some.inj hF
              subst hR
              refine (WP_ret (blockQ_r (blockQ_r (thenQ_r (thenQ_r (blockQ_r (thenQ_r (post1 (v1 := .int .i64 2) rfl rfl ?_))))))))
              exact ⟨rfl, H.pick [] (by decide)⟩
            · have hF := iteB_f c1089 hF
              obtain ⟨g1102, hF, hK1104⟩ := bindO_some hF
              refine WP_seqS [39, 40, 41, 42, 43, 44, 45, 46, 47, 48, 49] (fun (g : Unit) => [(39, .bool g1102)]) (fun g wl => Hd O w wl S [.fz (.sl rFleetRow v1 p0), .blk b1048 [.string (bs x1033.Key), .bool x1033.Hidden, .int .i64 x1033.Flights, v1044] 57, .fz (.sl (Rp.int .i64) v1044 x1033.Events)]) ?_ ?_
              · skip
                refine WP_region ?_
                refine RL_do rfl rfl (Do_move (v := .func (.func 60) #[] #[]) rfl) ?_
                refine RL_do rfl rfl (fa57_2 rfl) ?_
                refine RL_do rfl rfl (Do_load one3 rfl (Cells.get (Blk.cells (H.item (i := 1) rfl)) (i := 2) rfl)) ?_
                have H1105 := H
                obtain ⟨x1106, e1107, hF⟩ := bindO_some hF
                refine RL_call rfl rfl (DoC_clo en60 rfl rfl) (F_fleet_CheckTable_2_w x1033.Flights _ e1107 _ _ _ (H.enter [] [] (by decide) rfl)) ?_
                rintro _ w1108 ⟨rfl, G1109⟩
                have H := H1105.step (G1109.only : Only [] _ _)
                refine ⟨_, rfl, ?_⟩
                refine RL_splitb (b := x1106) rfl rfl rfl (fun c1110 => ?_) (fun c1110 => ?_)
                · have hF := iteB_t c1110 hF
                  refine RL_off rfl rfl ?_
                  refine RL_off rfl rfl ?_
                  refine RL_off rfl rfl ?_
                  refine RL_off rfl rfl ?_
                  refine RL_do rfl rfl (Do_pick_t (v := .bool true) rfl rfl) ?_
                  refine RL_do rfl rfl (Do_assign (v := .bool true) rfl) ?_
                  have hR := Option.some.inj hF
                  subst hR
                  refine (RL_nil (thenQ_n (And.intro ?_ ?_)))
                  · repeat' (first | with_reducible exact Fr_refl | refine Fr_upd rfl ?_ | refine Fr_over rfl rfl ?_)
                  · exact ⟨(), (Sl_cons rfl Sl_nil), H.pick [0, 1, 2] (by decide)⟩
                · have hF := iteB_f c1110 hF
                  refine RL_do rfl rfl (fa57_3 rfl) ?_
                  refine RL_do rfl rfl (Do_load one42 rfl (Cells.get (Blk.cells (H.item (i := 1) rfl)) (i := 3) rfl)) ?_
                  refine RL_do rfl rfl (Do_move (v := .func (.func 60) #[] #[]) rfl) ?_
                  have H1111 := H
                  obtain ⟨x1112, e1113, hF⟩ := bindO_some hF
                  refine RL_call rfl rfl (DoC_func en63 rfl) (F_slices_ContainsFunc___int_int__fleet_CheckTable_2_w x1033.Events v1044 _ e1113 _ _ _ (H.enter [] [2] (by decide) rfl)) ?_
                  rintro _ w1114 ⟨rfl, G1115⟩
                  have H := H1111.step (G1115.only : Only [] _ _)
                  refine ⟨_, rfl, ?_⟩
                  refine RL_do rfl rfl (Do_pick_f (v := .bool x1112) rfl rfl) ?_
                  refine RL_do rfl rfl (Do_assign (v := .bool x1112) rfl) ?_
                  have hR := Option.some.inj hF
                  subst hR
                  refine (RL_nil (thenQ_n (And.intro ?_ ?_)))
                  · repeat' (first | with_reducible exact Fr_refl | refine Fr_upd rfl ?_ | refine Fr_over rfl rfl ?_)
                  · exact ⟨(), (Sl_cons rfl Sl_nil), H.pick [0, 1, 2] (by decide)⟩
              · rintro _ ρ w1103 H
                have hF := hK1104
                refine WP_ifb (b := g1102) rfl (fun c1116 => ?_) (fun c1116 => ?_)
                · have hF := iteB_t c1116 hF
                  refine WP_seq_k fun K1117 hK1117 => ?_
                  refine WP_region ?_
                  refine RL_do rfl rfl (Do_assign (v := .int .i64 9) rfl) ?_
                  refine (RL_nil (thenQ_n (hK1117 _ _ ?_)))
                  have hR := Option.some.inj hF
                  subst hR
                  refine (WP_ret (blockQ_r (blockQ_r (thenQ_r (thenQ_r (blockQ_r (thenQ_r (post1 (v1 := .int .i64 9) rfl rfl ?_))))))))
                  exact ⟨rfl, H.pick [] (by decide)⟩
                · have hF := iteB_f c1116 hF
                  obtain ⟨g1152, hF, hK1154⟩ := bindO_some hF
                  refine WP_seqS [50, 51, 52, 53, 54, 55, 56, 57, 58, 59, 60, 61, 62, 63, 64, 65] (fun (g : Unit) => [(50, .bool g1152)]) (fun g wl => Hd O w wl S [.fz (.sl rFleetRow v1 p0)]) ?_ ?_
                  · skip
                    have H1155 := H
                    have H := H.rebase
                    have H1156 := H
                    refine WP_mix0 H [0, 1, 2, 3, 4, 5, 6, 7, 8, 9, 10, 11, 12, 13, 14, 15] [.pure, .read, .pure, .pure, .pure, .read, .pure, .pure, .pure, .pure, .pure, .read, .pure, .pure, .pure, .pure] mixed (by kernel_rfl) (by kernel_rfl) (by kernel_rfl) rfl ?_
                    refine Mx.XL_pure rfl rfl rfl (fun w' hw' => fa57_1 rfl) ?_
                    refine Mx.XL_read oS rfl rfl rfl (fun w' hw' => Do_load one4 rfl (Cells.get (Blk.cells ((H.sees hw').item (i := 1) rfl)) (i := 1) rfl)) ?_
                    obtain ⟨x1157, e1158, hF⟩ := letO_some hF
                    refine Mx.XL_pure rfl rfl rfl (fun w' hw' => Do_as (Do_not (p := x1033.Hidden) rfl) (congrArg Value.bool e1158)) ?_
                    refine Mx.XL_splitb (b := x1157) rfl rfl rfl rfl (fun c1159 => ?_) (fun c1159 => ?_)
                    · have hF := iteB_t c1159 hF
                      refine Mx.XL_pure rfl rfl rfl (fun w' hw' => fa57_3 rfl) ?_
                      refine Mx.XL_read oS rfl rfl rfl (fun w' hw' => Do_load one42 rfl (Cells.get (Blk.cells ((H.sees hw').item (i := 1) rfl)) (i := 3) rfl)) ?_
                      obtain ⟨x1160, e1161, hF⟩ := letO_some hF
                      obtain ⟨a1162, c1163, q1164⟩ := SlF.len ((H.item (i := 2) rfl))
                      refine Mx.XL_pure rfl rfl rfl (fun w' hw' => Do_as (Do_len u42 q1164) (congrArg (Value.int .i64) e1161)) ?_
                      refine Mx.XL_pure rfl rfl rfl (fun w' hw' => Do_move (v := v1) rfl) ?_
                      refine Mx.XL_pure rfl rfl rfl (fun w' hw' => Do_move (v := .int .i64 x27) rfl) ?_
                      obtain ⟨x1165, e1166, hF⟩ := bindO_some hF
                      obtain ⟨b1167, o1168, c1169, cs1170, q1171, h1174, h1172, h1173, h1175⟩ := rd_at (H.item (i := 0) rfl) e1166
                      obtain ⟨v1176, rfl, h1177⟩ := rFleetRow_open h1174
                      have H := H.fzs [.at b1167 (o1168 + x27.toNat * 4) _, .sl (Rp.int .i64) v1176 x1165.Events] ⟨⟨h1172, h1173, h1175⟩, h1177, trivial⟩
                      refine Mx.XL_pure rfl rfl rfl (fun w' hw' => Do_idx u60 sz57 q1171 rfl (at_some e1166).1 (at_some e1166).2.1 rfl rfl) ?_
                      refine Mx.XL_pure rfl rfl rfl (fun w' hw' => fa57_3 rfl) ?_
                      refine Mx.XL_read oS rfl rfl rfl (fun w' hw' => Do_load one42 rfl (Cells.get ((H.sees hw').item (i := 3) rfl).2.2 (i := 3) rfl)) ?_
                      obtain ⟨x1180, e1181, hF⟩ := letO_some hF
                      obtain ⟨a1182, c1183, q1184⟩ := SlF.len ((H.item (i := 4) rfl))
                      refine Mx.XL_pure rfl rfl rfl (fun w' hw' => Do_as (Do_len u42 q1184) (congrArg (Value.int .i64) e1181)) ?_
                      obtain ⟨x1185, e1186, hF⟩ := letO_some hF
                      refine Mx.XL_pure rfl rfl rfl (fun w' hw' => Do_as (Do_neq (a := x1160) (b := x1180) rfl rfl) (congrArg Value.bool e1186)) ?_
                      refine Mx.XL_pure rfl rfl rfl (fun w' hw' => Do_pick_t (v := .bool x1185) rfl rfl) ?_
                      refine Mx.XL_pure rfl rfl rfl (fun w' hw' => Do_assign (v := .bool x1185) rfl) ?_
                      refine Mx.XL_nil fun w1187 hS => ?_
                      have H := H.sees hS
                      have H := H1155.rejoin H
                      have hR := Option.some.inj hF
                      subst hR
                      refine (thenQ_n (And.intro ?_ ?_))
                      · repeat' (first | with_reducible exact Fr_refl | refine Fr_upd rfl ?_ | refine Fr_over rfl rfl ?_)
                      · exact ⟨(), (Sl_cons rfl Sl_nil), H.pick [0] (by decide)⟩
                    · have hF := iteB_f c1159 hF
                      refine Mx.XL_offp rfl rfl rfl ?_
                      refine Mx.XL_offr oS rfl rfl rfl ?_
                      refine Mx.XL_offp rfl rfl rfl ?_
                      refine Mx.XL_offp rfl rfl rfl ?_
                      refine Mx.XL_offp rfl rfl rfl ?_
                      refine Mx.XL_offp rfl rfl rfl ?_
                      refine Mx.XL_offp rfl rfl rfl ?_
                      refine Mx.XL_offr oS rfl rfl rfl ?_
                      refine Mx.XL_offp rfl rfl rfl ?_
                      refine Mx.XL_offp rfl rfl rfl ?_
                      refine Mx.XL_pure rfl rfl rfl (fun w' hw' => Do_pick_f (v := .bool false) rfl rfl) ?_
                      refine Mx.XL_pure rfl rfl rfl (fun w' hw' => Do_assign (v := .bool false) rfl) ?_
                      refine Mx.XL_nil fun w1188 hS => ?_
                      have H := H.sees hS
                      have H := H1155.rejoin H
                      have hR := Option.some.inj hF
                      subst hR
                      refine (thenQ_n (And.intro ?_ ?_))
                      · repeat' (first | with_reducible exact Fr_refl | refine Fr_upd rfl ?_ | refine Fr_over rfl rfl ?_)
                      · exact ⟨(), (Sl_cons rfl Sl_nil), H.pick [0] (by decide)⟩
                  · rintro _ ρ w1153 H
                    have hF := hK1154
                    refine WP_ifb (b := g1152) rfl (fun c1189 => ?_) (fun c1189 => ?_)
                    · have hF := iteB_t c1189 hF
                      refine WP_seq_k fun K1190 hK1190 => ?_
                      refine WP_region ?_
                      refine RL_do rfl rfl (Do_assign (v := .int .i64 2) rfl) ?_
                      refine (RL_nil (thenQ_n (hK1190 _ _ ?_)))
                      have hR := Option.some.inj hF
                      subst hR
                      refine (WP_ret (blockQ_r (blockQ_r (thenQ_r (thenQ_r (blockQ_r (thenQ_r (post1 (v1 := .int .i64 2) rfl rfl ?_))))))))
                      exact ⟨rfl, H.pick [] (by decide)⟩
                    · have hF := iteB_f c1189 hF
                      refine (WP_skip (blockQ_n (blockQ_n (thenQ_n (hK1031 _ _ ?_)))))
                      refine WP_region ?_
                      obtain ⟨x1191, e1192, hF⟩ := letO_some hF
                      refine RL_do rfl rfl (Do_add (a := g915) (b := 1) rfl rfl e1192) ?_
                      refine RL_do rfl rfl (Do_move (v := .int .i64 x1191) rfl) ?_
                      refine (RL_nil (thenQ_n (And.intro ?_ ?_)))
                      · repeat' (first | with_reducible exact Fr_refl | refine Fr_upd rfl ?_ | refine Fr_over rfl rfl ?_)
                      · exact ⟨(n921, x1191), (Sl_cons rfl Sl_nil), ⟨H.pick [0] (by decide), hF⟩, Nat.lt_succ_self _⟩
      · have hF := iteB_f c927 hF
        refine (WP_exit (thenQ_x (thenQ_x (blockQ_eq (thenQ_n (And.intro ?_ ?_))))))
        · repeat' (first | with_reducible exact Fr_refl | refine Fr_upd rfl ?_ | refine Fr_over rfl rfl ?_)
        · exact ⟨(), Sl_nil, ⟨H.pick [] (by decide), hF⟩⟩
    · rintro _ ρ w475 ⟨H, hF⟩
      have hF := join_body ek477 hF
      refine WP_seq_k fun K1193 hK1193 => ?_
      refine WP_region ?_
      refine RL_do rfl rfl (Do_assign (v := .int .i64 0) rfl) ?_
      refine (RL_nil (thenQ_n (hK1193 _ _ ?_)))
      have hR := Option.some.inj hF
      subst hR
      refine (WP_ret (post1 (v1 := .int .i64 0) rfl rfl ?_))
      exact ⟨rfl, H.pick [] (by decide)⟩
end Go.Proofs.YtbjhondbheijiaaGreat.L
