/- Walks: what each function computes, for every argument; no condition but those that stand in the statements. -/
import Derived.Test.YtbjhondbheijiaaDoorDV0
import Derived.Test.YtbjhondbheijiaaDoorDV3
namespace Go.Proofs.YtbjhondbheijiaaDoor.L
open Go.RowKit Go.OB Go.Lf
/- orangebox/orangeboxref5.fault -/
set_option maxHeartbeats 4000000 in
theorem F_ref5_fault_w (p0 : Series) (v1 : Value) (r : Int × Int) (hF : F_ref5_fault p0 = some r) (O S : List Nat) (w : World) (H : Hd O w w S [.fz (.sl rSample v1 p0.Samples)]) :
    Calls Tryd.prog 86 ([.agg [.int .i64 p0.Den, v1].toArray] : List Value).toArray w fun e w' => e = .returned (.tuple #[.int .i64 r.1, .int .i64 r.2]) ∧ Hd O w w' S [] := by
  unfold F_ref5_fault at hF
  refine calls_of_WP 49 Tryd.func86 rfl rfl rfl ?_
  refine WP_seq_k fun K3 hK3 => ?_
  refine WP_region ?_
  refine RL_ex rfl rfl (Lx_box (cs := [.int .i64 p0.Den, v1]) rfl H) ?_
  rintro _ w6 ⟨b4, rfl, H⟩
  refine RL_do rfl rfl (Do_assign (v := .int .i64 0) rfl) ?_
  refine RL_do rfl rfl (Do_assign (v := .int .i64 0) rfl) ?_
  refine (RL_nil (thenQ_n (hK3 _ _ ?_)))
  refine WP_seq_k fun K15 hK15 => ?_
  refine WP_seq_k fun K16 hK16 => ?_
  refine WP_region ?_
  refine RL_do rfl rfl (fa93_0 rfl) ?_
  refine RL_do rfl rfl (Do_load one3 rfl (Cells.get (Blk.cells (H.item (i := 1) rfl)) (i := 0) rfl)) ?_
  have H17 := H
  obtain ⟨x18, e19, hF⟩ := bindO_some hF
  refine RL_call rfl rfl (DoC_func en96 rfl) (F_ref5_outside_w p0.Den 1 1000000 _ e19 _ _ _ (H.enter [] [] (by decide) rfl)) ?_
  rintro _ w20 ⟨rfl, G21⟩
  have H := H17.step (G21.only : Only [] _ _)
  refine ⟨_, rfl, ?_⟩
  refine (RL_nil (thenQ_n (hK16 _ _ ?_)))
  refine WP_ifb (b := x18) rfl (fun c22 => ?_) (fun c22 => ?_)
  · have hF := iteB_t c22 hF
    refine WP_seq_k fun K23 hK23 => ?_
    refine WP_region ?_
    refine RL_do rfl rfl (Do_assign (v := .int .i64 (-1)) rfl) ?_
    refine RL_do rfl rfl (Do_assign (v := .int .i64 9) rfl) ?_
    refine (RL_nil (thenQ_n (hK23 _ _ ?_)))
    have hR := Option.some.inj hF
    subst hR
    refine (WP_ret (thenQ_r (post2 (v1 := .int .i64 (-1)) (v2 := .int .i64 9) rfl rfl rfl ?_)))
    exact ⟨rfl, H.pick [] (by decide)⟩
  · have hF := iteB_f c22 hF
    refine (WP_skip (thenQ_n (hK15 _ _ ?_)))
    refine WP_seq_k fun K34 hK34 => ?_
    refine WP_seq_k fun K35 hK35 => ?_
    refine WP_region ?_
    refine RL_do rfl rfl (fa93_1 rfl) ?_
    refine RL_do rfl rfl (Do_load one91 rfl (Cells.get (Blk.cells (H.item (i := 1) rfl)) (i := 1) rfl)) ?_
    obtain ⟨x36, e37, hF⟩ := letO_some hF
    obtain ⟨a38, c39, q40⟩ := SlF.len ((H.item (i := 0) rfl))
    refine RL_do rfl rfl (Do_as (Do_len u91 q40) (congrArg (Value.int .i64) e37)) ?_
    obtain ⟨x41, e42, hF⟩ := letO_some hF
    refine RL_do rfl rfl (Do_as (Do_gtr (a := x36) (b := 20000) rfl rfl) (congrArg Value.bool e42)) ?_
    refine (RL_nil (thenQ_n (hK35 _ _ ?_)))
    refine WP_ifb (b := x41) rfl (fun c43 => ?_) (fun c43 => ?_)
    · have hF := iteB_t c43 hF
      refine WP_seq_k fun K44 hK44 => ?_
      refine WP_region ?_
      refine RL_do rfl rfl (Do_assign (v := .int .i64 (-1)) rfl) ?_
      refine RL_do rfl rfl (Do_assign (v := .int .i64 3) rfl) ?_
      refine (RL_nil (thenQ_n (hK44 _ _ ?_)))
      have hR := Option.some.inj hF
      subst hR
      refine (WP_ret (thenQ_r (post2 (v1 := .int .i64 (-1)) (v2 := .int .i64 3) rfl rfl rfl ?_)))
      exact ⟨rfl, H.pick [] (by decide)⟩
    · have hF := iteB_f c43 hF
      refine (WP_skip (thenQ_n (hK34 _ _ ?_)))
      obtain ⟨k446, ek447, hF⟩ := joinO_some hF
      refine WP_seqS [2, 3, 4, 5, 13, 14, 15, 16, 17, 18, 19, 20, 21, 22, 23, 24, 25, 26, 27, 28, 29, 30, 31, 32, 33, 34, 35, 36, 37, 38, 39, 40, 41, 42, 43, 44, 45, 46, 47, 48] (fun (g : Unit) => []) (fun g wl => Hd O w wl S [] ∧ k446 () = some r) ?_ ?_
      · skip
        refine WP_seq_k fun K448 hK448 => ?_
        refine WP_region ?_
        refine RL_do rfl rfl (Do_assign (v := .int .i64 0) rfl) ?_
        refine (RL_nil (thenQ_n (hK448 _ _ ?_)))
        refine WP_block ?_
        unfold F_ref5_fault_L1 at hF
        obtain ⟨B843, n844, eB845, hF⟩ := loopO_some hF
        refine WP_loopS [2, 3, 4, 5, 13, 14, 15, 16, 17, 18, 19, 20, 21, 22, 23, 24, 25, 26, 27, 28, 29, 30, 31, 32, 33, 34, 35, 36, 37, 38, 39, 40, 41, 42, 43, 44, 45, 46, 47, 48] (fun (g : Nat × Int) => [(4, .int .i64 g.2)]) (fun g wl => Hd O w wl S [.blk b4 [.int .i64 p0.Den, v1] 93, .fz (.sl rSample v1 p0.Samples)] ∧ loopN B843 g.1 g.2 = some r) (fun g => g.1) (n844, 0) (Sl_cons rfl Sl_nil) ⟨H.pick [1, 0] (by decide), hF⟩ ?_
        clear H hF
        rintro ⟨n844, g842⟩ ρ w847 ⟨H, hF⟩
        obtain ⟨n848, rfl, hF⟩ := loopN_pos hF
        have hF := loop_body eB845 hF
        refine WP_seq_k fun K858 hK858 => ?_
        refine WP_seq_k fun K859 hK859 => ?_
        refine WP_region ?_
        refine RL_do rfl rfl (Do_move (v := .int .i64 g842) rfl) ?_
        refine RL_do rfl rfl (fa93_1 rfl) ?_
        refine RL_do rfl rfl (Do_load one91 rfl (Cells.get (Blk.cells (H.item (i := 0) rfl)) (i := 1) rfl)) ?_
        obtain ⟨x860, e861, hF⟩ := letO_some hF
        obtain ⟨a862, c863, q864⟩ := SlF.len ((H.item (i := 1) rfl))
        refine RL_do rfl rfl (Do_as (Do_len u91 q864) (congrArg (Value.int .i64) e861)) ?_
        obtain ⟨x865, e866, hF⟩ := letO_some hF
        refine RL_do rfl rfl (Do_as (Do_lss (a := g842) (b := x860) rfl rfl) (congrArg Value.bool e866)) ?_
        refine (RL_nil (thenQ_n (hK859 _ _ ?_)))
        refine WP_ifb (b := x865) rfl (fun c867 => ?_) (fun c867 => ?_)
        · have hF := iteB_t c867 hF
          refine (WP_skip (thenQ_n (hK858 _ _ ?_)))
          refine WP_seq_k fun K955 hK955 => ?_
          refine WP_block ?_
          refine WP_seq_k fun K979 hK979 => ?_
          refine WP_seq_k fun K980 hK980 => ?_
          refine WP_region ?_
          refine RL_do rfl rfl (fa93_1 rfl) ?_
          refine RL_do rfl rfl (Do_load one91 rfl (Cells.get (Blk.cells (H.item (i := 0) rfl)) (i := 1) rfl)) ?_
          refine RL_do rfl rfl (Do_move (v := .int .i64 g842) rfl) ?_
          obtain ⟨x981, e982, hF⟩ := bindO_some hF
          obtain ⟨b983, o984, c985, cs986, q987, h990, h988, h989, h991⟩ := rd_at (H.item (i := 1) rfl) e982
          obtain rfl := rSample_open h990
          have H := H.fz (.at b983 (o984 + g842.toNat * 3) _) ⟨h988, h989, h991⟩
          refine RL_do rfl rfl (Do_idx u91 sz99 q987 rfl (at_some e982).1 (at_some e982).2.1 rfl rfl) ?_
          refine RL_do rfl rfl (Do_as (Do_loads (cs := [.int .i64 x981.At, .int .i64 x981.N, .int .i64 x981.Mark]) agg99 rfl sz99 rfl (H.item (i := 2) rfl).2.2) rfl) ?_
          have H993 := H
          obtain ⟨x994, e995, hF⟩ := bindO_some hF
          refine RL_call rfl rfl (DoC_func en97 rfl) (F_ref5_sampleFault_w x981 _ e995 _ _ _ (H.enter [] [] (by decide) rfl)) ?_
          rintro _ w996 ⟨rfl, G997⟩
          have H := H993.step (G997.only : Only [] _ _)
          refine ⟨_, rfl, ?_⟩
          refine RL_do rfl rfl (Do_assign (v := .int .i64 x994) rfl) ?_
          refine (RL_nil (thenQ_n (hK980 _ _ ?_)))
          refine WP_seq_k fun K998 hK998 => ?_
          refine WP_region ?_
          refine RL_do rfl rfl (Do_move (v := .int .i64 x994) rfl) ?_
          obtain ⟨x999, e1000, hF⟩ := letO_some hF
          refine RL_do rfl rfl (Do_as (Do_neq (a := x994) (b := 0) rfl rfl) (congrArg Value.bool e1000)) ?_
          refine (RL_nil (thenQ_n (hK998 _ _ ?_)))
          refine WP_ifb (b := x999) rfl (fun c1001 => ?_) (fun c1001 => ?_)
          · have hF := iteB_t c1001 hF
            refine WP_seq_k fun K1002 hK1002 => ?_
            refine WP_region ?_
            refine RL_do rfl rfl (Do_move (v := .int .i64 g842) rfl) ?_
            refine RL_do rfl rfl (Do_move (v := .int .i64 x994) rfl) ?_
            refine RL_do rfl rfl (Do_assign (v := .int .i64 g842) rfl) ?_
            refine RL_do rfl rfl (Do_assign (v := .int .i64 x994) rfl) ?_
            refine (RL_nil (thenQ_n (hK1002 _ _ ?_)))
            have hR := Option.some.inj hF
            subst hR
            refine (WP_ret (thenQ_r (blockQ_r (thenQ_r (thenQ_r (blockQ_r (thenQ_r (post2 (v1 := .int .i64 g842) (v2 := .int .i64 x994) rfl rfl rfl ?_))))))))
            exact ⟨rfl, H.pick [] (by decide)⟩
          · have hF := iteB_f c1001 hF
            refine (WP_skip (thenQ_n (hK979 _ _ ?_)))
            obtain ⟨g1038, hF, hK1040⟩ := bindO_some hF
            refine WP_seqS [30, 31, 32, 33, 34, 35, 36, 37, 38, 39, 40, 41, 42, 43, 44, 45, 46, 47] (fun (g : Unit) => [(47, .bool g1038)]) (fun g wl => Hd O w wl S [.blk b4 [.int .i64 p0.Den, v1] 93, .fz (.sl rSample v1 p0.Samples)]) ?_ ?_
            · skip
              have H1041 := H
              have H := H.rebase
              have H1042 := H
              refine WP_mix0 H [0, 1, 2, 3, 4, 5, 6, 7, 8, 9, 10, 11, 12, 13, 14, 15, 16, 17] [.pure, .pure, .pure, .pure, .read, .pure, .pure, .pure, .read, .pure, .read, .pure, .pure, .pure, .pure, .read, .pure, .pure] mixed (by kernel_rfl) (by kernel_rfl) (by kernel_rfl) rfl ?_
              refine Mx.XL_pure rfl rfl rfl (fun w' hw' => Do_move (v := .int .i64 g842) rfl) ?_
              obtain ⟨x1043, e1044, hF⟩ := letO_some hF
              refine Mx.XL_pure rfl rfl rfl (fun w' hw' => Do_as (Do_gtr (a := g842) (b := 0) rfl rfl) (congrArg Value.bool e1044)) ?_
              refine Mx.XL_splitb (b := x1043) rfl rfl rfl rfl (fun c1045 => ?_) (fun c1045 => ?_)
              · have hF := iteB_t c1045 hF
                refine Mx.XL_pure rfl rfl rfl (fun w' hw' => fa93_1 rfl) ?_
                refine Mx.XL_read oS rfl rfl rfl (fun w' hw' => Do_load one91 rfl (Cells.get (Blk.cells ((H.sees hw').item (i := 0) rfl)) (i := 1) rfl)) ?_
                refine Mx.XL_pure rfl rfl rfl (fun w' hw' => Do_move (v := .int .i64 g842) rfl) ?_
                obtain ⟨x1046, e1047, hF⟩ := bindO_some hF
                obtain ⟨b1048, o1049, c1050, cs1051, q1052, h1055, h1053, h1054, h1056⟩ := rd_at (H.item (i := 1) rfl) e1047
                obtain rfl := rSample_open h1055
                have H := H.fz (.at b1048 (o1049 + g842.toNat * 3) _) ⟨h1053, h1054, h1056⟩
                refine Mx.XL_pure rfl rfl rfl (fun w' hw' => Do_idx u91 sz99 q1052 rfl (at_some e1047).1 (at_some e1047).2.1 rfl rfl) ?_
                refine Mx.XL_pure rfl rfl rfl (fun w' hw' => fa99_0 rfl) ?_
                refine Mx.XL_read oS rfl rfl rfl (fun w' hw' => Do_load one3 rfl (Cells.get ((H.sees hw').item (i := 3) rfl).2.2 (i := 0) rfl)) ?_
                refine Mx.XL_pure rfl rfl rfl (fun w' hw' => fa93_1 rfl) ?_
                refine Mx.XL_read oS rfl rfl rfl (fun w' hw' => Do_load one91 rfl (Cells.get (Blk.cells ((H.sees hw').item (i := 0) rfl)) (i := 1) rfl)) ?_
                refine Mx.XL_pure rfl rfl rfl (fun w' hw' => Do_move (v := .int .i64 g842) rfl) ?_
                obtain ⟨x1058, e1059, hF⟩ := letO_some hF
                refine Mx.XL_pure rfl rfl rfl (fun w' hw' => Do_sub (a := g842) (b := 1) rfl rfl e1059) ?_
                obtain ⟨x1060, e1061, hF⟩ := bindO_some hF
                obtain ⟨b1062, o1063, c1064, cs1065, q1066, h1069, h1067, h1068, h1070⟩ := rd_at (H.item (i := 1) rfl) e1061
                obtain rfl := rSample_open h1069
                have H := H.fz (.at b1062 (o1063 + x1058.toNat * 3) _) ⟨h1067, h1068, h1070⟩
                refine Mx.XL_pure rfl rfl rfl (fun w' hw' => Do_idx u91 sz99 q1066 rfl (at_some e1061).1 (at_some e1061).2.1 rfl rfl) ?_
                refine Mx.XL_pure rfl rfl rfl (fun w' hw' => fa99_0 rfl) ?_
                refine Mx.XL_read oS rfl rfl rfl (fun w' hw' => Do_load one3 rfl (Cells.get ((H.sees hw').item (i := 4) rfl).2.2 (i := 0) rfl)) ?_
                obtain ⟨x1072, e1073, hF⟩ := letO_some hF
                refine Mx.XL_pure rfl rfl rfl (fun w' hw' => Do_as (Do_leq (a := x1046.At) (b := x1060.At) rfl rfl) (congrArg Value.bool e1073)) ?_
                refine Mx.XL_pure rfl rfl rfl (fun w' hw' => Do_pick_t (v := .bool x1072) rfl rfl) ?_
                refine Mx.XL_nil fun w1074 hS => ?_
                have H := H.sees hS
                have H := H1041.rejoin H
                have hR := Option.some.inj hF
                subst hR
                refine (thenQ_n (And.intro ?_ ?_))
                · repeat' (first | with_reducible exact Fr_refl | refine Fr_upd rfl ?_ | refine Fr_over rfl rfl ?_)
                · exact ⟨(), (Sl_cons rfl Sl_nil), H.pick [0, 1] (by decide)⟩
              · have hF := iteB_f c1045 hF
                refine Mx.XL_offp rfl rfl rfl ?_
                refine Mx.XL_offr oS rfl rfl rfl ?_
                refine Mx.XL_offp rfl rfl rfl ?_
                refine Mx.XL_offp rfl rfl rfl ?_
                refine Mx.XL_offp rfl rfl rfl ?_
                refine Mx.XL_offr oS rfl rfl rfl ?_
                refine Mx.XL_offp rfl rfl rfl ?_
                refine Mx.XL_offr oS rfl rfl rfl ?_
                refine Mx.XL_offp rfl rfl rfl ?_
                refine Mx.XL_offp rfl rfl rfl ?_
                refine Mx.XL_offp rfl rfl rfl ?_
                refine Mx.XL_offp rfl rfl rfl ?_
                refine Mx.XL_offr oS rfl rfl rfl ?_
                refine Mx.XL_offp rfl rfl rfl ?_
                refine Mx.XL_pure rfl rfl rfl (fun w' hw' => Do_pick_f (v := .bool false) rfl rfl) ?_
                refine Mx.XL_nil fun w1075 hS => ?_
                have H := H.sees hS
                have H := H1041.rejoin H
                have hR := Option.some.inj hF
                subst hR
                refine (thenQ_n (And.intro ?_ ?_))
                · repeat' (first | with_reducible exact Fr_refl | refine Fr_upd rfl ?_ | refine Fr_over rfl rfl ?_)
                · exact ⟨(), (Sl_cons rfl Sl_nil), H.pick [0, 1] (by decide)⟩
            · rintro _ ρ w1039 H
              have hF := hK1040
              refine WP_ifb (b := g1038) rfl (fun c1076 => ?_) (fun c1076 => ?_)
              · have hF := iteB_t c1076 hF
                refine WP_seq_k fun K1077 hK1077 => ?_
                refine WP_region ?_
                refine RL_do rfl rfl (Do_move (v := .int .i64 g842) rfl) ?_
                refine RL_do rfl rfl (Do_assign (v := .int .i64 g842) rfl) ?_
                refine RL_do rfl rfl (Do_assign (v := .int .i64 10) rfl) ?_
                refine (RL_nil (thenQ_n (hK1077 _ _ ?_)))
                have hR := Option.some.inj hF
                subst hR
                refine (WP_ret (blockQ_r (thenQ_r (thenQ_r (blockQ_r (thenQ_r (post2 (v1 := .int .i64 g842) (v2 := .int .i64 10) rfl rfl rfl ?_)))))))
                exact ⟨rfl, H.pick [] (by decide)⟩
              · have hF := iteB_f c1076 hF
                refine (WP_skip (blockQ_n (thenQ_n (hK955 _ _ ?_))))
                refine WP_region ?_
                refine RL_do rfl rfl (Do_move (v := .int .i64 g842) rfl) ?_
                obtain ⟨x1078, e1079, hF⟩ := letO_some hF
                refine RL_do rfl rfl (Do_add (a := g842) (b := 1) rfl rfl e1079) ?_
                refine RL_do rfl rfl (Do_assign (v := .int .i64 x1078) rfl) ?_
                refine (RL_nil (thenQ_n (And.intro ?_ ?_)))
                · repeat' (first | with_reducible exact Fr_refl | refine Fr_upd rfl ?_ | refine Fr_over rfl rfl ?_)
                · exact ⟨(n848, x1078), (Sl_cons rfl Sl_nil), ⟨H.pick [0, 1] (by decide), hF⟩, Nat.lt_succ_self _⟩
        · have hF := iteB_f c867 hF
          refine (WP_exit (thenQ_x (thenQ_x (blockQ_eq (thenQ_n (And.intro ?_ ?_))))))
          · repeat' (first | with_reducible exact Fr_refl | refine Fr_upd rfl ?_ | refine Fr_over rfl rfl ?_)
          · exact ⟨(), Sl_nil, ⟨H.pick [] (by decide), hF⟩⟩
      · rintro _ ρ w445 ⟨H, hF⟩
        have hF := join_body ek447 hF
        refine WP_seq_k fun K1080 hK1080 => ?_
        refine WP_region ?_
        refine RL_do rfl rfl (Do_assign (v := .int .i64 (-1)) rfl) ?_
        refine RL_do rfl rfl (Do_assign (v := .int .i64 0) rfl) ?_
        refine (RL_nil (thenQ_n (hK1080 _ _ ?_)))
        have hR := Option.some.inj hF
        subst hR
        refine (WP_ret (post2 (v1 := .int .i64 (-1)) (v2 := .int .i64 0) rfl rfl rfl ?_))
        exact ⟨rfl, H.pick [] (by decide)⟩
end Go.Proofs.YtbjhondbheijiaaDoor.L
namespace Go.Proofs.YtbjhondbheijiaaDoor.L
open Go.RowKit Go.OB Go.Lf
/- orangebox/orangeboxref5.Check -/
set_option maxHeartbeats 4000000 in
theorem F_ref5_Check_w (p0 : Series) (v1 : Value) (r : Int) (hF : F_ref5_Check p0 = some r) (O S : List Nat) (w : World) (H : Hd O w w S [.fz (.sl rSample v1 p0.Samples)]) :
    Calls Tryd.prog 69 ([.agg [.int .i64 p0.Den, v1].toArray] : List Value).toArray w fun e w' => e = .returned (.int .i64 r) ∧ Hd O w w' S [] := by
  unfold F_ref5_Check at hF
  refine calls_of_WP 11 Tryd.func69 rfl rfl rfl ?_
  refine WP_seq_k fun K3 hK3 => ?_
  refine WP_region ?_
  refine RL_ex rfl rfl (Lx_box (cs := [.int .i64 p0.Den, v1]) rfl H) ?_
  rintro _ w6 ⟨b4, rfl, H⟩
  refine RL_do rfl rfl (Do_assign (v := .int .i64 0) rfl) ?_
  refine (RL_nil (thenQ_n (hK3 _ _ ?_)))
  refine WP_seq_k fun K7 hK7 => ?_
  refine WP_region ?_
  refine RL_do rfl rfl (Do_as (Do_loads (cs := [.int .i64 p0.Den, v1]) agg93 rfl sz93 rfl (Blk.cells (H.item (i := 1) rfl))) rfl) ?_
  have H8 := H
  obtain ⟨⟨x9, x10⟩, e11, hF⟩ := bindO_some hF
  refine RL_call rfl rfl (DoC_func en86 rfl) (F_ref5_fault_w p0 v1 _ e11 _ _ _ (H.enter [] [0] (by decide) rfl)) ?_
  rintro _ w12 ⟨rfl, G13⟩
  have H := H8.step (G13.only : Only [] _ _)
  refine ⟨_, rfl, ?_⟩
  refine RL_do rfl rfl (Do_move (v := .tuple #[.int .i64 x9, .int .i64 x10]) rfl) ?_
  refine RL_do rfl rfl (Do_extract (v := .int .i64 x9) rfl rfl) ?_
  refine RL_do rfl rfl (Do_extract (v := .int .i64 x10) rfl rfl) ?_
  refine RL_do rfl rfl (Do_assign (v := .int .i64 x9) rfl) ?_
  refine RL_do rfl rfl (Do_assign (v := .int .i64 x10) rfl) ?_
  refine (RL_nil (thenQ_n (hK7 _ _ ?_)))
  refine WP_seq_k fun K14 hK14 => ?_
  refine WP_region ?_
  refine RL_do rfl rfl (Do_move (v := .int .i64 x10) rfl) ?_
  refine RL_do rfl rfl (Do_assign (v := .int .i64 x10) rfl) ?_
  refine (RL_nil (thenQ_n (hK14 _ _ ?_)))
  have hR := Option.some.inj hF
  subst hR
  refine (WP_ret (post1 (v1 := .int .i64 x10) rfl rfl ?_))
  exact ⟨rfl, H.pick [] (by decide)⟩
end Go.Proofs.YtbjhondbheijiaaDoor.L
namespace Go.Proofs.YtbjhondbheijiaaDoor.L
open Go.RowKit Go.OB Go.Lf
/- orangebox/orangeboxref6.outside -/
set_option maxHeartbeats 4000000 in
theorem F_ref6_outside_w (p0 : Int) (p1 : Int) (p2 : Int) (r : Bool) (hF : F_ref6_outside p0 p1 p2 = some r) (O S : List Nat) (w : World) (H : Hd O w w S []) :
    Calls Tryd.prog 70 ([.int .i64 p0, .int .i64 p1, .int .i64 p2] : List Value).toArray w fun e w' => e = .returned (.bool r) ∧ Hd O w w' S [] := by
  unfold F_ref6_outside at hF
  refine calls_of_WP 15 Tryd.func70 rfl rfl rfl ?_
  refine WP_seq_k fun K1 hK1 => ?_
  refine WP_region ?_
  refine RL_do rfl rfl (Do_assign (v := .bool false) rfl) ?_
  refine (RL_nil (thenQ_n (hK1 _ _ ?_)))
  obtain ⟨g7, hF, hK9⟩ := bindO_some hF
  refine WP_seqS [6, 7, 8, 9, 10, 11, 12, 13, 14] (fun (g : Unit) => [(6, .bool g7)]) (fun g wl => Hd O w wl S []) ?_ ?_
  · skip
    refine WP_region ?_
    refine RL_do rfl rfl (Do_move (v := .int .i64 p0) rfl) ?_
    refine RL_do rfl rfl (Do_move (v := .int .i64 p1) rfl) ?_
    obtain ⟨x10, e11, hF⟩ := letO_some hF
    refine RL_do rfl rfl (Do_as (Do_lss (a := p0) (b := p1) rfl rfl) (congrArg Value.bool e11)) ?_
    refine RL_splitb (b := x10) rfl rfl rfl (fun c12 => ?_) (fun c12 => ?_)
    · have hF := iteB_t c12 hF
      refine RL_off rfl rfl ?_
      refine RL_off rfl rfl ?_
      refine RL_off rfl rfl ?_
      refine RL_do rfl rfl (Do_pick_t (v := .bool true) rfl rfl) ?_
      refine RL_do rfl rfl (Do_assign (v := .bool true) rfl) ?_
      have hR := Option.some.inj hF
      subst hR
      refine (RL_nil (thenQ_n (And.intro ?_ ?_)))
      · repeat' (first | with_reducible exact Fr_refl | refine Fr_upd rfl ?_ | refine Fr_over rfl rfl ?_)
      · exact ⟨(), (Sl_cons rfl Sl_nil), H.pick [] (by decide)⟩
    · have hF := iteB_f c12 hF
      refine RL_do rfl rfl (Do_move (v := .int .i64 p0) rfl) ?_
      refine RL_do rfl rfl (Do_move (v := .int .i64 p2) rfl) ?_
      obtain ⟨x13, e14, hF⟩ := letO_some hF
      refine RL_do rfl rfl (Do_as (Do_gtr (a := p0) (b := p2) rfl rfl) (congrArg Value.bool e14)) ?_
      refine RL_do rfl rfl (Do_pick_f (v := .bool x13) rfl rfl) ?_
      refine RL_do rfl rfl (Do_assign (v := .bool x13) rfl) ?_
      have hR := Option.some.inj hF
      subst hR
      refine (RL_nil (thenQ_n (And.intro ?_ ?_)))
      · repeat' (first | with_reducible exact Fr_refl | refine Fr_upd rfl ?_ | refine Fr_over rfl rfl ?_)
      · exact ⟨(), (Sl_cons rfl Sl_nil), H.pick [] (by decide)⟩
  · rintro _ ρ w8 H
    have hF := hK9
    have hR := Option.some.inj hF
    subst hR
    refine (WP_ret (post1 (v1 := .bool g7) rfl rfl ?_))
    exact ⟨rfl, H.pick [] (by decide)⟩
end Go.Proofs.YtbjhondbheijiaaDoor.L
namespace Go.Proofs.YtbjhondbheijiaaDoor.L
open Go.RowKit Go.OB Go.Lf
/- orangebox/orangeboxref6.CheckTracks -/
set_option maxHeartbeats 4000000 in
theorem F_ref6_CheckTracks_w (p0 : List Track) (v1 : Value) (r : Int) (hF : F_ref6_CheckTracks p0 = some r) (O S : List Nat) (w : World) (H : Hd O w w S [.fz (.sl rTrack v1 p0)]) :
    Calls Tryd.prog 47 ([v1] : List Value).toArray w fun e w' => e = .returned (.int .i64 r) ∧ Hd O w w' S [] := by
  unfold F_ref6_CheckTracks at hF
  refine calls_of_WP 53 Tryd.func47 rfl rfl rfl ?_
  refine WP_seq_k fun K3 hK3 => ?_
  refine WP_region ?_
  refine RL_do rfl rfl (Do_assign (v := .int .i64 0) rfl) ?_
  refine (RL_nil (thenQ_n (hK3 _ _ ?_)))
  refine WP_seq_k fun K14 hK14 => ?_
  refine WP_seq_k fun K15 hK15 => ?_
  refine WP_region ?_
  refine RL_do rfl rfl (Do_move (v := v1) rfl) ?_
  obtain ⟨x16, e17, hF⟩ := letO_some hF
  obtain ⟨a18, c19, q20⟩ := SlF.len ((H.item (i := 0) rfl))
  refine RL_do rfl rfl (Do_as (Do_len u45 q20) (congrArg (Value.int .i64) e17)) ?_
  obtain ⟨x21, e22, hF⟩ := letO_some hF
  refine RL_do rfl rfl (Do_as (Do_gtr (a := x16) (b := 50) rfl rfl) (congrArg Value.bool e22)) ?_
  refine (RL_nil (thenQ_n (hK15 _ _ ?_)))
  refine WP_ifb (b := x21) rfl (fun c23 => ?_) (fun c23 => ?_)
  · have hF := iteB_t c23 hF
    refine WP_seq_k fun K24 hK24 => ?_
    refine WP_region ?_
    refine RL_do rfl rfl (Do_assign (v := .int .i64 3) rfl) ?_
    refine (RL_nil (thenQ_n (hK24 _ _ ?_)))
    have hR := Option.some.inj hF
    subst hR
    refine (WP_ret (thenQ_r (post1 (v1 := .int .i64 3) rfl rfl ?_)))
    exact ⟨rfl, H.pick [] (by decide)⟩
  · have hF := iteB_f c23 hF
    refine (WP_skip (thenQ_n (hK14 _ _ ?_)))
    obtain ⟨k2074, ek2075, hF⟩ := joinO_some hF
    refine WP_seqS [2, 3, 4, 5, 9, 10, 11, 12, 13, 14, 15, 16, 17, 18, 19, 20, 21, 22, 23, 24, 25, 26, 27, 28, 29, 30, 31, 32, 33, 34, 35, 36, 37, 38, 39, 40, 41, 42, 43, 44, 45, 46, 47, 48, 49, 50, 51, 52] (fun (g : Unit) => []) (fun g wl => Hd O w wl S [] ∧ k2074 () = some r) ?_ ?_
    · skip
      refine WP_seq_k fun K2076 hK2076 => ?_
      refine WP_region ?_
      refine RL_do rfl rfl (Do_assign (v := .int .i64 0) rfl) ?_
      refine (RL_nil (thenQ_n (hK2076 _ _ ?_)))
      refine WP_block ?_
      unfold F_ref6_CheckTracks_L1 at hF
      obtain ⟨B4119, n4120, eB4121, hF⟩ := loopO_some hF
      refine WP_loopS [2, 3, 4, 5, 9, 10, 11, 12, 13, 14, 15, 16, 17, 18, 19, 20, 21, 22, 23, 24, 25, 26, 27, 28, 29, 30, 31, 32, 33, 34, 35, 36, 37, 38, 39, 40, 41, 42, 43, 44, 45, 46, 47, 48, 49, 50, 51, 52] (fun (g : Nat × Int) => [(3, .int .i64 g.2)]) (fun g wl => Hd O w wl S [.fz (.sl rTrack v1 p0)] ∧ loopN B4119 g.1 g.2 = some r) (fun g => g.1) (n4120, 0) (Sl_cons rfl Sl_nil) ⟨H.pick [0] (by decide), hF⟩ ?_
      clear H hF
      rintro ⟨n4120, g4118⟩ ρ w4123 ⟨H, hF⟩
      obtain ⟨n4124, rfl, hF⟩ := loopN_pos hF
      have hF := loop_body eB4121 hF
      refine WP_seq_k fun K4134 hK4134 => ?_
      refine WP_seq_k fun K4135 hK4135 => ?_
      refine WP_region ?_
      refine RL_do rfl rfl (Do_move (v := .int .i64 g4118) rfl) ?_
      refine RL_do rfl rfl (Do_move (v := v1) rfl) ?_
      obtain ⟨x4136, e4137, hF⟩ := letO_some hF
      obtain ⟨a4138, c4139, q4140⟩ := SlF.len ((H.item (i := 0) rfl))
      refine RL_do rfl rfl (Do_as (Do_len u45 q4140) (congrArg (Value.int .i64) e4137)) ?_
      obtain ⟨x4141, e4142, hF⟩ := letO_some hF
      refine RL_do rfl rfl (Do_as (Do_lss (a := g4118) (b := x4136) rfl rfl) (congrArg Value.bool e4142)) ?_
      refine (RL_nil (thenQ_n (hK4135 _ _ ?_)))
      refine WP_ifb (b := x4141) rfl (fun c4143 => ?_) (fun c4143 => ?_)
      · have hF := iteB_t c4143 hF
        refine (WP_skip (thenQ_n (hK4134 _ _ ?_)))
        obtain ⟨k4643, ek4644, hF⟩ := joinO_some hF
        refine WP_seqS [2, 4, 5, 15, 16, 17, 18, 19, 20, 21, 22, 23, 24, 25, 26, 27, 28, 29, 30, 31, 32, 33, 34, 35, 36, 37, 38, 39, 40, 41, 42, 43, 44, 45, 46, 47, 48, 49, 50, 51, 52] (fun (g : Unit) => []) (fun g wl => Hd O w wl S [.fz (.sl rTrack v1 p0)] ∧ k4643 () = some r) ?_ ?_
        · skip
          refine WP_block ?_
          refine WP_seq_k fun K4670 hK4670 => ?_
          refine WP_seq_k fun K4671 hK4671 => ?_
          refine WP_region ?_
          refine RL_do rfl rfl (Do_move (v := v1) rfl) ?_
          refine RL_do rfl rfl (Do_move (v := .int .i64 g4118) rfl) ?_
          obtain ⟨x4672, e4673, hF⟩ := bindO_some hF
          obtain ⟨b4674, o4675, c4676, cs4677, q4678, h4681, h4679, h4680, h4682⟩ := rd_at (H.item (i := 0) rfl) e4673
          obtain ⟨v4683, rfl, h4684⟩ := rTrack_open h4681
          have H := H.fzs [.at b4674 (o4675 + g4118.toNat * 4) _, .sl rSample v4683 x4672.Series.Samples] ⟨⟨h4679, h4680, h4682⟩, h4684, trivial⟩
          refine RL_do rfl rfl (Do_idx u45 sz95 q4678 rfl (at_some e4673).1 (at_some e4673).2.1 rfl rfl) ?_
          refine RL_do rfl rfl (fa95_0 rfl) ?_
          refine RL_do rfl rfl (Do_load one9 rfl (Cells.get (H.item (i := 1) rfl).2.2 (i := 0) rfl)) ?_
          have H4687 := H
          obtain ⟨x4688, e4689, hF⟩ := bindO_some hF
          refine RL_call rfl rfl (DoC_func en46 rfl) (F_ref6_IsName_w x4672.Name _ e4689 _ _ _ (H.enter [] [] (by decide) rfl)) ?_
          rintro _ w4690 ⟨rfl, G4691⟩
          have H := H4687.step (G4691.only : Only [] _ _)
          refine ⟨_, rfl, ?_⟩
          obtain ⟨x4692, e4693, hF⟩ := letO_some hF
          refine RL_do rfl rfl (Do_as (Do_not (p := x4688) rfl) (congrArg Value.bool e4693)) ?_
          refine (RL_nil (thenQ_n (hK4671 _ _ ?_)))
          refine WP_ifb (b := x4692) rfl (fun c4694 => ?_) (fun c4694 => ?_)
          · have hF := iteB_t c4694 hF
            refine WP_seq_k fun K4695 hK4695 => ?_
            refine WP_region ?_
            refine RL_do rfl rfl (Do_assign (v := .int .i64 8) rfl) ?_
            refine (RL_nil (thenQ_n (hK4695 _ _ ?_)))
            have hR := Option.some.inj hF
            subst hR
            refine (WP_ret (thenQ_r (blockQ_r (thenQ_r (thenQ_r (blockQ_r (thenQ_r (post1 (v1 := .int .i64 8) rfl rfl ?_))))))))
            exact ⟨rfl, H.pick [] (by decide)⟩
          · have hF := iteB_f c4694 hF
            refine (WP_skip (thenQ_n (hK4670 _ _ ?_)))
            obtain ⟨k4881, ek4882, hF⟩ := joinO_some hF
            refine WP_seqS [2, 4, 22, 23, 24, 25, 26, 27, 28, 29, 30, 31, 32, 33, 34, 35, 36, 37] (fun (g : Unit) => []) (fun g wl => Hd O w wl S [.fz (.sl rTrack v1 p0)] ∧ k4881 () = some r) ?_ ?_
            · skip
              refine WP_seq_k fun K4883 hK4883 => ?_
              refine WP_region ?_
              refine RL_do rfl rfl (Do_assign (v := .int .i64 0) rfl) ?_
              refine (RL_nil (thenQ_n (hK4883 _ _ ?_)))
              refine WP_block ?_
              unfold F_ref6_CheckTracks_L2 at hF
              obtain ⟨B5062, n5063, eB5064, hF⟩ := loopO_some hF
              refine WP_loopS [2, 4, 22, 23, 24, 25, 26, 27, 28, 29, 30, 31, 32, 33, 34, 35, 36, 37] (fun (g : Nat × Int) => [(4, .int .i64 g.2)]) (fun g wl => Hd O w wl S [.fz (.sl rTrack v1 p0)] ∧ loopN B5062 g.1 g.2 = some r) (fun g => g.1) (n5063, 0) (Sl_cons rfl Sl_nil) ⟨H.pick [0] (by decide), hF⟩ ?_
              clear H hF
              rintro ⟨n5063, g5061⟩ ρ w5066 ⟨H, hF⟩
              obtain ⟨n5067, rfl, hF⟩ := loopN_pos hF
              have hF := loop_body eB5064 hF
              refine WP_seq_k fun K5072 hK5072 => ?_
              refine WP_seq_k fun K5073 hK5073 => ?_
              refine WP_region ?_
              refine RL_do rfl rfl (Do_move (v := .int .i64 g5061) rfl) ?_
              refine RL_do rfl rfl (Do_move (v := .int .i64 g4118) rfl) ?_
              obtain ⟨x5074, e5075, hF⟩ := letO_some hF
              refine RL_do rfl rfl (Do_as (Do_lss (a := g5061) (b := g4118) rfl rfl) (congrArg Value.bool e5075)) ?_
              refine (RL_nil (thenQ_n (hK5073 _ _ ?_)))
              refine WP_ifb (b := x5074) rfl (fun c5076 => ?_) (fun c5076 => ?_)
              · have hF := iteB_t c5076 hF
                refine (WP_skip (thenQ_n (hK5072 _ _ ?_)))
                refine WP_seq_k fun K5115 hK5115 => ?_
                refine WP_block ?_
                refine WP_seq_k fun K5116 hK5116 => ?_
                have H5117 := H
                have H := H.rebase
                have H5118 := H
                refine WP_mix0 H [0, 1, 2, 3, 4, 5, 6, 7, 8, 9, 10] [.pure, .pure, .pure, .pure, .read, .pure, .pure, .pure, .pure, .read, .pure] mixed (by kernel_rfl) (by kernel_rfl) (by kernel_rfl) rfl ?_
                refine Mx.XL_pure rfl rfl rfl (fun w' hw' => Do_move (v := v1) rfl) ?_
                refine Mx.XL_pure rfl rfl rfl (fun w' hw' => Do_move (v := .int .i64 g5061) rfl) ?_
                obtain ⟨x5119, e5120, hF⟩ := bindO_some hF
                obtain ⟨b5121, o5122, c5123, cs5124, q5125, h5128, h5126, h5127, h5129⟩ := rd_at (H.item (i := 0) rfl) e5120
                obtain ⟨v5130, rfl, h5131⟩ := rTrack_open h5128
                have H := H.fzs [.at b5121 (o5122 + g5061.toNat * 4) _, .sl rSample v5130 x5119.Series.Samples] ⟨⟨h5126, h5127, h5129⟩, h5131, trivial⟩
                refine Mx.XL_pure rfl rfl rfl (fun w' hw' => Do_idx u45 sz95 q5125 rfl (at_some e5120).1 (at_some e5120).2.1 rfl rfl) ?_
                refine Mx.XL_pure rfl rfl rfl (fun w' hw' => fa95_0 rfl) ?_
                refine Mx.XL_read oS rfl rfl rfl (fun w' hw' => Do_load one9 rfl (Cells.get ((H.sees hw').item (i := 1) rfl).2.2 (i := 0) rfl)) ?_
                refine Mx.XL_pure rfl rfl rfl (fun w' hw' => Do_move (v := v1) rfl) ?_
                refine Mx.XL_pure rfl rfl rfl (fun w' hw' => Do_move (v := .int .i64 g4118) rfl) ?_
                obtain ⟨x5134, e5135, hF⟩ := bindO_some hF
                obtain ⟨b5136, o5137, c5138, cs5139, q5140, h5143, h5141, h5142, h5144⟩ := rd_at (H.item (i := 0) rfl) e5135
                obtain ⟨v5145, rfl, h5146⟩ := rTrack_open h5143
                have H := H.fzs [.at b5136 (o5137 + g4118.toNat * 4) _, .sl rSample v5145 x5134.Series.Samples] ⟨⟨h5141, h5142, h5144⟩, h5146, trivial⟩
                refine Mx.XL_pure rfl rfl rfl (fun w' hw' => Do_idx u45 sz95 q5140 rfl (at_some e5135).1 (at_some e5135).2.1 rfl rfl) ?_
                refine Mx.XL_pure rfl rfl rfl (fun w' hw' => fa95_0 rfl) ?_
                refine Mx.XL_read oS rfl rfl rfl (fun w' hw' => Do_load one9 rfl (Cells.get ((H.sees hw').item (i := 3) rfl).2.2 (i := 0) rfl)) ?_
                obtain ⟨x5149, e5150, hF⟩ := letO_some hF
                refine Mx.XL_pure rfl rfl rfl (fun w' hw' => Do_as (Do_eqls (s1 := x5119.Name) (s2 := x5134.Name) rfl rfl) (congrArg Value.bool e5150)) ?_
                refine Mx.XL_nil fun w5151 hS => ?_
                have H := H.sees hS
                have H := H5117.rejoin H
                refine (thenQ_n (hK5116 _ _ ?_))
                refine WP_ifb (b := x5149) rfl (fun c5152 => ?_) (fun c5152 => ?_)
                · have hF := iteB_t c5152 hF
                  refine WP_seq_k fun K5153 hK5153 => ?_
                  refine WP_region ?_
                  refine RL_do rfl rfl (Do_assign (v := .int .i64 5) rfl) ?_
                  refine (RL_nil (thenQ_n (hK5153 _ _ ?_)))
                  have hR := Option.some.inj hF
                  subst hR
                  refine (WP_ret (blockQ_r (thenQ_r (thenQ_r (blockQ_r (thenQ_r (blockQ_r (thenQ_r (thenQ_r (blockQ_r (thenQ_r (post1 (v1 := .int .i64 5) rfl rfl ?_))))))))))))
                  exact ⟨rfl, H.pick [] (by decide)⟩
                · have hF := iteB_f c5152 hF
                  refine (WP_skip (blockQ_n (thenQ_n (hK5115 _ _ ?_))))
                  refine WP_region ?_
                  refine RL_do rfl rfl (Do_move (v := .int .i64 g5061) rfl) ?_
                  obtain ⟨x5154, e5155, hF⟩ := letO_some hF
                  refine RL_do rfl rfl (Do_add (a := g5061) (b := 1) rfl rfl e5155) ?_
                  refine RL_do rfl rfl (Do_assign (v := .int .i64 x5154) rfl) ?_
                  refine (RL_nil (thenQ_n (And.intro ?_ ?_)))
                  · repeat' (first | with_reducible exact Fr_refl | refine Fr_upd rfl ?_ | refine Fr_over rfl rfl ?_)
                  · exact ⟨(n5067, x5154), (Sl_cons rfl Sl_nil), ⟨H.pick [0] (by decide), hF⟩, Nat.lt_succ_self _⟩
              · have hF := iteB_f c5076 hF
                refine (WP_exit (thenQ_x (thenQ_x (blockQ_eq (thenQ_n (And.intro ?_ ?_))))))
                · repeat' (first | with_reducible exact Fr_refl | refine Fr_upd rfl ?_ | refine Fr_over rfl rfl ?_)
                · exact ⟨(), Sl_nil, ⟨H.pick [0] (by decide), hF⟩⟩
            · rintro _ ρ w4880 ⟨H, hF⟩
              have hF := join_body ek4882 hF
              refine WP_seq_k fun K5182 hK5182 => ?_
              refine WP_seq_k fun K5183 hK5183 => ?_
              refine WP_region ?_
              refine RL_do rfl rfl (Do_move (v := v1) rfl) ?_
              refine RL_do rfl rfl (Do_move (v := .int .i64 g4118) rfl) ?_
              obtain ⟨x5184, e5185, hF⟩ := bindO_some hF
              obtain ⟨b5186, o5187, c5188, cs5189, q5190, h5193, h5191, h5192, h5194⟩ := rd_at (H.item (i := 0) rfl) e5185
              obtain ⟨v5195, rfl, h5196⟩ := rTrack_open h5193
              have H := H.fzs [.at b5186 (o5187 + g4118.toNat * 4) _, .sl rSample v5195 x5184.Series.Samples] ⟨⟨h5191, h5192, h5194⟩, h5196, trivial⟩
              refine RL_do rfl rfl (Do_idx u45 sz95 q5190 rfl (at_some e5185).1 (at_some e5185).2.1 rfl rfl) ?_
              refine RL_do rfl rfl (fa95_1 rfl) ?_
              refine RL_do rfl rfl (Do_as (Do_loads (cs := [.int .i64 x5184.Series.Den, v5195]) agg93 rfl sz93 rfl (Cells.drop (H.item (i := 1) rfl).2.2 1 2)) rfl) ?_
              have H5199 := H
              obtain ⟨x5200, e5201, hF⟩ := bindO_some hF
              refine RL_call rfl rfl (DoC_func en69 rfl) (F_ref5_Check_w x5184.Series v5195 _ e5201 _ _ _ (H.enter [] [2] (by decide) rfl)) ?_
              rintro _ w5202 ⟨rfl, G5203⟩
              have H := H5199.step (G5203.only : Only [] _ _)
              refine ⟨_, rfl, ?_⟩
              refine RL_do rfl rfl (Do_assign (v := .int .i64 x5200) rfl) ?_
              refine (RL_nil (thenQ_n (hK5183 _ _ ?_)))
              refine WP_seq_k fun K5204 hK5204 => ?_
              refine WP_region ?_
              refine RL_do rfl rfl (Do_move (v := .int .i64 x5200) rfl) ?_
              obtain ⟨x5205, e5206, hF⟩ := letO_some hF
              refine RL_do rfl rfl (Do_as (Do_neq (a := x5200) (b := 0) rfl rfl) (congrArg Value.bool e5206)) ?_
              refine (RL_nil (thenQ_n (hK5204 _ _ ?_)))
              refine WP_ifb (b := x5205) rfl (fun c5207 => ?_) (fun c5207 => ?_)
              · have hF := iteB_t c5207 hF
                refine WP_seq_k fun K5208 hK5208 => ?_
                refine WP_region ?_
                refine RL_do rfl rfl (Do_move (v := .int .i64 x5200) rfl) ?_
                refine RL_do rfl rfl (Do_assign (v := .int .i64 x5200) rfl) ?_
                refine (RL_nil (thenQ_n (hK5208 _ _ ?_)))
                have hR := Option.some.inj hF
                subst hR
                refine (WP_ret (thenQ_r (blockQ_r (thenQ_r (thenQ_r (blockQ_r (thenQ_r (post1 (v1 := .int .i64 x5200) rfl rfl ?_))))))))
                exact ⟨rfl, H.pick [] (by decide)⟩
              · have hF := iteB_f c5207 hF
                refine (WP_skip (thenQ_n (hK5182 _ _ ?_)))
                refine WP_seq_k fun K5209 hK5209 => ?_
                refine WP_region ?_
                refine RL_do rfl rfl (Do_move (v := v1) rfl) ?_
                refine RL_do rfl rfl (Do_move (v := .int .i64 g4118) rfl) ?_
                obtain ⟨x5210, e5211, hF⟩ := bindO_some hF
                obtain ⟨b5212, o5213, c5214, cs5215, q5216, h5219, h5217, h5218, h5220⟩ := rd_at (H.item (i := 0) rfl) e5211
                obtain ⟨v5221, rfl, h5222⟩ := rTrack_open h5219
                have H := H.fzs [.at b5212 (o5213 + g4118.toNat * 4) _, .sl rSample v5221 x5210.Series.Samples] ⟨⟨h5217, h5218, h5220⟩, h5222, trivial⟩
                refine RL_do rfl rfl (Do_idx u45 sz95 q5216 rfl (at_some e5211).1 (at_some e5211).2.1 rfl rfl) ?_
                refine RL_do rfl rfl (fa95_2 rfl) ?_
                refine RL_do rfl rfl (Do_load one3 rfl (Cells.get (H.item (i := 3) rfl).2.2 (i := 3) rfl)) ?_
                have H5225 := H
                obtain ⟨x5226, e5227, hF⟩ := bindO_some hF
                refine RL_call rfl rfl (DoC_func en70 rfl) (F_ref6_outside_w x5210.Long 0 1099511627776 _ e5227 _ _ _ (H.enter [] [] (by decide) rfl)) ?_
                rintro _ w5228 ⟨rfl, G5229⟩
                have H := H5225.step (G5229.only : Only [] _ _)
                refine ⟨_, rfl, ?_⟩
                refine (RL_nil (thenQ_n (hK5209 _ _ ?_)))
                refine WP_ifb (b := x5226) rfl (fun c5230 => ?_) (fun c5230 => ?_)
                · have hF := iteB_t c5230 hF
                  refine WP_seq_k fun K5231 hK5231 => ?_
                  refine WP_region ?_
                  refine RL_do rfl rfl (Do_assign (v := .int .i64 9) rfl) ?_
                  refine (RL_nil (thenQ_n (hK5231 _ _ ?_)))
                  have hR := Option.some.inj hF
                  subst hR
                  refine (WP_ret (blockQ_r (thenQ_r (thenQ_r (blockQ_r (thenQ_r (post1 (v1 := .int .i64 9) rfl rfl ?_)))))))
                  exact ⟨rfl, H.pick [] (by decide)⟩
                · have hF := iteB_f c5230 hF
                  refine (WP_skip (blockQ_n (thenQ_n (And.intro ?_ ?_))))
                  · repeat' (first | with_reducible exact Fr_refl | refine Fr_upd rfl ?_ | refine Fr_over rfl rfl ?_)
                  · exact ⟨(), Sl_nil, ⟨H.pick [0] (by decide), hF⟩⟩
        · rintro _ ρ w4642 ⟨H, hF⟩
          have hF := join_body ek4644 hF
          refine WP_region ?_
          refine RL_do rfl rfl (Do_move (v := .int .i64 g4118) rfl) ?_
          obtain ⟨x5232, e5233, hF⟩ := letO_some hF
          refine RL_do rfl rfl (Do_add (a := g4118) (b := 1) rfl rfl e5233) ?_
          refine RL_do rfl rfl (Do_assign (v := .int .i64 x5232) rfl) ?_
          refine (RL_nil (thenQ_n (And.intro ?_ ?_)))
          · repeat' (first | with_reducible exact Fr_refl | refine Fr_upd rfl ?_ | refine Fr_over rfl rfl ?_)
          · exact ⟨(n4124, x5232), (Sl_cons rfl Sl_nil), ⟨H.pick [0] (by decide), hF⟩, Nat.lt_succ_self _⟩
      · have hF := iteB_f c4143 hF
        refine (WP_exit (thenQ_x (thenQ_x (blockQ_eq (thenQ_n (And.intro ?_ ?_))))))
        · repeat' (first | with_reducible exact Fr_refl | refine Fr_upd rfl ?_ | refine Fr_over rfl rfl ?_)
        · exact ⟨(), Sl_nil, ⟨H.pick [] (by decide), hF⟩⟩
    · rintro _ ρ w2073 ⟨H, hF⟩
      have hF := join_body ek2075 hF
      refine WP_seq_k fun K5234 hK5234 => ?_
      refine WP_region ?_
      refine RL_do rfl rfl (Do_assign (v := .int .i64 0) rfl) ?_
      refine (RL_nil (thenQ_n (hK5234 _ _ ?_)))
      have hR := Option.some.inj hF
      subst hR
      refine (WP_ret (post1 (v1 := .int .i64 0) rfl rfl ?_))
      exact ⟨rfl, H.pick [] (by decide)⟩
end Go.Proofs.YtbjhondbheijiaaDoor.L
namespace Go.Proofs.YtbjhondbheijiaaDoor.L
open Go.RowKit Go.OB Go.Lf
/- orangebox/orangeboxref9.CheckFlight -/
set_option maxHeartbeats 4000000 in
theorem F_ref9_CheckFlight_w (p0 : Flight) (v1 : Value) (r : Int) (hF : F_ref9_CheckFlight p0 = some r) (O S : List Nat) (w : World) (H : Hd O w w S [.fz (.sl rTrack v1 p0.Tracks)]) :
    Calls Tryd.prog 20 ([.agg [.string (bs p0.Tail), .string (bs p0.Route), .int .i64 p0.Day, .int .i64 p0.From, .int .i64 p0.To, v1].toArray] : List Value).toArray w fun e w' => e = .returned (.int .i64 r) ∧ Hd O w w' S [] := by
  unfold F_ref9_CheckFlight at hF
  refine calls_of_WP 54 Tryd.func20 rfl rfl rfl ?_
  refine WP_seq_k fun K3 hK3 => ?_
  refine WP_region ?_
  refine RL_ex rfl rfl (Lx_box (cs := [.string (bs p0.Tail), .string (bs p0.Route), .int .i64 p0.Day, .int .i64 p0.From, .int .i64 p0.To, v1]) rfl H) ?_
  rintro _ w6 ⟨b4, rfl, H⟩
  refine RL_do rfl rfl (Do_assign (v := .int .i64 0) rfl) ?_
  refine (RL_nil (thenQ_n (hK3 _ _ ?_)))
  refine WP_seq_k fun K37 hK37 => ?_
  obtain ⟨g63, hF, hK65⟩ := bindO_some hF
  refine WP_seqS [3, 4, 5, 6, 7, 8, 9, 10, 11, 12, 13, 14, 15, 16, 17] (fun (g : Unit) => [(17, .bool g63)]) (fun g wl => Hd O w wl S [.blk b4 [.string (bs p0.Tail), .string (bs p0.Route), .int .i64 p0.Day, .int .i64 p0.From, .int .i64 p0.To, v1] 47, .fz (.sl rTrack v1 p0.Tracks)]) ?_ ?_
  · skip
    refine WP_region ?_
    refine RL_do rfl rfl (fa47_0 rfl) ?_
    refine RL_do rfl rfl (Do_load one9 rfl (Cells.get (Blk.cells (H.item (i := 1) rfl)) (i := 0) rfl)) ?_
    obtain ⟨x66, e67, hF⟩ := letO_some hF
    refine RL_do rfl rfl (Do_as (Do_neqs (s1 := p0.Tail) (s2 := []) rfl rfl) (congrArg Value.bool e67)) ?_
    refine RL_splitb (b := x66) rfl rfl rfl (fun c68 => ?_) (fun c68 => ?_)
    · have hF := iteB_t c68 hF
      refine RL_do rfl rfl (fa47_0 rfl) ?_
      refine RL_do rfl rfl (Do_load one9 rfl (Cells.get (Blk.cells (H.item (i := 1) rfl)) (i := 0) rfl)) ?_
      have H69 := H
      obtain ⟨x70, e71, hF⟩ := bindO_some hF
      refine RL_call rfl rfl (DoC_func en46 rfl) (F_ref6_IsName_w p0.Tail _ e71 _ _ _ (H.enter [] [] (by decide) rfl)) ?_
      rintro _ w72 ⟨rfl, G73⟩
      have H := H69.step (G73.only : Only [] _ _)
      refine ⟨_, rfl, ?_⟩
      obtain ⟨x74, e75, hF⟩ := letO_some hF
      refine RL_do rfl rfl (Do_as (Do_not (p := x70) rfl) (congrArg Value.bool e75)) ?_
      refine RL_do rfl rfl (Do_pick_t (v := .bool x74) rfl rfl) ?_
      refine RL_splitb (b := x74) rfl rfl rfl (fun c76 => ?_) (fun c76 => ?_)
      · have hF := iteB_t c76 hF
        refine RL_off rfl rfl ?_
        refine RL_off rfl rfl ?_
        refine RL_off rfl rfl ?_
        refine RL_off rfl rfl ?_
        refine RL_do rfl rfl (Do_pick_t (v := .bool true) rfl rfl) ?_
        have hR := Option.some.inj hF
        subst hR
        refine (RL_nil (thenQ_n (And.intro ?_ ?_)))
        · repeat' (first | with_reducible exact Fr_refl | refine Fr_upd rfl ?_ | refine Fr_over rfl rfl ?_)
        · exact ⟨(), (Sl_cons rfl Sl_nil), H.pick [1, 0] (by decide)⟩
      · have hF := iteB_f c76 hF
        refine RL_do rfl rfl (fa47_1 rfl) ?_
        refine RL_do rfl rfl (Do_load one9 rfl (Cells.get (Blk.cells (H.item (i := 1) rfl)) (i := 1) rfl)) ?_
        have H77 := H
        obtain ⟨x78, e79, hF⟩ := bindO_some hF
        refine RL_call rfl rfl (DoC_func en46 rfl) (F_ref6_IsName_w p0.Route _ e79 _ _ _ (H.enter [] [] (by decide) rfl)) ?_
        rintro _ w80 ⟨rfl, G81⟩
        have H := H77.step (G81.only : Only [] _ _)
        refine ⟨_, rfl, ?_⟩
        obtain ⟨x82, e83, hF⟩ := letO_some hF
        refine RL_do rfl rfl (Do_as (Do_not (p := x78) rfl) (congrArg Value.bool e83)) ?_
        refine RL_do rfl rfl (Do_pick_f (v := .bool x82) rfl rfl) ?_
        have hR := Option.some.inj hF
        subst hR
        refine (RL_nil (thenQ_n (And.intro ?_ ?_)))
        · repeat' (first | with_reducible exact Fr_refl | refine Fr_upd rfl ?_ | refine Fr_over rfl rfl ?_)
        · exact ⟨(), (Sl_cons rfl Sl_nil), H.pick [1, 0] (by decide)⟩
    · have hF := iteB_f c68 hF
      refine RL_off rfl rfl ?_
      refine RL_off rfl rfl ?_
      refine RL_off rfl rfl ?_
      refine RL_off rfl rfl ?_
      refine RL_do rfl rfl (Do_pick_f (v := .bool false) rfl rfl) ?_
      refine RL_do rfl rfl (Do_move (v := .bool false) rfl) ?_
      refine RL_do rfl rfl (fa47_1 rfl) ?_
      refine RL_do rfl rfl (Do_load one9 rfl (Cells.get (Blk.cells (H.item (i := 1) rfl)) (i := 1) rfl)) ?_
      have H84 := H
      obtain ⟨x85, e86, hF⟩ := bindO_some hF
      refine RL_call rfl rfl (DoC_func en46 rfl) (F_ref6_IsName_w p0.Route _ e86 _ _ _ (H.enter [] [] (by decide) rfl)) ?_
      rintro _ w87 ⟨rfl, G88⟩
      have H := H84.step (G88.only : Only [] _ _)
      refine ⟨_, rfl, ?_⟩
      obtain ⟨x89, e90, hF⟩ := letO_some hF
      refine RL_do rfl rfl (Do_as (Do_not (p := x85) rfl) (congrArg Value.bool e90)) ?_
      refine RL_do rfl rfl (Do_pick_f (v := .bool x89) rfl rfl) ?_
      have hR := Option.some.inj hF
      subst hR
      refine (RL_nil (thenQ_n (And.intro ?_ ?_)))
      · repeat' (first | with_reducible exact Fr_refl | refine Fr_upd rfl ?_ | refine Fr_over rfl rfl ?_)
      · exact ⟨(), (Sl_cons rfl Sl_nil), H.pick [1, 0] (by decide)⟩
  · rintro _ ρ w64 H
    have hF := hK65
    refine WP_ifb (b := g63) rfl (fun c91 => ?_) (fun c91 => ?_)
    · have hF := iteB_t c91 hF
      refine WP_seq_k fun K92 hK92 => ?_
      refine WP_region ?_
      refine RL_do rfl rfl (Do_assign (v := .int .i64 8) rfl) ?_
      refine (RL_nil (thenQ_n (hK92 _ _ ?_)))
      have hR := Option.some.inj hF
      subst hR
      refine (WP_ret (thenQ_r (post1 (v1 := .int .i64 8) rfl rfl ?_)))
      exact ⟨rfl, H.pick [] (by decide)⟩
    · have hF := iteB_f c91 hF
      refine (WP_skip (thenQ_n (hK37 _ _ ?_)))
      refine WP_seq_k fun K112 hK112 => ?_
      obtain ⟨g127, hF, hK129⟩ := bindO_some hF
      refine WP_seqS [18, 19, 20, 21, 22, 23, 24, 25, 26, 27, 28, 29, 30, 31, 32, 33, 34, 35, 36, 37] (fun (g : Unit) => [(37, .bool g127)]) (fun g wl => Hd O w wl S [.blk b4 [.string (bs p0.Tail), .string (bs p0.Route), .int .i64 p0.Day, .int .i64 p0.From, .int .i64 p0.To, v1] 47, .fz (.sl rTrack v1 p0.Tracks)]) ?_ ?_
      · skip
        refine WP_region ?_
        refine RL_do rfl rfl (fa47_2 rfl) ?_
        refine RL_do rfl rfl (Do_load one3 rfl (Cells.get (Blk.cells (H.item (i := 0) rfl)) (i := 2) rfl)) ?_
        have H130 := H
        obtain ⟨x131, e132, hF⟩ := bindO_some hF
        refine RL_call rfl rfl (DoC_func en32 rfl) (F_ref9_outside_w p0.Day 0 1000000 _ e132 _ _ _ (H.enter [] [] (by decide) rfl)) ?_
        rintro _ w133 ⟨rfl, G134⟩
        have H := H130.step (G134.only : Only [] _ _)
        refine ⟨_, rfl, ?_⟩
        refine RL_splitb (b := x131) rfl rfl rfl (fun c135 => ?_) (fun c135 => ?_)
        · have hF := iteB_t c135 hF
          refine RL_off rfl rfl ?_
          refine RL_off rfl rfl ?_
          refine RL_off rfl rfl ?_
          refine RL_do rfl rfl (Do_pick_t (v := .bool true) rfl rfl) ?_
          refine RL_do rfl rfl (Do_move (v := .bool true) rfl) ?_
          refine RL_off rfl rfl ?_
          refine RL_off rfl rfl ?_
          refine RL_off rfl rfl ?_
          refine RL_off rfl rfl ?_
          refine RL_off rfl rfl ?_
          refine RL_do rfl rfl (Do_pick_t (v := .bool true) rfl rfl) ?_
          refine RL_do rfl rfl (Do_move (v := .bool true) rfl) ?_
          refine RL_off rfl rfl ?_
          refine RL_off rfl rfl ?_
          refine RL_off rfl rfl ?_
          refine RL_do rfl rfl (Do_pick_t (v := .bool true) rfl rfl) ?_
          have hR := Option.some.inj hF
          subst hR
          refine (RL_nil (thenQ_n (And.intro ?_ ?_)))
          · repeat' (first | with_reducible exact Fr_refl | refine Fr_upd rfl ?_ | refine Fr_over rfl rfl ?_)
          · exact ⟨(), (Sl_cons rfl Sl_nil), H.pick [0, 1] (by decide)⟩
        · have hF := iteB_f c135 hF
          refine RL_do rfl rfl (fa47_3 rfl) ?_
          refine RL_do rfl rfl (Do_load one3 rfl (Cells.get (Blk.cells (H.item (i := 0) rfl)) (i := 3) rfl)) ?_
          obtain ⟨x136, e137, hF⟩ := letO_some hF
          refine RL_do rfl rfl (Do_as (Do_lss (a := p0.From) (b := 0) rfl rfl) (congrArg Value.bool e137)) ?_
          refine RL_do rfl rfl (Do_pick_f (v := .bool x136) rfl rfl) ?_
          refine RL_splitb (b := x136) rfl rfl rfl (fun c138 => ?_) (fun c138 => ?_)
          · have hF := iteB_t c138 hF
            refine RL_off rfl rfl ?_
            refine RL_off rfl rfl ?_
            refine RL_off rfl rfl ?_
            refine RL_off rfl rfl ?_
            refine RL_off rfl rfl ?_
            refine RL_do rfl rfl (Do_pick_t (v := .bool true) rfl rfl) ?_
            refine RL_do rfl rfl (Do_move (v := .bool true) rfl) ?_
            refine RL_off rfl rfl ?_
            refine RL_off rfl rfl ?_
            refine RL_off rfl rfl ?_
            refine RL_do rfl rfl (Do_pick_t (v := .bool true) rfl rfl) ?_
            have hR := Option.some.inj hF
            subst hR
            refine (RL_nil (thenQ_n (And.intro ?_ ?_)))
            · repeat' (first | with_reducible exact Fr_refl | refine Fr_upd rfl ?_ | refine Fr_over rfl rfl ?_)
            · exact ⟨(), (Sl_cons rfl Sl_nil), H.pick [0, 1] (by decide)⟩
          · have hF := iteB_f c138 hF
            refine RL_do rfl rfl (fa47_3 rfl) ?_
            refine RL_do rfl rfl (Do_load one3 rfl (Cells.get (Blk.cells (H.item (i := 0) rfl)) (i := 3) rfl)) ?_
            refine RL_do rfl rfl (fa47_4 rfl) ?_
            refine RL_do rfl rfl (Do_load one3 rfl (Cells.get (Blk.cells (H.item (i := 0) rfl)) (i := 4) rfl)) ?_
            obtain ⟨x139, e140, hF⟩ := letO_some hF
            refine RL_do rfl rfl (Do_as (Do_gtr (a := p0.From) (b := p0.To) rfl rfl) (congrArg Value.bool e140)) ?_
            refine RL_do rfl rfl (Do_pick_f (v := .bool x139) rfl rfl) ?_
            refine RL_splitb (b := x139) rfl rfl rfl (fun c141 => ?_) (fun c141 => ?_)
            · have hF := iteB_t c141 hF
              refine RL_off rfl rfl ?_
              refine RL_off rfl rfl ?_
              refine RL_off rfl rfl ?_
              refine RL_do rfl rfl (Do_pick_t (v := .bool true) rfl rfl) ?_
              have hR := Option.some.inj hF
              subst hR
              refine (RL_nil (thenQ_n (And.intro ?_ ?_)))
              · repeat' (first | with_reducible exact Fr_refl | refine Fr_upd rfl ?_ | refine Fr_over rfl rfl ?_)
              · exact ⟨(), (Sl_cons rfl Sl_nil), H.pick [0, 1] (by decide)⟩
            · have hF := iteB_f c141 hF
              refine RL_do rfl rfl (fa47_4 rfl) ?_
              refine RL_do rfl rfl (Do_load one3 rfl (Cells.get (Blk.cells (H.item (i := 0) rfl)) (i := 4) rfl)) ?_
              obtain ⟨x142, e143, hF⟩ := letO_some hF
              refine RL_do rfl rfl (Do_as (Do_gtr (a := p0.To) (b := 4194303) rfl rfl) (congrArg Value.bool e143)) ?_
              refine RL_do rfl rfl (Do_pick_f (v := .bool x142) rfl rfl) ?_
              have hR := Option.some.inj hF
              subst hR
              refine (RL_nil (thenQ_n (And.intro ?_ ?_)))
              · repeat' (first | with_reducible exact Fr_refl | refine Fr_upd rfl ?_ | refine Fr_over rfl rfl ?_)
              · exact ⟨(), (Sl_cons rfl Sl_nil), H.pick [0, 1] (by decide)⟩
      · rintro _ ρ w128 H
        have hF := hK129
        refine WP_ifb (b := g127) rfl (fun c144 => ?_) (fun c144 => ?_)
        · have hF := iteB_t c144 hF
          refine WP_seq_k fun K145 hK145 => ?_
          refine WP_region ?_
          refine RL_do rfl rfl (Do_assign (v := .int .i64 9) rfl) ?_
          refine (RL_nil (thenQ_n (hK145 _ _ ?_)))
          have hR := Option.some.inj hF
          subst hR
          refine (WP_ret (thenQ_r (post1 (v1 := .int .i64 9) rfl rfl ?_)))
          exact ⟨rfl, H.pick [] (by decide)⟩
        · have hF := iteB_f c144 hF
          refine (WP_skip (thenQ_n (hK112 _ _ ?_)))
          refine WP_seq_k fun K165 hK165 => ?_
          obtain ⟨g180, hF, hK182⟩ := bindO_some hF
          refine WP_seqS [38, 39, 40, 41, 42, 43, 44, 45, 46, 47, 48, 49, 50] (fun (g : Unit) => [(50, .bool g180)]) (fun g wl => Hd O w wl S [.blk b4 [.string (bs p0.Tail), .string (bs p0.Route), .int .i64 p0.Day, .int .i64 p0.From, .int .i64 p0.To, v1] 47, .fz (.sl rTrack v1 p0.Tracks)]) ?_ ?_
          · skip
            refine WP_region ?_
            refine RL_do rfl rfl (fa47_4 rfl) ?_
            refine RL_do rfl rfl (Do_load one3 rfl (Cells.get (Blk.cells (H.item (i := 0) rfl)) (i := 4) rfl)) ?_
            refine RL_do rfl rfl (fa47_3 rfl) ?_
            refine RL_do rfl rfl (Do_load one3 rfl (Cells.get (Blk.cells (H.item (i := 0) rfl)) (i := 3) rfl)) ?_
            obtain ⟨x183, e184, hF⟩ := letO_some hF
            refine RL_do rfl rfl (Do_sub (a := p0.To) (b := p0.From) rfl rfl e184) ?_
            obtain ⟨x185, e186, hF⟩ := letO_some hF
            refine RL_do rfl rfl (Do_add (a := x183) (b := 1) rfl rfl e186) ?_
            obtain ⟨x187, e188, hF⟩ := letO_some hF
            refine RL_do rfl rfl (Do_as (Do_gtr (a := x185) (b := 20000) rfl rfl) (congrArg Value.bool e188)) ?_
            refine RL_splitb (b := x187) rfl rfl rfl (fun c189 => ?_) (fun c189 => ?_)
            · have hF := iteB_t c189 hF
              refine RL_off rfl rfl ?_
              refine RL_off rfl rfl ?_
              refine RL_off rfl rfl ?_
              refine RL_off rfl rfl ?_
              refine RL_do rfl rfl (Do_pick_t (v := .bool true) rfl rfl) ?_
              have hR := Option.some.inj hF
              subst hR
              refine (RL_nil (thenQ_n (And.intro ?_ ?_)))
              · repeat' (first | with_reducible exact Fr_refl | refine Fr_upd rfl ?_ | refine Fr_over rfl rfl ?_)
              · exact ⟨(), (Sl_cons rfl Sl_nil), H.pick [0, 1] (by decide)⟩
            · have hF := iteB_f c189 hF
              refine RL_do rfl rfl (fa47_5 rfl) ?_
              refine RL_do rfl rfl (Do_load one45 rfl (Cells.get (Blk.cells (H.item (i := 0) rfl)) (i := 5) rfl)) ?_
              obtain ⟨x190, e191, hF⟩ := letO_some hF
              obtain ⟨a192, c193, q194⟩ := SlF.len ((H.item (i := 1) rfl))
              refine RL_do rfl rfl (Do_as (Do_len u45 q194) (congrArg (Value.int .i64) e191)) ?_
              obtain ⟨x195, e196, hF⟩ := letO_some hF
              refine RL_do rfl rfl (Do_as (Do_gtr (a := x190) (b := 30) rfl rfl) (congrArg Value.bool e196)) ?_
              refine RL_do rfl rfl (Do_pick_f (v := .bool x195) rfl rfl) ?_
              have hR := Option.some.inj hF
              subst hR
              refine (RL_nil (thenQ_n (And.intro ?_ ?_)))
              · repeat' (first | with_reducible exact Fr_refl | refine Fr_upd rfl ?_ | refine Fr_over rfl rfl ?_)
              · exact ⟨(), (Sl_cons rfl Sl_nil), H.pick [0, 1] (by decide)⟩
          · rintro _ ρ w181 H
            have hF := hK182
            refine WP_ifb (b := g180) rfl (fun c197 => ?_) (fun c197 => ?_)
            · have hF := iteB_t c197 hF
              refine WP_seq_k fun K198 hK198 => ?_
              refine WP_region ?_
              refine RL_do rfl rfl (Do_assign (v := .int .i64 3) rfl) ?_
              refine (RL_nil (thenQ_n (hK198 _ _ ?_)))
              have hR := Option.some.inj hF
              subst hR
              refine (WP_ret (thenQ_r (post1 (v1 := .int .i64 3) rfl rfl ?_)))
              exact ⟨rfl, H.pick [] (by decide)⟩
            · have hF := iteB_f c197 hF
              refine (WP_skip (thenQ_n (hK165 _ _ ?_)))
              refine WP_seq_k fun K199 hK199 => ?_
              refine WP_region ?_
              refine RL_do rfl rfl (fa47_5 rfl) ?_
              refine RL_do rfl rfl (Do_load one45 rfl (Cells.get (Blk.cells (H.item (i := 0) rfl)) (i := 5) rfl)) ?_
              have H200 := H
              obtain ⟨x201, e202, hF⟩ := bindO_some hF
              refine RL_call rfl rfl (DoC_func en47 rfl) (F_ref6_CheckTracks_w p0.Tracks v1 _ e202 _ _ _ (H.enter [] [1] (by decide) rfl)) ?_
              rintro _ w203 ⟨rfl, G204⟩
              have H := H200.step (G204.only : Only [] _ _)
              refine ⟨_, rfl, ?_⟩
              refine RL_do rfl rfl (Do_assign (v := .int .i64 x201) rfl) ?_
              refine (RL_nil (thenQ_n (hK199 _ _ ?_)))
              have hR := Option.some.inj hF
              subst hR
              refine (WP_ret (post1 (v1 := .int .i64 x201) rfl rfl ?_))
              exact ⟨rfl, H.pick [] (by decide)⟩
end Go.Proofs.YtbjhondbheijiaaDoor.L
namespace Go.Proofs.YtbjhondbheijiaaDoor.L
open Go.RowKit Go.OB Go.Lf
/- orangebox/orangeboxref9.twice -/
set_option maxHeartbeats 4000000 in
theorem F_ref9_twice_w (p0 : List Str) (p1 : Int) (v1 : Value) (r : Bool) (hF : F_ref9_twice p0 p1 = some r) (O S : List Nat) (w : World) (H : Hd O w w S [.fz (.sl Rp.str v1 p0)]) :
    Calls Tryd.prog 51 ([v1, .int .i64 p1] : List Value).toArray w fun e w' => e = .returned (.bool r) ∧ Hd O w w' S [] := by
  unfold F_ref9_twice at hF
  refine calls_of_WP 20 Tryd.func51 rfl rfl rfl ?_
  refine WP_seq_k fun K3 hK3 => ?_
  refine WP_region ?_
  refine RL_do rfl rfl (Do_assign (v := .bool false) rfl) ?_
  refine (RL_nil (thenQ_n (hK3 _ _ ?_)))
  obtain ⟨k165, ek166, hF⟩ := joinO_some hF
  refine WP_seqS [4, 5, 6, 7, 8, 9, 10, 11, 12, 13, 14, 15, 16, 17, 18, 19] (fun (g : Unit) => []) (fun g wl => Hd O w wl S [] ∧ k165 () = some r) ?_ ?_
  · skip
    refine WP_seq_k fun K167 hK167 => ?_
    refine WP_region ?_
    refine RL_do rfl rfl (Do_assign (v := .int .i64 0) rfl) ?_
    refine (RL_nil (thenQ_n (hK167 _ _ ?_)))
    refine WP_block ?_
    unfold F_ref9_twice_L1 at hF
    obtain ⟨B322, n323, eB324, hF⟩ := loopO_some hF
    refine WP_loopS [4, 5, 6, 7, 8, 9, 10, 11, 12, 13, 14, 15, 16, 17, 18, 19] (fun (g : Nat × Int) => [(5, .int .i64 g.2)]) (fun g wl => Hd O w wl S [.fz (.sl Rp.str v1 p0)] ∧ loopN B322 g.1 g.2 = some r) (fun g => g.1) (n323, 0) (Sl_cons rfl Sl_nil) ⟨H.pick [0] (by decide), hF⟩ ?_
    clear H hF
    rintro ⟨n323, g321⟩ ρ w326 ⟨H, hF⟩
    obtain ⟨n327, rfl, hF⟩ := loopN_pos hF
    have hF := loop_body eB324 hF
    refine WP_seq_k fun K332 hK332 => ?_
    refine WP_seq_k fun K333 hK333 => ?_
    refine WP_region ?_
    refine RL_do rfl rfl (Do_move (v := .int .i64 g321) rfl) ?_
    refine RL_do rfl rfl (Do_move (v := .int .i64 p1) rfl) ?_
    obtain ⟨x334, e335, hF⟩ := letO_some hF
    refine RL_do rfl rfl (Do_as (Do_lss (a := g321) (b := p1) rfl rfl) (congrArg Value.bool e335)) ?_
    refine (RL_nil (thenQ_n (hK333 _ _ ?_)))
    refine WP_ifb (b := x334) rfl (fun c336 => ?_) (fun c336 => ?_)
    · have hF := iteB_t c336 hF
      refine (WP_skip (thenQ_n (hK332 _ _ ?_)))
      refine WP_seq_k fun K369 hK369 => ?_
      refine WP_block ?_
      refine WP_seq_k fun K370 hK370 => ?_
      have H371 := H
      have H := H.rebase
      have H372 := H
      refine WP_mix0 H [0, 1, 2, 3, 4, 5, 6, 7, 8] [.pure, .pure, .pure, .read, .pure, .pure, .pure, .read, .pure] mixed (by kernel_rfl) (by kernel_rfl) (by kernel_rfl) rfl ?_
      refine Mx.XL_pure rfl rfl rfl (fun w' hw' => Do_move (v := v1) rfl) ?_
      refine Mx.XL_pure rfl rfl rfl (fun w' hw' => Do_move (v := .int .i64 g321) rfl) ?_
      obtain ⟨x373, e374, hF⟩ := bindO_some hF
      obtain ⟨b375, o376, c377, cs378, q379, h382, h380, h381, h383⟩ := rd_at (H.item (i := 0) rfl) e374
      obtain rfl : cs378 = [.string (bs x373)] := h382
      have H := H.fz (.at b375 (o376 + g321.toNat * 1) _) ⟨h380, h381, h383⟩
      refine Mx.XL_pure rfl rfl rfl (fun w' hw' => Do_idx u35 sz9 q379 rfl (at_some e374).1 (at_some e374).2.1 rfl rfl) ?_
      refine Mx.XL_read oS rfl rfl rfl (fun w' hw' => Do_load one9 rfl (Cells.get ((H.sees hw').item (i := 1) rfl).2.2 (i := 0) rfl)) ?_
      refine Mx.XL_pure rfl rfl rfl (fun w' hw' => Do_move (v := v1) rfl) ?_
      refine Mx.XL_pure rfl rfl rfl (fun w' hw' => Do_move (v := .int .i64 p1) rfl) ?_
      obtain ⟨x385, e386, hF⟩ := bindO_some hF
      obtain ⟨b387, o388, c389, cs390, q391, h394, h392, h393, h395⟩ := rd_at (H.item (i := 0) rfl) e386
      obtain rfl : cs390 = [.string (bs x385)] := h394
      have H := H.fz (.at b387 (o388 + p1.toNat * 1) _) ⟨h392, h393, h395⟩
      refine Mx.XL_pure rfl rfl rfl (fun w' hw' => Do_idx u35 sz9 q391 rfl (at_some e386).1 (at_some e386).2.1 rfl rfl) ?_
      refine Mx.XL_read oS rfl rfl rfl (fun w' hw' => Do_load one9 rfl (Cells.get ((H.sees hw').item (i := 2) rfl).2.2 (i := 0) rfl)) ?_
      obtain ⟨x397, e398, hF⟩ := letO_some hF
      refine Mx.XL_pure rfl rfl rfl (fun w' hw' => Do_as (Do_eqls (s1 := x373) (s2 := x385) rfl rfl) (congrArg Value.bool e398)) ?_
      refine Mx.XL_nil fun w399 hS => ?_
      have H := H.sees hS
      have H := H371.rejoin H
      refine (thenQ_n (hK370 _ _ ?_))
      refine WP_ifb (b := x397) rfl (fun c400 => ?_) (fun c400 => ?_)
      · have hF := iteB_t c400 hF
        refine WP_seq_k fun K401 hK401 => ?_
        refine WP_region ?_
        refine RL_do rfl rfl (Do_assign (v := .bool true) rfl) ?_
        refine (RL_nil (thenQ_n (hK401 _ _ ?_)))
        have hR := Option.some.inj hF
        subst hR
        refine (WP_ret (blockQ_r (thenQ_r (thenQ_r (blockQ_r (thenQ_r (post1 (v1 := .bool true) rfl rfl ?_)))))))
        exact ⟨rfl, H.pick [] (by decide)⟩
      · have hF := iteB_f c400 hF
        refine (WP_skip (blockQ_n (thenQ_n (hK369 _ _ ?_))))
        refine WP_region ?_
        refine RL_do rfl rfl (Do_move (v := .int .i64 g321) rfl) ?_
        obtain ⟨x402, e403, hF⟩ := letO_some hF
        refine RL_do rfl rfl (Do_add (a := g321) (b := 1) rfl rfl e403) ?_
        refine RL_do rfl rfl (Do_assign (v := .int .i64 x402) rfl) ?_
        refine (RL_nil (thenQ_n (And.intro ?_ ?_)))
        · repeat' (first | with_reducible exact Fr_refl | refine Fr_upd rfl ?_ | refine Fr_over rfl rfl ?_)
        · exact ⟨(n327, x402), (Sl_cons rfl Sl_nil), ⟨H.pick [0] (by decide), hF⟩, Nat.lt_succ_self _⟩
    · have hF := iteB_f c336 hF
      refine (WP_exit (thenQ_x (thenQ_x (blockQ_eq (thenQ_n (And.intro ?_ ?_))))))
      · repeat' (first | with_reducible exact Fr_refl | refine Fr_upd rfl ?_ | refine Fr_over rfl rfl ?_)
      · exact ⟨(), Sl_nil, ⟨H.pick [] (by decide), hF⟩⟩
  · rintro _ ρ w164 ⟨H, hF⟩
    have hF := join_body ek166 hF
    refine WP_seq_k fun K404 hK404 => ?_
    refine WP_region ?_
    refine RL_do rfl rfl (Do_assign (v := .bool false) rfl) ?_
    refine (RL_nil (thenQ_n (hK404 _ _ ?_)))
    have hR := Option.some.inj hF
    subst hR
    refine (WP_ret (post1 (v1 := .bool false) rfl rfl ?_))
    exact ⟨rfl, H.pick [] (by decide)⟩
end Go.Proofs.YtbjhondbheijiaaDoor.L
namespace Go.Proofs.YtbjhondbheijiaaDoor.L
open Go.RowKit Go.OB Go.Lf
/- orangebox/orangeboxref9.CheckMask -/
set_option maxHeartbeats 4000000 in
theorem F_ref9_CheckMask_w (p0 : Mask) (v1 : Value) (v2 : Value) (r : Int) (hF : F_ref9_CheckMask p0 = some r) (O S : List Nat) (w : World) (H : Hd O w w S [.fz (.sl Rp.str v1 p0.Hide), .fz (.sl rGrain v2 p0.Grains)]) :
    Calls Tryd.prog 22 ([.agg [.bool p0.Tails, .int .i64 p0.Days, v1, v2, .int .i64 p0.Least].toArray] : List Value).toArray w fun e w' => e = .returned (.int .i64 r) ∧ Hd O w w' S [] := by
  unfold F_ref9_CheckMask at hF
  refine calls_of_WP 70 Tryd.func22 rfl rfl rfl ?_
  refine WP_seq_k fun K5 hK5 => ?_
  refine WP_region ?_
  refine RL_ex rfl rfl (Lx_box (cs := [.bool p0.Tails, .int .i64 p0.Days, v1, v2, .int .i64 p0.Least]) rfl H) ?_
  rintro _ w8 ⟨b6, rfl, H⟩
  refine RL_do rfl rfl (Do_assign (v := .int .i64 0) rfl) ?_
  refine (RL_nil (thenQ_n (hK5 _ _ ?_)))
  refine WP_seq_k fun K17 hK17 => ?_
  refine WP_seq_k fun K18 hK18 => ?_
  refine WP_region ?_
  refine RL_do rfl rfl (fa50_1 rfl) ?_
  refine RL_do rfl rfl (Do_load one3 rfl (Cells.get (Blk.cells (H.item (i := 2) rfl)) (i := 1) rfl)) ?_
  have H19 := H
  obtain ⟨x20, e21, hF⟩ := bindO_some hF
  refine RL_call rfl rfl (DoC_func en32 rfl) (F_ref9_outside_w p0.Days 1 1000000 _ e21 _ _ _ (H.enter [] [] (by decide) rfl)) ?_
  rintro _ w22 ⟨rfl, G23⟩
  have H := H19.step (G23.only : Only [] _ _)
  refine ⟨_, rfl, ?_⟩
  refine (RL_nil (thenQ_n (hK18 _ _ ?_)))
  refine WP_ifb (b := x20) rfl (fun c24 => ?_) (fun c24 => ?_)
  · have hF := iteB_t c24 hF
    refine WP_seq_k fun K25 hK25 => ?_
    refine WP_region ?_
    refine RL_do rfl rfl (Do_assign (v := .int .i64 9) rfl) ?_
    refine (RL_nil (thenQ_n (hK25 _ _ ?_)))
    have hR := Option.some.inj hF
    subst hR
    refine (WP_ret (thenQ_r (post1 (v1 := .int .i64 9) rfl rfl ?_)))
    exact ⟨rfl, H.pick [] (by decide)⟩
  · have hF := iteB_f c24 hF
    refine (WP_skip (thenQ_n (hK17 _ _ ?_)))
    refine WP_seq_k fun K36 hK36 => ?_
    refine WP_seq_k fun K37 hK37 => ?_
    refine WP_region ?_
    refine RL_do rfl rfl (fa50_2 rfl) ?_
    refine RL_do rfl rfl (Do_load one35 rfl (Cells.get (Blk.cells (H.item (i := 2) rfl)) (i := 2) rfl)) ?_
    obtain ⟨x38, e39, hF⟩ := letO_some hF
    obtain ⟨a40, c41, q42⟩ := SlF.len ((H.item (i := 0) rfl))
    refine RL_do rfl rfl (Do_as (Do_len u35 q42) (congrArg (Value.int .i64) e39)) ?_
    obtain ⟨x43, e44, hF⟩ := letO_some hF
    refine RL_do rfl rfl (Do_as (Do_gtr (a := x38) (b := 30) rfl rfl) (congrArg Value.bool e44)) ?_
    refine (RL_nil (thenQ_n (hK37 _ _ ?_)))
    refine WP_ifb (b := x43) rfl (fun c45 => ?_) (fun c45 => ?_)
    · have hF := iteB_t c45 hF
      refine WP_seq_k fun K46 hK46 => ?_
      refine WP_region ?_
      refine RL_do rfl rfl (Do_assign (v := .int .i64 3) rfl) ?_
      refine (RL_nil (thenQ_n (hK46 _ _ ?_)))
      have hR := Option.some.inj hF
      subst hR
      refine (WP_ret (thenQ_r (post1 (v1 := .int .i64 3) rfl rfl ?_)))
      exact ⟨rfl, H.pick [] (by decide)⟩
    · have hF := iteB_f c45 hF
      refine (WP_skip (thenQ_n (hK36 _ _ ?_)))
      obtain ⟨k312, ek313, hF⟩ := joinO_some hF
      refine WP_seqS [2, 3, 13, 14, 15, 16, 17, 18, 19, 20, 21, 22, 23, 24, 25, 26, 27, 28, 29, 30] (fun (g : Unit) => []) (fun g wl => Hd O w wl S [.blk b6 [.bool p0.Tails, .int .i64 p0.Days, v1, v2, .int .i64 p0.Least] 50, .fz (.sl Rp.str v1 p0.Hide), .fz (.sl rGrain v2 p0.Grains)] ∧ k312 () = some r) ?_ ?_
      · skip
        refine WP_seq_k fun K314 hK314 => ?_
        refine WP_region ?_
        refine RL_do rfl rfl (Do_assign (v := .int .i64 0) rfl) ?_
        refine (RL_nil (thenQ_n (hK314 _ _ ?_)))
        refine WP_block ?_
        unfold F_ref9_CheckMask_L1 at hF
        obtain ⟨B573, n574, eB575, hF⟩ := loopO_some hF
        refine WP_loopS [2, 3, 13, 14, 15, 16, 17, 18, 19, 20, 21, 22, 23, 24, 25, 26, 27, 28, 29, 30] (fun (g : Nat × Int) => [(3, .int .i64 g.2)]) (fun g wl => Hd O w wl S [.blk b6 [.bool p0.Tails, .int .i64 p0.Days, v1, v2, .int .i64 p0.Least] 50, .fz (.sl Rp.str v1 p0.Hide), .fz (.sl rGrain v2 p0.Grains)] ∧ loopN B573 g.1 g.2 = some r) (fun g => g.1) (n574, 0) (Sl_cons rfl Sl_nil) ⟨H.pick [2, 0, 1] (by decide), hF⟩ ?_
        clear H hF
        rintro ⟨n574, g572⟩ ρ w577 ⟨H, hF⟩
        obtain ⟨n578, rfl, hF⟩ := loopN_pos hF
        have hF := loop_body eB575 hF
        refine WP_seq_k fun K588 hK588 => ?_
        refine WP_seq_k fun K589 hK589 => ?_
        refine WP_region ?_
        refine RL_do rfl rfl (Do_move (v := .int .i64 g572) rfl) ?_
        refine RL_do rfl rfl (fa50_2 rfl) ?_
        refine RL_do rfl rfl (Do_load one35 rfl (Cells.get (Blk.cells (H.item (i := 0) rfl)) (i := 2) rfl)) ?_
        obtain ⟨x590, e591, hF⟩ := letO_some hF
        obtain ⟨a592, c593, q594⟩ := SlF.len ((H.item (i := 1) rfl))
        refine RL_do rfl rfl (Do_as (Do_len u35 q594) (congrArg (Value.int .i64) e591)) ?_
        obtain ⟨x595, e596, hF⟩ := letO_some hF
        refine RL_do rfl rfl (Do_as (Do_lss (a := g572) (b := x590) rfl rfl) (congrArg Value.bool e596)) ?_
        refine (RL_nil (thenQ_n (hK589 _ _ ?_)))
        refine WP_ifb (b := x595) rfl (fun c597 => ?_) (fun c597 => ?_)
        · have hF := iteB_t c597 hF
          refine (WP_skip (thenQ_n (hK588 _ _ ?_)))
          refine WP_seq_k fun K651 hK651 => ?_
          refine WP_block ?_
          refine WP_seq_k fun K674 hK674 => ?_
          refine WP_seq_k fun K675 hK675 => ?_
          refine WP_region ?_
          refine RL_do rfl rfl (fa50_2 rfl) ?_
          refine RL_do rfl rfl (Do_load one35 rfl (Cells.get (Blk.cells (H.item (i := 0) rfl)) (i := 2) rfl)) ?_
          refine RL_do rfl rfl (Do_move (v := .int .i64 g572) rfl) ?_
          obtain ⟨x676, e677, hF⟩ := bindO_some hF
          obtain ⟨b678, o679, c680, cs681, q682, h685, h683, h684, h686⟩ := rd_at (H.item (i := 1) rfl) e677
          obtain rfl : cs681 = [.string (bs x676)] := h685
          have H := H.fz (.at b678 (o679 + g572.toNat * 1) _) ⟨h683, h684, h686⟩
          refine RL_do rfl rfl (Do_idx u35 sz9 q682 rfl (at_some e677).1 (at_some e677).2.1 rfl rfl) ?_
          refine RL_do rfl rfl (Do_load one9 rfl (Cells.get (H.item (i := 3) rfl).2.2 (i := 0) rfl)) ?_
          have H688 := H
          obtain ⟨x689, e690, hF⟩ := bindO_some hF
          refine RL_call rfl rfl (DoC_func en46 rfl) (F_ref6_IsName_w x676 _ e690 _ _ _ (H.enter [] [] (by decide) rfl)) ?_
          rintro _ w691 ⟨rfl, G692⟩
          have H := H688.step (G692.only : Only [] _ _)
          refine ⟨_, rfl, ?_⟩
          obtain ⟨x693, e694, hF⟩ := letO_some hF
          refine RL_do rfl rfl (Do_as (Do_not (p := x689) rfl) (congrArg Value.bool e694)) ?_
          refine (RL_nil (thenQ_n (hK675 _ _ ?_)))
          refine WP_ifb (b := x693) rfl (fun c695 => ?_) (fun c695 => ?_)
          · have hF := iteB_t c695 hF
            refine WP_seq_k fun K696 hK696 => ?_
            refine WP_region ?_
            refine RL_do rfl rfl (Do_assign (v := .int .i64 8) rfl) ?_
            refine (RL_nil (thenQ_n (hK696 _ _ ?_)))
            have hR := Option.some.inj hF
            subst hR
            refine (WP_ret (thenQ_r (blockQ_r (thenQ_r (thenQ_r (blockQ_r (thenQ_r (post1 (v1 := .int .i64 8) rfl rfl ?_))))))))
            exact ⟨rfl, H.pick [] (by decide)⟩
          · have hF := iteB_f c695 hF
            refine (WP_skip (thenQ_n (hK674 _ _ ?_)))
            refine WP_seq_k fun K697 hK697 => ?_
            refine WP_region ?_
            refine RL_do rfl rfl (fa50_2 rfl) ?_
            refine RL_do rfl rfl (Do_load one35 rfl (Cells.get (Blk.cells (H.item (i := 0) rfl)) (i := 2) rfl)) ?_
            refine RL_do rfl rfl (Do_move (v := .int .i64 g572) rfl) ?_
            have H698 := H
            obtain ⟨x699, e700, hF⟩ := bindO_some hF
            refine RL_call rfl rfl (DoC_func en51 rfl) (F_ref9_twice_w p0.Hide g572 v1 _ e700 _ _ _ (H.enter [] [1] (by decide) rfl)) ?_
            rintro _ w701 ⟨rfl, G702⟩
            have H := H698.step (G702.only : Only [] _ _)
            refine ⟨_, rfl, ?_⟩
            refine (RL_nil (thenQ_n (hK697 _ _ ?_)))
            refine WP_ifb (b := x699) rfl (fun c703 => ?_) (fun c703 => ?_)
            · have hF := iteB_t c703 hF
              refine WP_seq_k fun K704 hK704 => ?_
              refine WP_region ?_
              refine RL_do rfl rfl (Do_assign (v := .int .i64 5) rfl) ?_
              refine (RL_nil (thenQ_n (hK704 _ _ ?_)))
              have hR := Option.some.inj hF
              subst hR
              refine (WP_ret (blockQ_r (thenQ_r (thenQ_r (blockQ_r (thenQ_r (post1 (v1 := .int .i64 5) rfl rfl ?_)))))))
              exact ⟨rfl, H.pick [] (by decide)⟩
            · have hF := iteB_f c703 hF
              refine (WP_skip (blockQ_n (thenQ_n (hK651 _ _ ?_))))
              refine WP_region ?_
              refine RL_do rfl rfl (Do_move (v := .int .i64 g572) rfl) ?_
              obtain ⟨x705, e706, hF⟩ := letO_some hF
              refine RL_do rfl rfl (Do_add (a := g572) (b := 1) rfl rfl e706) ?_
              refine RL_do rfl rfl (Do_assign (v := .int .i64 x705) rfl) ?_
              refine (RL_nil (thenQ_n (And.intro ?_ ?_)))
              · repeat' (first | with_reducible exact Fr_refl | refine Fr_upd rfl ?_ | refine Fr_over rfl rfl ?_)
              · exact ⟨(n578, x705), (Sl_cons rfl Sl_nil), ⟨H.pick [0, 1, 2] (by decide), hF⟩, Nat.lt_succ_self _⟩
        · have hF := iteB_f c597 hF
          refine (WP_exit (thenQ_x (thenQ_x (blockQ_eq (thenQ_n (And.intro ?_ ?_))))))
          · repeat' (first | with_reducible exact Fr_refl | refine Fr_upd rfl ?_ | refine Fr_over rfl rfl ?_)
          · exact ⟨(), Sl_nil, ⟨H.pick [0, 1, 2] (by decide), hF⟩⟩
      · rintro _ ρ w311 ⟨H, hF⟩
        have hF := join_body ek313 hF
        refine WP_seq_k fun K717 hK717 => ?_
        refine WP_seq_k fun K718 hK718 => ?_
        refine WP_region ?_
        refine RL_do rfl rfl (fa50_3 rfl) ?_
        refine RL_do rfl rfl (Do_load one48 rfl (Cells.get (Blk.cells (H.item (i := 0) rfl)) (i := 3) rfl)) ?_
        obtain ⟨x719, e720, hF⟩ := letO_some hF
        obtain ⟨a721, c722, q723⟩ := SlF.len ((H.item (i := 2) rfl))
        refine RL_do rfl rfl (Do_as (Do_len u48 q723) (congrArg (Value.int .i64) e720)) ?_
        obtain ⟨x724, e725, hF⟩ := letO_some hF
        refine RL_do rfl rfl (Do_as (Do_gtr (a := x719) (b := 30) rfl rfl) (congrArg Value.bool e725)) ?_
        refine (RL_nil (thenQ_n (hK718 _ _ ?_)))
        refine WP_ifb (b := x724) rfl (fun c726 => ?_) (fun c726 => ?_)
        · have hF := iteB_t c726 hF
          refine WP_seq_k fun K727 hK727 => ?_
          refine WP_region ?_
          refine RL_do rfl rfl (Do_assign (v := .int .i64 3) rfl) ?_
          refine (RL_nil (thenQ_n (hK727 _ _ ?_)))
          have hR := Option.some.inj hF
          subst hR
          refine (WP_ret (thenQ_r (post1 (v1 := .int .i64 3) rfl rfl ?_)))
          exact ⟨rfl, H.pick [] (by decide)⟩
        · have hF := iteB_f c726 hF
          refine (WP_skip (thenQ_n (hK717 _ _ ?_)))
          refine WP_seq_k fun K728 hK728 => ?_
          refine WP_region ?_
          refine RL_do rfl rfl (Do_assign (v := .slice none 0 0) rfl) ?_
          refine (RL_nil (thenQ_n (hK728 _ _ ?_)))
          obtain ⟨k1196, ek1197, hF⟩ := joinO_some hF
          refine WP_seqS [2, 4, 5, 35, 36, 37, 38, 39, 40, 41, 42, 43, 44, 45, 46, 47, 48, 49, 50, 51, 52, 53, 54, 55, 56, 57, 58, 59, 60, 61, 62, 63, 64, 65, 66] (fun (g : Unit) => []) (fun g wl => Hd O w wl S [.blk b6 [.bool p0.Tails, .int .i64 p0.Days, v1, v2, .int .i64 p0.Least] 50, .fz (.sl Rp.str v1 p0.Hide), .fz (.sl rGrain v2 p0.Grains)] ∧ k1196 () = some r) ?_ ?_
          · skip
            refine WP_seq_k fun K1198 hK1198 => ?_
            refine WP_region ?_
            refine RL_do rfl rfl (Do_assign (v := .int .i64 0) rfl) ?_
            refine (RL_nil (thenQ_n (hK1198 _ _ ?_)))
            refine WP_block ?_
            have H := own_nil H Rp.str 9
            unfold F_ref9_CheckMask_L2 at hF
            obtain ⟨B1662, n1663, eB1664, hF⟩ := loopO_some hF
            refine WP_loopS [2, 4, 5, 35, 36, 37, 38, 39, 40, 41, 42, 43, 44, 45, 46, 47, 48, 49, 50, 51, 52, 53, 54, 55, 56, 57, 58, 59, 60, 61, 62, 63, 64, 65, 66] (fun (g : Nat × (List Str) × Int × Value) => [(4, g.2.2.2), (5, .int .i64 g.2.2.1)]) (fun g wl => Hd O w wl S [.own Rp.str g.2.2.2 9 g.2.1, .blk b6 [.bool p0.Tails, .int .i64 p0.Days, v1, v2, .int .i64 p0.Least] 50, .fz (.sl Rp.str v1 p0.Hide), .fz (.sl rGrain v2 p0.Grains)] ∧ loopN B1662 g.1 (g.2.1, g.2.2.1) = some r) (fun g => g.1) (n1663, [], 0, .slice none 0 0) (Sl_cons rfl (Sl_cons rfl Sl_nil)) ⟨H.pick [3, 0, 1, 2] (by decide), hF⟩ ?_
            clear H hF
            rintro ⟨n1663, g1658, g1660, v1659⟩ ρ w1666 ⟨H, hF⟩
            obtain ⟨n1667, rfl, hF⟩ := loopN_pos hF
            have hF := loop_body eB1664 hF
            refine WP_seq_k fun K1677 hK1677 => ?_
            refine WP_seq_k fun K1678 hK1678 => ?_
            refine WP_region ?_
            refine RL_do rfl rfl (Do_move (v := .int .i64 g1660) rfl) ?_
            refine RL_do rfl rfl (fa50_3 rfl) ?_
            refine RL_do rfl rfl (Do_load one48 rfl (Cells.get (Blk.cells (H.item (i := 1) rfl)) (i := 3) rfl)) ?_
            obtain ⟨x1679, e1680, hF⟩ := letO_some hF
            obtain ⟨a1681, c1682, q1683⟩ := SlF.len ((H.item (i := 3) rfl))
            refine RL_do rfl rfl (Do_as (Do_len u48 q1683) (congrArg (Value.int .i64) e1680)) ?_
            obtain ⟨x1684, e1685, hF⟩ := letO_some hF
            refine RL_do rfl rfl (Do_as (Do_lss (a := g1660) (b := x1679) rfl rfl) (congrArg Value.bool e1685)) ?_
            refine (RL_nil (thenQ_n (hK1678 _ _ ?_)))
            refine WP_ifb (b := x1684) rfl (fun c1686 => ?_) (fun c1686 => ?_)
            · have hF := iteB_t c1686 hF
              refine (WP_skip (thenQ_n (hK1677 _ _ ?_)))
              refine WP_seq_k fun K1789 hK1789 => ?_
              refine WP_block ?_
              refine WP_seq_k fun K1790 hK1790 => ?_
              refine WP_region ?_
              refine RL_do rfl rfl (Do_move (v := v1659) rfl) ?_
              refine RL_do rfl rfl (fa50_3 rfl) ?_
              refine RL_do rfl rfl (Do_load one48 rfl (Cells.get (Blk.cells (H.item (i := 1) rfl)) (i := 3) rfl)) ?_
              refine RL_do rfl rfl (Do_move (v := .int .i64 g1660) rfl) ?_
              obtain ⟨x1791, e1792, hF⟩ := bindO_some hF
              obtain ⟨b1793, o1794, c1795, cs1796, q1797, h1800, h1798, h1799, h1801⟩ := rd_at (H.item (i := 3) rfl) e1792
              obtain rfl := rGrain_open h1800
              have H := H.fz (.at b1793 (o1794 + g1660.toNat * 2) _) ⟨h1798, h1799, h1801⟩
              refine RL_do rfl rfl (Do_idx u48 sz82 q1797 rfl (at_some e1792).1 (at_some e1792).2.1 rfl rfl) ?_
              refine RL_do rfl rfl (fa82_0 rfl) ?_
              refine RL_do rfl rfl (Do_load one9 rfl (Cells.get (H.item (i := 4) rfl).2.2 (i := 0) rfl)) ?_
              obtain ⟨x1803, e1804, hF⟩ := letO_some hF
              subst e1804
              refine RL_ex rfl rfl (Lx_bs (r := Rp.str) (xl := [x1791.Track]) (cs := [.string (bs x1791.Track)]) u35 el9 (by decide) (by decide) rfl (fillB_parts (vs := [.string (bs x1791.Track)]) (by decide) rfl rfl ⟨rfl, trivial⟩ rfl) H ⟨[.string (bs x1791.Track)], [], rfl, rfl, rfl⟩) ?_
              rintro v1806 w1807 H
              obtain ⟨x1808, e1809, hF⟩ := bindO_some hF
              refine RL_ex rfl rfl (Lx_app H (i := 0) rfl u35 el9 rfl rfl (Sr.of_own (H.item (i := 5) rfl)) e1809) ?_
              rintro v1810 w1811 H
              refine RL_do rfl rfl (Do_assign (v := v1810) rfl) ?_
              refine (RL_nil (thenQ_n (hK1790 _ _ ?_)))
              refine WP_seq_k fun K1833 hK1833 => ?_
              refine WP_seq_k fun K1834 hK1834 => ?_
              refine WP_region ?_
              refine RL_do rfl rfl (Do_move (v := v1810) rfl) ?_
              refine RL_do rfl rfl (Do_move (v := .int .i64 g1660) rfl) ?_
              obtain ⟨x1835, e1836, hF⟩ := bindO_some hF
              obtain ⟨b1837, c1839, cs1840, q1841, h1844, h1845⟩ := own_at (H.item (i := 0) rfl) e1836
              obtain rfl : cs1840 = [.string (bs x1835)] := h1844
              refine RL_do rfl rfl (Do_idx u35 sz9 q1841 rfl (at_some e1836).1 (at_some e1836).2.1 rfl rfl) ?_
              refine RL_do rfl rfl (Do_load one9 rfl (Cells.get h1845 (i := 0) rfl)) ?_
              have H1846 := H
              obtain ⟨x1847, e1848, hF⟩ := bindO_some hF
              refine RL_call rfl rfl (DoC_func en46 rfl) (F_ref6_IsName_w x1835 _ e1848 _ _ _ (H.enter [] [] (by decide) rfl)) ?_
              rintro _ w1849 ⟨rfl, G1850⟩
              have H := H1846.step (G1850.only : Only [] _ _)
              refine ⟨_, rfl, ?_⟩
              obtain ⟨x1851, e1852, hF⟩ := letO_some hF
              refine RL_do rfl rfl (Do_as (Do_not (p := x1847) rfl) (congrArg Value.bool e1852)) ?_
              refine (RL_nil (thenQ_n (hK1834 _ _ ?_)))
              refine WP_ifb (b := x1851) rfl (fun c1853 => ?_) (fun c1853 => ?_)
              · have hF := iteB_t c1853 hF
                refine WP_seq_k fun K1854 hK1854 => ?_
                refine WP_region ?_
                refine RL_do rfl rfl (Do_assign (v := .int .i64 8) rfl) ?_
                refine (RL_nil (thenQ_n (hK1854 _ _ ?_)))
                have hR := Option.some.inj hF
                subst hR
                refine (WP_ret (thenQ_r (blockQ_r (thenQ_r (thenQ_r (blockQ_r (thenQ_r (post1 (v1 := .int .i64 8) rfl rfl ?_))))))))
                exact ⟨rfl, H.pick [] (by decide)⟩
              · have hF := iteB_f c1853 hF
                refine (WP_skip (thenQ_n (hK1833 _ _ ?_)))
                refine WP_seq_k fun K1863 hK1863 => ?_
                refine WP_seq_k fun K1864 hK1864 => ?_
                refine WP_region ?_
                refine RL_do rfl rfl (Do_move (v := v1810) rfl) ?_
                refine RL_do rfl rfl (Do_move (v := .int .i64 g1660) rfl) ?_
                have H1865 := H
                have H := H.freeze (i := 0) rfl
                obtain ⟨x1866, e1867, hF⟩ := bindO_some hF
                refine RL_call rfl rfl (DoC_func en51 rfl) (F_ref9_twice_w x1808 g1660 v1810 _ e1867 _ _ _ (H.enter [] [0] (by decide) rfl)) ?_
                rintro _ w1868 ⟨rfl, G1869⟩
                have H := H1865.step (G1869.only : Only [] _ _)
                refine ⟨_, rfl, ?_⟩
                refine (RL_nil (thenQ_n (hK1864 _ _ ?_)))
                refine WP_ifb (b := x1866) rfl (fun c1870 => ?_) (fun c1870 => ?_)
                · have hF := iteB_t c1870 hF
                  refine WP_seq_k fun K1871 hK1871 => ?_
                  refine WP_region ?_
                  refine RL_do rfl rfl (Do_assign (v := .int .i64 5) rfl) ?_
                  refine (RL_nil (thenQ_n (hK1871 _ _ ?_)))
                  have hR := Option.some.inj hF
                  subst hR
                  refine (WP_ret (thenQ_r (blockQ_r (thenQ_r (thenQ_r (blockQ_r (thenQ_r (post1 (v1 := .int .i64 5) rfl rfl ?_))))))))
                  exact ⟨rfl, H.pick [] (by decide)⟩
                · have hF := iteB_f c1870 hF
                  refine (WP_skip (thenQ_n (hK1863 _ _ ?_)))
                  refine WP_seq_k fun K1872 hK1872 => ?_
                  refine WP_region ?_
                  refine RL_do rfl rfl (fa50_3 rfl) ?_
                  refine RL_do rfl rfl (Do_load one48 rfl (Cells.get (Blk.cells (H.item (i := 1) rfl)) (i := 3) rfl)) ?_
                  refine RL_do rfl rfl (Do_move (v := .int .i64 g1660) rfl) ?_
                  obtain ⟨x1873, e1874, hF⟩ := bindO_some hF
                  obtain ⟨b1875, o1876, c1877, cs1878, q1879, h1882, h1880, h1881, h1883⟩ := rd_at (H.item (i := 3) rfl) e1874
                  obtain rfl := rGrain_open h1882
                  have H := H.fz (.at b1875 (o1876 + g1660.toNat * 2) _) ⟨h1880, h1881, h1883⟩
                  refine RL_do rfl rfl (Do_idx u48 sz82 q1879 rfl (at_some e1874).1 (at_some e1874).2.1 rfl rfl) ?_
                  refine RL_do rfl rfl (fa82_1 rfl) ?_
                  refine RL_do rfl rfl (Do_load one3 rfl (Cells.get (H.item (i := 6) rfl).2.2 (i := 1) rfl)) ?_
                  have H1885 := H
                  obtain ⟨x1886, e1887, hF⟩ := bindO_some hF
                  refine RL_call rfl rfl (DoC_func en32 rfl) (F_ref9_outside_w x1873.N 1 1125899906842624 _ e1887 _ _ _ (H.enter [] [] (by decide) rfl)) ?_
                  rintro _ w1888 ⟨rfl, G1889⟩
                  have H := H1885.step (G1889.only : Only [] _ _)
                  refine ⟨_, rfl, ?_⟩
                  refine (RL_nil (thenQ_n (hK1872 _ _ ?_)))
                  refine WP_ifb (b := x1886) rfl (fun c1890 => ?_) (fun c1890 => ?_)
                  · have hF := iteB_t c1890 hF
                    refine WP_seq_k fun K1891 hK1891 => ?_
                    refine WP_region ?_
                    refine RL_do rfl rfl (Do_assign (v := .int .i64 9) rfl) ?_
                    refine (RL_nil (thenQ_n (hK1891 _ _ ?_)))
                    have hR := Option.some.inj hF
                    subst hR
                    refine (WP_ret (blockQ_r (thenQ_r (thenQ_r (blockQ_r (thenQ_r (post1 (v1 := .int .i64 9) rfl rfl ?_)))))))
                    exact ⟨rfl, H.pick [] (by decide)⟩
                  · have hF := iteB_f c1890 hF
                    refine (WP_skip (blockQ_n (thenQ_n (hK1789 _ _ ?_))))
                    refine WP_region ?_
                    refine RL_do rfl rfl (Do_move (v := .int .i64 g1660) rfl) ?_
                    obtain ⟨x1892, e1893, hF⟩ := letO_some hF
                    refine RL_do rfl rfl (Do_add (a := g1660) (b := 1) rfl rfl e1893) ?_
                    refine RL_do rfl rfl (Do_assign (v := .int .i64 x1892) rfl) ?_
                    refine (RL_nil (thenQ_n (And.intro ?_ ?_)))
                    · repeat' (first | with_reducible exact Fr_refl | refine Fr_upd rfl ?_ | refine Fr_over rfl rfl ?_)
                    · exact ⟨(n1667, x1808, x1892, v1810), (Sl_cons rfl (Sl_cons rfl Sl_nil)), ⟨H.pick [0, 1, 2, 3] (by decide), hF⟩, Nat.lt_succ_self _⟩
            · have hF := iteB_f c1686 hF
              refine (WP_exit (thenQ_x (thenQ_x (blockQ_eq (thenQ_n (And.intro ?_ ?_))))))
              · repeat' (first | with_reducible exact Fr_refl | refine Fr_upd rfl ?_ | refine Fr_over rfl rfl ?_)
              · exact ⟨(), Sl_nil, ⟨H.pick [1, 2, 3] (by decide), hF⟩⟩
          · rintro _ ρ w1195 ⟨H, hF⟩
            have hF := join_body ek1197 hF
            refine WP_seq_k fun K1902 hK1902 => ?_
            refine WP_seq_k fun K1903 hK1903 => ?_
            refine WP_region ?_
            refine RL_do rfl rfl (fa50_4 rfl) ?_
            refine RL_do rfl rfl (Do_load one3 rfl (Cells.get (Blk.cells (H.item (i := 0) rfl)) (i := 4) rfl)) ?_
            have H1904 := H
            obtain ⟨x1905, e1906, hF⟩ := bindO_some hF
            refine RL_call rfl rfl (DoC_func en32 rfl) (F_ref9_outside_w p0.Least 1 1000 _ e1906 _ _ _ (H.enter [] [] (by decide) rfl)) ?_
            rintro _ w1907 ⟨rfl, G1908⟩
            have H := H1904.step (G1908.only : Only [] _ _)
            refine ⟨_, rfl, ?_⟩
            refine (RL_nil (thenQ_n (hK1903 _ _ ?_)))
            refine WP_ifb (b := x1905) rfl (fun c1909 => ?_) (fun c1909 => ?_)
            · have hF := iteB_t c1909 hF
              refine WP_seq_k fun K1910 hK1910 => ?_
              refine WP_region ?_
              refine RL_do rfl rfl (Do_assign (v := .int .i64 9) rfl) ?_
              refine (RL_nil (thenQ_n (hK1910 _ _ ?_)))
              have hR := Option.some.inj hF
              subst hR
              refine (WP_ret (thenQ_r (post1 (v1 := .int .i64 9) rfl rfl ?_)))
              exact ⟨rfl, H.pick [] (by decide)⟩
            · have hF := iteB_f c1909 hF
              refine (WP_skip (thenQ_n (hK1902 _ _ ?_)))
              refine WP_seq_k fun K1911 hK1911 => ?_
              refine WP_region ?_
              refine RL_do rfl rfl (Do_assign (v := .int .i64 0) rfl) ?_
              refine (RL_nil (thenQ_n (hK1911 _ _ ?_)))
              have hR := Option.some.inj hF
              subst hR
              refine (WP_ret (post1 (v1 := .int .i64 0) rfl rfl ?_))
              exact ⟨rfl, H.pick [] (by decide)⟩
end Go.Proofs.YtbjhondbheijiaaDoor.L
namespace Go.Proofs.YtbjhondbheijiaaDoor.L
open Go.RowKit Go.OB Go.Lf
/- orangebox/orangeboxref9.floor -/
set_option maxHeartbeats 4000000 in
theorem F_ref9_floor_w (p0 : Int) (p1 : Int) (r : Int) (hF : F_ref9_floor p0 p1 = some r) (O S : List Nat) (w : World) (H : Hd O w w S []) :
    Calls Tryd.prog 74 ([.int .i64 p0, .int .i64 p1] : List Value).toArray w fun e w' => e = .returned (.int .i64 r) ∧ Hd O w w' S [] := by
  unfold F_ref9_floor at hF
  refine calls_of_WP 19 Tryd.func74 rfl rfl rfl ?_
  refine WP_seq_k fun K1 hK1 => ?_
  refine WP_region ?_
  refine RL_do rfl rfl (Do_assign (v := .int .i64 0) rfl) ?_
  refine (RL_nil (thenQ_n (hK1 _ _ ?_)))
  refine WP_seq_k fun K2 hK2 => ?_
  refine WP_region ?_
  refine RL_do rfl rfl (Do_move (v := .int .i64 p0) rfl) ?_
  refine RL_do rfl rfl (Do_move (v := .int .i64 p1) rfl) ?_
  obtain ⟨x3, e4, hF⟩ := bindO_some hF
  refine RL_do rfl rfl (Do_quo' (j := p0) (q := p1) rfl rfl e4) ?_
  refine RL_do rfl rfl (Do_assign (v := .int .i64 x3) rfl) ?_
  refine (RL_nil (thenQ_n (hK2 _ _ ?_)))
  obtain ⟨g13, hF, hK15⟩ := bindO_some hF
  refine WP_seqS [5, 9, 10, 11, 12, 13, 14] (fun (g : Unit) => [(5, .int .i64 g13)]) (fun g wl => Hd O w wl S []) ?_ ?_
  · skip
    refine WP_seq_k fun K16 hK16 => ?_
    refine WP_region ?_
    refine RL_do rfl rfl (Do_move (v := .int .i64 p0) rfl) ?_
    refine RL_do rfl rfl (Do_move (v := .int .i64 p1) rfl) ?_
    obtain ⟨x17, e18, hF⟩ := bindO_some hF
    refine RL_do rfl rfl (Do_rem' (j := p0) (q := p1) rfl rfl e18) ?_
    obtain ⟨x19, e20, hF⟩ := letO_some hF
    refine RL_do rfl rfl (Do_as (Do_lss (a := x17) (b := 0) rfl rfl) (congrArg Value.bool e20)) ?_
    refine (RL_nil (thenQ_n (hK16 _ _ ?_)))
    refine WP_ifb (b := x19) rfl (fun c21 => ?_) (fun c21 => ?_)
    · have hF := iteB_t c21 hF
      refine WP_region ?_
      refine RL_do rfl rfl (Do_move (v := .int .i64 x3) rfl) ?_
      obtain ⟨x22, e23, hF⟩ := letO_some hF
      refine RL_do rfl rfl (Do_sub (a := x3) (b := 1) rfl rfl e23) ?_
      refine RL_do rfl rfl (Do_assign (v := .int .i64 x22) rfl) ?_
      have hR := Option.some.inj hF
      subst hR
      refine (RL_nil (thenQ_n (And.intro ?_ ?_)))
      · repeat' (first | with_reducible exact Fr_refl | refine Fr_upd rfl ?_ | refine Fr_over rfl rfl ?_)
      · exact ⟨(), (Sl_cons rfl Sl_nil), H.pick [] (by decide)⟩
    · have hF := iteB_f c21 hF
      have hR := Option.some.inj hF
      subst hR
      refine (WP_skip (thenQ_n (And.intro ?_ ?_)))
      · repeat' (first | with_reducible exact Fr_refl | refine Fr_upd rfl ?_ | refine Fr_over rfl rfl ?_)
      · exact ⟨(), (Sl_cons rfl Sl_nil), H.pick [] (by decide)⟩
  · rintro _ ρ w14 H
    have hF := hK15
    refine WP_seq_k fun K24 hK24 => ?_
    refine WP_region ?_
    refine RL_do rfl rfl (Do_move (v := .int .i64 g13) rfl) ?_
    refine RL_do rfl rfl (Do_move (v := .int .i64 p1) rfl) ?_
    obtain ⟨x25, e26, hF⟩ := letO_some hF
    refine RL_do rfl rfl (Do_mul (a := g13) (b := p1) rfl rfl e26) ?_
    obtain ⟨x27, e28, hF⟩ := letO_some hF
    refine RL_do rfl rfl (Do_max (j := x25) (q := (-1125899906842624)) rfl rfl e28) ?_
    refine RL_do rfl rfl (Do_assign (v := .int .i64 x27) rfl) ?_
    refine (RL_nil (thenQ_n (hK24 _ _ ?_)))
    have hR := Option.some.inj hF
    subst hR
    refine (WP_ret (post1 (v1 := .int .i64 x27) rfl rfl ?_))
    exact ⟨rfl, H.pick [] (by decide)⟩
end Go.Proofs.YtbjhondbheijiaaDoor.L
