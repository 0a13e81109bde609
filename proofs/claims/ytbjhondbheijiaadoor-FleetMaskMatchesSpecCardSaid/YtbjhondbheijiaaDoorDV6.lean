/- Walks: what each function computes, for every argument; no condition but those that stand in the statements. -/
import Derived.Test.YtbjhondbheijiaaDoorDV0
import Derived.Test.YtbjhondbheijiaaDoorDV5
import Derived.Test.YtbjhondbheijiaaDoorDV2
import Derived.Test.YtbjhondbheijiaaDoorDV3
import Derived.Test.YtbjhondbheijiaaDoorDV4
namespace Go.Proofs.YtbjhondbheijiaaDoor.L
open Go.RowKit Go.OB Go.Lf
/- orangebox/fleet.CheckTable -/
set_option maxHeartbeats 4000000 in
theorem F_fleet_CheckTable_w (p0 : List FleetRow) (v1 : Value) (r : Int) (hF : F_fleet_CheckTable p0 = some r) (O S : List Nat) (w : World) (H : Hd O w w S [.fz (.sl rFleetRow v1 p0)]) :
    Calls Tryd.prog 7 ([v1] : List Value).toArray w fun e w' => e = .returned (.int .i64 r) ∧ Hd O w w' S [] := by
  unfold F_fleet_CheckTable at hF
  refine calls_of_WP 67 Tryd.func7 rfl rfl rfl ?_
  refine WP_seq_k fun K3 hK3 => ?_
  refine WP_region ?_
  refine RL_do rfl rfl (Do_assign (v := .int .i64 0) rfl) ?_
  refine (RL_nil (thenQ_n (hK3 _ _ ?_)))
  refine WP_seq_k fun K14 hK14 => ?_
  refine WP_seq_k fun K15 hK15 => ?_
  refine WP_region ?_
  refine RL_do rfl rfl (Do_move (v := v1) rfl) ?_
  obtain ⟨x16, e17, hF⟩ := letO_some hF
  obtain ⟨a18, c19, q20⟩ := SlF.len ((H.item (i := 0) rfl))
  refine RL_do rfl rfl (Do_as (Do_len u22 q20) (congrArg (Value.int .i64) e17)) ?_
  obtain ⟨x21, e22, hF⟩ := letO_some hF
  refine RL_do rfl rfl (Do_as (Do_gtr (a := x16) (b := 300) rfl rfl) (congrArg Value.bool e22)) ?_
  refine (RL_nil (thenQ_n (hK15 _ _ ?_)))
  refine WP_ifb (b := x21) rfl (fun c23 => ?_) (fun c23 => ?_)
  · have hF := iteB_t c23 hF
    refine WP_seq_k fun K24 hK24 => ?_
    refine WP_region ?_
    refine RL_do rfl rfl (Do_assign (v := .int .i64 3) rfl) ?_
    refine (RL_nil (thenQ_n (hK24 _ _ ?_)))
    have hR := Option.some.inj hF
    subst hR
    refine (WP_ret (thenQ_r (post1 (v1 := .int .i64 3) rfl rfl ?_)))
    exact ⟨rfl, H.pick [] (by decide)⟩
  · have hF := iteB_f c23 hF
    refine (WP_skip (thenQ_n (hK14 _ _ ?_)))
    refine WP_seq_k fun K25 hK25 => ?_
    refine WP_region ?_
    refine RL_do rfl rfl (Do_move (v := v1) rfl) ?_
    have H26 := H
    obtain ⟨x27, e28, hF⟩ := bindO_some hF
    refine RL_call rfl rfl (DoC_func en25 rfl) (F_slices_IndexFunc___api_FleetRow_api_FleetRow__fleet_CheckTable_1_w p0 v1 _ e28 _ _ _ (H.enter [] [0] (by decide) rfl)) ?_
    rintro _ w29 ⟨rfl, G30⟩
    have H := H26.step (G30.only : Only [] _ _)
    refine ⟨_, rfl, ?_⟩
    refine RL_do rfl rfl (Do_assign (v := .int .i64 x27) rfl) ?_
    refine (RL_nil (thenQ_n (hK25 _ _ ?_)))
    refine WP_seq_k fun K31 hK31 => ?_
    refine WP_region ?_
    refine RL_do rfl rfl (Do_assign (v := .func (.func 27) #[] #[]) rfl) ?_
    refine (RL_nil (thenQ_n (hK31 _ _ ?_)))
    obtain ⟨k476, ek477, hF⟩ := joinO_some hF
    refine WP_seqS [2, 5, 6, 12, 13, 14, 15, 16, 17, 18, 19, 20, 21, 22, 23, 24, 25, 26, 27, 28, 29, 30, 31, 32, 33, 34, 35, 36, 37, 38, 39, 40, 41, 42, 43, 44, 45, 46, 47, 48, 49, 50, 51, 52, 53, 54, 55, 56, 57, 58, 59, 60, 61, 62, 63, 64, 65, 66] (fun (g : Unit) => []) (fun g wl => Hd O w wl S [] ∧ k476 () = some r) ?_ ?_
    · skip
      refine WP_seq_k fun K478 hK478 => ?_
      refine WP_region ?_
      refine RL_do rfl rfl (Do_move (v := v1) rfl) ?_
      obtain ⟨x479, e480, hF⟩ := letO_some hF
      obtain ⟨a481, c482, q483⟩ := SlF.len ((H.item (i := 0) rfl))
      refine RL_do rfl rfl (Do_as (Do_len u22 q483) (congrArg (Value.int .i64) e480)) ?_
      refine RL_do rfl rfl (Do_move (v := .int .i64 0) rfl) ?_
      refine (RL_nil (thenQ_n (hK478 _ _ ?_)))
      refine WP_block ?_
      unfold F_fleet_CheckTable_L1 at hF
      obtain ⟨B916, n917, eB918, hF⟩ := loopO_some hF
      refine WP_loopS [2, 5, 6, 14, 15, 16, 17, 18, 19, 20, 21, 22, 23, 24, 25, 26, 27, 28, 29, 30, 31, 32, 33, 34, 35, 36, 37, 38, 39, 40, 41, 42, 43, 44, 45, 46, 47, 48, 49, 50, 51, 52, 53, 54, 55, 56, 57, 58, 59, 60, 61, 62, 63, 64, 65, 66] (fun (g : Nat × Int) => [(14, .int .i64 g.2)]) (fun g wl => Hd O w wl S [.fz (.sl rFleetRow v1 p0)] ∧ loopN B916 g.1 g.2 = some r) (fun g => g.1) (n917, 0) (Sl_cons rfl Sl_nil) ⟨H.pick [0] (by decide), hF⟩ ?_
      clear H hF
      rintro ⟨n917, g915⟩ ρ w920 ⟨H, hF⟩
      obtain ⟨n921, rfl, hF⟩ := loopN_pos hF
      have hF := loop_body eB918 hF
      refine WP_seq_k fun K922 hK922 => ?_
      refine WP_region ?_
      obtain ⟨x923, e924, hF⟩ := letO_some hF
      refine RL_do rfl rfl (Do_as (Do_lss (a := g915) (b := x479) rfl rfl) (congrArg Value.bool e924)) ?_
      refine (RL_nil (thenQ_n (hK922 _ _ ?_)))
      refine WP_seq_k fun K926 hK926 => ?_
      refine WP_ifb (b := x923) rfl (fun c927 => ?_) (fun c927 => ?_)
      · have hF := iteB_t c927 hF
        refine (WP_skip (thenQ_n (hK926 _ _ ?_)))
        refine WP_seq_k fun K1031 hK1031 => ?_
        refine WP_block ?_
        refine WP_seq_k fun K1032 hK1032 => ?_
        refine WP_region ?_
        refine RL_do rfl rfl (Do_move (v := .int .i64 g915) rfl) ?_
        obtain ⟨x1033, e1034, hF⟩ := bindO_some hF
        obtain ⟨b1035, o1036, c1037, cs1038, q1039, h1042, h1040, h1041, h1043⟩ := rd_at (H.item (i := 0) rfl) e1034
        obtain ⟨v1044, rfl, h1045⟩ := rFleetRow_open h1042
        have H := H.fzs [.at b1035 (o1036 + g915.toNat * 4) _, .sl (Rp.int .i64) v1044 x1033.Events] ⟨⟨h1040, h1041, h1043⟩, h1045, trivial⟩
        refine RL_do rfl rfl (Do_idx u22 sz25 q1039 rfl (at_some e1034).1 (at_some e1034).2.1 rfl rfl) ?_
        refine RL_do rfl rfl (Do_as (Do_loads (cs := [.string (bs x1033.Key), .bool x1033.Hidden, .int .i64 x1033.Flights, v1044]) agg25 rfl sz25 rfl (H.item (i := 1) rfl).2.2) rfl) ?_
        refine RL_ex rfl rfl (Lx_alloc zero25 H) ?_
        rintro _ w1050 ⟨b1048, rfl, H⟩
        refine RL_do rfl rfl (Do_assign (v := .int .i64 g915) rfl) ?_
        refine RL_exU rfl (Lx_storeN (vs := [.string (bs x1033.Key), .bool x1033.Hidden, .int .i64 x1033.Flights, v1044]) H 3 rfl sz25 rfl rfl rfl ⟨rfl, rfl, rfl, (slf_one (H.item (i := 2) rfl)), trivial⟩ rfl) ?_
        rintro w1051 H
        refine (RL_nil (thenQ_n (hK1032 _ _ ?_)))
        refine WP_block ?_
        refine WP_seq_k fun K1052 hK1052 => ?_
        refine WP_region ?_
        refine RL_do rfl rfl (Do_move (v := v1) rfl) ?_
        refine RL_do rfl rfl (Do_move (v := .int .i64 g915) rfl) ?_
        obtain ⟨x1053, e1054, hF⟩ := bindO_some hF
        refine RL_exP rfl rfl (Lx_slice_h u22 sz25 (H.item (i := 0) rfl) rfl rfl e1054) ?_
        rintro v1055 h1056
        have H := H.fz (.sl rFleetRow v1055 x1053) h1056
        refine RL_do rfl rfl (Do_makeFunc rfl) ?_
        obtain ⟨x1058, e1059, hF⟩ := bindO_some hF
        refine RL_call rfl rfl (DoC_func en29 rfl) (F_slices_ContainsFunc___api_FleetRow_api_FleetRow__fleet_CheckTable_3_w x1053 x1033 v1055 b1048 v1044 _ e1059 _ _ _ (H.enter [3] [4, 2] (by decide) rfl)) ?_
        rintro _ w1060 ⟨rfl, G1061⟩
        have H : Hd O _ w1060 _ [.fz (.sl rFleetRow v1 p0), .fz (.at b1035 (o1036 + g915.toNat * 4) [.string (bs x1033.Key), .bool x1033.Hidden, .int .i64 x1033.Flights, v1044]), .fz (.sl (Rp.int .i64) v1044 x1033.Events), .fz (.sl rFleetRow v1055 x1053), .blk b1048 [.string (bs x1033.Key), .bool x1033.Hidden, .int .i64 x1033.Flights, v1044] 25] := H.back [3] [4, 2] rfl G1061
        refine ⟨_, rfl, ?_⟩
        refine RL_do rfl rfl (Do_assign (v := .bool x1058) rfl) ?_
        refine (RL_nil (thenQ_n (hK1052 _ _ ?_)))
        refine WP_ifb (b := x1058) rfl (fun c1062 => ?_) (fun c1062 => ?_)
        · have hF := iteB_t c1062 hF
          refine WP_seq_k fun K1063 hK1063 => ?_
          refine WP_region ?_
          refine RL_do rfl rfl (Do_assign (v := .int .i64 5) rfl) ?_
          refine (RL_nil (thenQ_n (hK1063 _ _ ?_)))
          have hR := Option.some.inj hF
          subst hR
          refine (WP_ret (blockQ_r (blockQ_r (thenQ_r (thenQ_r (blockQ_r (thenQ_r (post1 (v1 := .int .i64 5) rfl rfl ?_))))))))
          exact ⟨rfl, H.pick [] (by decide)⟩
        · have hF := iteB_f c1062 hF
          obtain ⟨g1075, hF, hK1077⟩ := bindO_some hF
          refine WP_seqS [25, 26, 27, 28, 29, 30, 31, 32, 33, 34, 35, 36, 37, 38] (fun (g : Unit) => [(25, .bool g1075)]) (fun g wl => Hd O w wl S [.fz (.sl rFleetRow v1 p0), .blk b1048 [.string (bs x1033.Key), .bool x1033.Hidden, .int .i64 x1033.Flights, v1044] 25, .fz (.sl (Rp.int .i64) v1044 x1033.Events)]) ?_ ?_
          · skip
            refine WP_region ?_
            refine RL_do rfl rfl (fa25_1 rfl) ?_
            refine RL_do rfl rfl (Do_load one4 rfl (Cells.get (Blk.cells (H.item (i := 4) rfl)) (i := 1) rfl)) ?_
            refine RL_splitb (b := x1033.Hidden) rfl rfl rfl (fun c1078 => ?_) (fun c1078 => ?_)
            · have hF := iteB_t c1078 hF
              refine RL_do rfl rfl (fa25_2 rfl) ?_
              refine RL_do rfl rfl (Do_load one3 rfl (Cells.get (Blk.cells (H.item (i := 4) rfl)) (i := 2) rfl)) ?_
              obtain ⟨x1079, e1080, hF⟩ := letO_some hF
              refine RL_do rfl rfl (Do_as (Do_neq (a := x1033.Flights) (b := 0) rfl rfl) (congrArg Value.bool e1080)) ?_
              refine RL_splitb (b := x1079) rfl rfl rfl (fun c1081 => ?_) (fun c1081 => ?_)
              · have hF := iteB_t c1081 hF
                refine RL_off rfl rfl ?_
                refine RL_off rfl rfl ?_
                refine RL_off rfl rfl ?_
                refine RL_off rfl rfl ?_
                refine RL_do rfl rfl (Do_pick_t (v := .bool true) rfl rfl) ?_
                refine RL_do rfl rfl (Do_pick_t (v := .bool true) rfl rfl) ?_
                refine RL_do rfl rfl (Do_assign (v := .bool true) rfl) ?_
                have hR := Option.some.inj hF
                subst hR
                refine (RL_nil (thenQ_n (And.intro ?_ ?_)))
                · repeat' (first | with_reducible exact Fr_refl | refine Fr_upd rfl ?_ | refine Fr_over rfl rfl ?_)
                · exact ⟨(), (Sl_cons rfl Sl_nil), H.pick [0, 4, 2] (by decide)⟩
              · have hF := iteB_f c1081 hF
                refine RL_do rfl rfl (fa25_3 rfl) ?_
                refine RL_do rfl rfl (Do_load one23 rfl (Cells.get (Blk.cells (H.item (i := 4) rfl)) (i := 3) rfl)) ?_
                obtain ⟨x1082, e1083, hF⟩ := letO_some hF
                obtain ⟨a1084, c1085, q1086⟩ := SlF.len ((H.item (i := 2) rfl))
                refine RL_do rfl rfl (Do_as (Do_len u23 q1086) (congrArg (Value.int .i64) e1083)) ?_
                obtain ⟨x1087, e1088, hF⟩ := letO_some hF
                refine RL_do rfl rfl (Do_as (Do_gtr (a := x1082) (b := 0) rfl rfl) (congrArg Value.bool e1088)) ?_
                refine RL_do rfl rfl (Do_pick_f (v := .bool x1087) rfl rfl) ?_
                refine RL_do rfl rfl (Do_pick_t (v := .bool x1087) rfl rfl) ?_
                refine RL_do rfl rfl (Do_assign (v := .bool x1087) rfl) ?_
                have hR := Option.some.inj hF
                subst hR
                refine (RL_nil (thenQ_n (And.intro ?_ ?_)))
                · repeat' (first | with_reducible exact Fr_refl | refine Fr_upd rfl ?_ | refine Fr_over rfl rfl ?_)
                · exact ⟨(), (Sl_cons rfl Sl_nil), H.pick [0, 4, 2] (by decide)⟩
            · have hF := iteB_f c1078 hF
              refine RL_off rfl rfl ?_
              refine RL_off rfl rfl ?_
              refine RL_off rfl rfl ?_
              refine RL_off rfl rfl ?_
              refine RL_off rfl rfl ?_
              refine RL_off rfl rfl ?_
              refine RL_off rfl rfl ?_
              refine RL_off rfl rfl ?_
              refine RL_off rfl rfl ?_
              refine RL_do rfl rfl (Do_pick_f (v := .bool false) rfl rfl) ?_
              refine RL_do rfl rfl (Do_assign (v := .bool false) rfl) ?_
              have hR := Option.some.inj hF
              subst hR
              refine (RL_nil (thenQ_n (And.intro ?_ ?_)))
              · repeat' (first | with_reducible exact Fr_refl | refine Fr_upd rfl ?_ | refine Fr_over rfl rfl ?_)
              · exact ⟨(), (Sl_cons rfl Sl_nil), H.pick [0, 4, 2] (by decide)⟩
          · rintro _ ρ w1076 H
            have hF := hK1077
            refine WP_ifb (b := g1075) rfl (fun c1089 => ?_) (fun c1089 => ?_)
            · have hF := iteB_t c1089 hF
              refine WP_seq_k fun K1090 hK1090 => ?_
              refine WP_region ?_
              refine RL_do rfl rfl (Do_assign (v := .int .i64 2) rfl) ?_
              refine (RL_nil (thenQ_n (hK1090 _ _ ?_)))
              have hR := Option.some.inj hF
              subst hR
              refine (WP_ret (blockQ_r (blockQ_r (thenQ_r (thenQ_r (blockQ_r (thenQ_r (post1 (v1 := .int .i64 2) rfl rfl ?_))))))))
              exact ⟨rfl, H.pick [] (by decide)⟩
            · have hF := iteB_f c1089 hF
              obtain ⟨g1102, hF, hK1104⟩ := bindO_some hF
              refine WP_seqS [39, 40, 41, 42, 43, 44, 45, 46, 47, 48, 49] (fun (g : Unit) => [(39, .bool g1102)]) (fun g wl => Hd O w wl S [.fz (.sl rFleetRow v1 p0), .blk b1048 [.string (bs x1033.Key), .bool x1033.Hidden, .int .i64 x1033.Flights, v1044] 25, .fz (.sl (Rp.int .i64) v1044 x1033.Events)]) ?_ ?_
              · skip
                refine WP_region ?_
                refine RL_do rfl rfl (Do_move (v := .func (.func 27) #[] #[]) rfl) ?_
                refine RL_do rfl rfl (fa25_2 rfl) ?_
                refine RL_do rfl rfl (Do_load one3 rfl (Cells.get (Blk.cells (H.item (i := 1) rfl)) (i := 2) rfl)) ?_
                have H1105 := H
                obtain ⟨x1106, e1107, hF⟩ := bindO_some hF
                refine RL_call rfl rfl (DoC_clo en27 rfl rfl) (F_fleet_CheckTable_2_w x1033.Flights _ e1107 _ _ _ (H.enter [] [] (by decide) rfl)) ?_
                rintro _ w1108 ⟨rfl, G1109⟩
                have H := H1105.step (G1109.only : Only [] _ _)
                refine ⟨_, rfl, ?_⟩
                refine RL_splitb (b := x1106) rfl rfl rfl (fun c1110 => ?_) (fun c1110 => ?_)
                · have hF := iteB_t c1110 hF
                  refine RL_off rfl rfl ?_
                  refine RL_off rfl rfl ?_
                  refine RL_off rfl rfl ?_
                  refine RL_off rfl rfl ?_
                  refine RL_do rfl rfl (Do_pick_t (v := .bool true) rfl rfl) ?_
                  refine RL_do rfl rfl (Do_assign (v := .bool true) rfl) ?_
                  have hR := Option.some.inj hF
                  subst hR
                  refine (RL_nil (thenQ_n (And.intro ?_ ?_)))
                  · repeat' (first | with_reducible exact Fr_refl | refine Fr_upd rfl ?_ | refine Fr_over rfl rfl ?_)
                  · exact ⟨(), (Sl_cons rfl Sl_nil), H.pick [0, 1, 2] (by decide)⟩
                · have hF := iteB_f c1110 hF
                  refine RL_do rfl rfl (fa25_3 rfl) ?_
                  refine RL_do rfl rfl (Do_load one23 rfl (Cells.get (Blk.cells (H.item (i := 1) rfl)) (i := 3) rfl)) ?_
                  refine RL_do rfl rfl (Do_move (v := .func (.func 27) #[] #[]) rfl) ?_
                  have H1111 := H
                  obtain ⟨x1112, e1113, hF⟩ := bindO_some hF
                  refine RL_call rfl rfl (DoC_func en31 rfl) (F_slices_ContainsFunc___int_int__fleet_CheckTable_2_w x1033.Events v1044 _ e1113 _ _ _ (H.enter [] [2] (by decide) rfl)) ?_
                  rintro _ w1114 ⟨rfl, G1115⟩
                  have H := H1111.step (G1115.only : Only [] _ _)
                  refine ⟨_, rfl, ?_⟩
                  refine RL_do rfl rfl (Do_pick_f (v := .bool x1112) rfl rfl) ?_
                  refine RL_do rfl rfl (Do_assign (v := .bool x1112) rfl) ?_
                  have hR := Option.some.inj hF
                  subst hR
                  refine (RL_nil (thenQ_n (And.intro ?_ ?_)))
                  · repeat' (first | with_reducible exact Fr_refl | refine Fr_upd rfl ?_ | refine Fr_over rfl rfl ?_)
                  · exact ⟨(), (Sl_cons rfl Sl_nil), H.pick [0, 1, 2] (by decide)⟩
              · rintro _ ρ w1103 H
                have hF := hK1104
                refine WP_ifb (b := g1102) rfl (fun c1116 => ?_) (fun c1116 => ?_)
                · have hF := iteB_t c1116 hF
                  refine WP_seq_k fun K1117 hK1117 => ?_
                  refine WP_region ?_
                  refine RL_do rfl rfl (Do_assign (v := .int .i64 9) rfl) ?_
                  refine (RL_nil (thenQ_n (hK1117 _ _ ?_)))
                  have hR := Option.some.inj hF
                  subst hR
                  refine (WP_ret (blockQ_r (blockQ_r (thenQ_r (thenQ_r (blockQ_r (thenQ_r (post1 (v1 := .int .i64 9) rfl rfl ?_))))))))
                  exact ⟨rfl, H.pick [] (by decide)⟩
                · have hF := iteB_f c1116 hF
                  obtain ⟨g1152, hF, hK1154⟩ := bindO_some hF
                  refine WP_seqS [50, 51, 52, 53, 54, 55, 56, 57, 58, 59, 60, 61, 62, 63, 64, 65] (fun (g : Unit) => [(50, .bool g1152)]) (fun g wl => Hd O w wl S [.fz (.sl rFleetRow v1 p0)]) ?_ ?_
                  · skip
                    have H1155 := H
                    have H := H.rebase
                    have H1156 := H
                    refine WP_mix0 H [0, 1, 2, 3, 4, 5, 6, 7, 8, 9, 10, 11, 12, 13, 14, 15] [.pure, .read, .pure, .pure, .pure, .read, .pure, .pure, .pure, .pure, .pure, .read, .pure, .pure, .pure, .pure] mixed (by kernel_rfl) (by kernel_rfl) (by kernel_rfl) rfl ?_
                    refine Mx.XL_pure rfl rfl rfl (fun w' hw' => fa25_1 rfl) ?_
                    refine Mx.XL_read oS rfl rfl rfl (fun w' hw' => Do_load one4 rfl (Cells.get (Blk.cells ((H.sees hw').item (i := 1) rfl)) (i := 1) rfl)) ?_
                    obtain ⟨x1157, e1158, hF⟩ := letO_some hF
                    refine Mx.XL_pure rfl rfl rfl (fun w' hw' => Do_as (Do_not (p := x1033.Hidden) rfl) (congrArg Value.bool e1158)) ?_
                    refine Mx.XL_splitb (b := x1157) rfl rfl rfl rfl (fun c1159 => ?_) (fun c1159 => ?_)
                    · have hF := iteB_t c1159 hF
                      refine Mx.XL_pure rfl rfl rfl (fun w' hw' => fa25_3 rfl) ?_
                      refine Mx.XL_read oS rfl rfl rfl (fun w' hw' => Do_load one23 rfl (Cells.get (Blk.cells ((H.sees hw').item (i := 1) rfl)) (i := 3) rfl)) ?_
                      obtain ⟨x1160, e1161, hF⟩ := letO_some hF
                      obtain ⟨a1162, c1163, q1164⟩ := SlF.len ((H.item (i := 2) rfl))
                      refine Mx.XL_pure rfl rfl rfl (fun w' hw' => Do_as (Do_len u23 q1164) (congrArg (Value.int .i64) e1161)) ?_
                      refine Mx.XL_pure rfl rfl rfl (fun w' hw' => Do_move (v := v1) rfl) ?_
                      refine Mx.XL_pure rfl rfl rfl (fun w' hw' => Do_move (v := .int .i64 x27) rfl) ?_
                      obtain ⟨x1165, e1166, hF⟩ := bindO_some hF
                      obtain ⟨b1167, o1168, c1169, cs1170, q1171, h1174, h1172, h1173, h1175⟩ := rd_at (H.item (i := 0) rfl) e1166
                      obtain ⟨v1176, rfl, h1177⟩ := rFleetRow_open h1174
                      have H := H.fzs [.at b1167 (o1168 + x27.toNat * 4) _, .sl (Rp.int .i64) v1176 x1165.Events] ⟨⟨h1172, h1173, h1175⟩, h1177, trivial⟩
                      refine Mx.XL_pure rfl rfl rfl (fun w' hw' => Do_idx u22 sz25 q1171 rfl (at_some e1166).1 (at_some e1166).2.1 rfl rfl) ?_
                      refine Mx.XL_pure rfl rfl rfl (fun w' hw' => fa25_3 rfl) ?_
                      refine Mx.XL_read oS rfl rfl rfl (fun w' hw' => Do_load one23 rfl (Cells.get ((H.sees hw').item (i := 3) rfl).2.2 (i := 3) rfl)) ?_
                      obtain ⟨x1180, e1181, hF⟩ := letO_some hF
                      obtain ⟨a1182, c1183, q1184⟩ := SlF.len ((H.item (i := 4) rfl))
                      refine Mx.XL_pure rfl rfl rfl (fun w' hw' => Do_as (Do_len u23 q1184) (congrArg (Value.int .i64) e1181)) ?_
                      obtain ⟨x1185, e1186, hF⟩ := letO_some hF
                      refine Mx.XL_pure rfl rfl rfl (fun w' hw' => Do_as (Do_neq (a := x1160) (b := x1180) rfl rfl) (congrArg Value.bool e1186)) ?_
                      refine Mx.XL_pure rfl rfl rfl (fun w' hw' => Do_pick_t (v := .bool x1185) rfl rfl) ?_
                      refine Mx.XL_pure rfl rfl rfl (fun w' hw' => Do_assign (v := .bool x1185) rfl) ?_
                      refine Mx.XL_nil fun w1187 hS => ?_
                      have H := H.sees hS
                      have H := H1155.rejoin H
                      have hR := Option.some.inj hF
                      subst hR
                      refine (thenQ_n (And.intro ?_ ?_))
                      · repeat' (first | with_reducible exact Fr_refl | refine Fr_upd rfl ?_ | refine Fr_over rfl rfl ?_)
                      · exact ⟨(), (Sl_cons rfl Sl_nil), H.pick [0] (by decide)⟩
                    · have hF := iteB_f c1159 hF
                      refine Mx.XL_offp rfl rfl rfl ?_
                      refine Mx.XL_offr oS rfl rfl rfl ?_
                      refine Mx.XL_offp rfl rfl rfl ?_
                      refine Mx.XL_offp rfl rfl rfl ?_
                      refine Mx.XL_offp rfl rfl rfl ?_
                      refine Mx.XL_offp rfl rfl rfl ?_
                      refine Mx.XL_offp rfl rfl rfl ?_
                      refine Mx.XL_offr oS rfl rfl rfl ?_
                      refine Mx.XL_offp rfl rfl rfl ?_
                      refine Mx.XL_offp rfl rfl rfl ?_
                      refine Mx.XL_pure rfl rfl rfl (fun w' hw' => Do_pick_f (v := .bool false) rfl rfl) ?_
                      refine Mx.XL_pure rfl rfl rfl (fun w' hw' => Do_assign (v := .bool false) rfl) ?_
                      refine Mx.XL_nil fun w1188 hS => ?_
                      have H := H.sees hS
                      have H := H1155.rejoin H
                      have hR := Option.some.inj hF
                      subst hR
                      refine (thenQ_n (And.intro ?_ ?_))
                      · repeat' (first | with_reducible exact Fr_refl | refine Fr_upd rfl ?_ | refine Fr_over rfl rfl ?_)
                      · exact ⟨(), (Sl_cons rfl Sl_nil), H.pick [0] (by decide)⟩
                  · rintro _ ρ w1153 H
                    have hF := hK1154
                    refine WP_ifb (b := g1152) rfl (fun c1189 => ?_) (fun c1189 => ?_)
                    · have hF := iteB_t c1189 hF
                      refine WP_seq_k fun K1190 hK1190 => ?_
                      refine WP_region ?_
                      refine RL_do rfl rfl (Do_assign (v := .int .i64 2) rfl) ?_
                      refine (RL_nil (thenQ_n (hK1190 _ _ ?_)))
                      have hR := Option.some.inj hF
                      subst hR
                      refine (WP_ret (blockQ_r (blockQ_r (thenQ_r (thenQ_r (blockQ_r (thenQ_r (post1 (v1 := .int .i64 2) rfl rfl ?_))))))))
                      exact ⟨rfl, H.pick [] (by decide)⟩
                    · have hF := iteB_f c1189 hF
                      refine (WP_skip (blockQ_n (blockQ_n (thenQ_n (hK1031 _ _ ?_)))))
                      refine WP_region ?_
                      obtain ⟨x1191, e1192, hF⟩ := letO_some hF
                      refine RL_do rfl rfl (Do_add (a := g915) (b := 1) rfl rfl e1192) ?_
                      refine RL_do rfl rfl (Do_move (v := .int .i64 x1191) rfl) ?_
                      refine (RL_nil (thenQ_n (And.intro ?_ ?_)))
                      · repeat' (first | with_reducible exact Fr_refl | refine Fr_upd rfl ?_ | refine Fr_over rfl rfl ?_)
                      · exact ⟨(n921, x1191), (Sl_cons rfl Sl_nil), ⟨H.pick [0] (by decide), hF⟩, Nat.lt_succ_self _⟩
      · have hF := iteB_f c927 hF
        refine (WP_exit (thenQ_x (thenQ_x (blockQ_eq (thenQ_n (And.intro ?_ ?_))))))
        · repeat' (first | with_reducible exact Fr_refl | refine Fr_upd rfl ?_ | refine Fr_over rfl rfl ?_)
        · exact ⟨(), Sl_nil, ⟨H.pick [] (by decide), hF⟩⟩
    · rintro _ ρ w475 ⟨H, hF⟩
      have hF := join_body ek477 hF
      refine WP_seq_k fun K1193 hK1193 => ?_
      refine WP_region ?_
      refine RL_do rfl rfl (Do_assign (v := .int .i64 0) rfl) ?_
      refine (RL_nil (thenQ_n (hK1193 _ _ ?_)))
      have hR := Option.some.inj hF
      subst hR
      refine (WP_ret (post1 (v1 := .int .i64 0) rfl rfl ?_))
      exact ⟨rfl, H.pick [] (by decide)⟩
end Go.Proofs.YtbjhondbheijiaaDoor.L
namespace Go.Proofs.YtbjhondbheijiaaDoor.L
open Go.RowKit Go.OB Go.Lf
/- orangebox/fleet.Total -/
set_option maxHeartbeats 4000000 in
theorem F_fleet_Total_w (p0 : List FleetRow) (v1 : Value) (r : FleetRow × Int) (hF : F_fleet_Total p0 = some r) (O S : List Nat) (w : World) (H : Hd O w w S [.fz (.sl rFleetRow v1 p0)]) :
    Calls Tryd.prog 5 ([v1] : List Value).toArray w fun e w' => ∃ u3, e = .returned (.tuple #[.agg [.string (bs r.1.Key), .bool r.1.Hidden, .int .i64 r.1.Flights, u3].toArray, .int .i64 r.2]) ∧ Hd O w w' S [.fz (.sl (Rp.int .i64) u3 r.1.Events)] := by
  unfold F_fleet_Total at hF
  refine calls_of_WP 57 Tryd.func5 rfl rfl rfl ?_
  refine WP_seq_k fun K4 hK4 => ?_
  refine WP_region ?_
  refine RL_ex rfl rfl (Lx_alloc zero25 H) ?_
  rintro _ w7 ⟨b5, rfl, H⟩
  refine RL_do rfl rfl (Do_assign (v := .int .i64 0) rfl) ?_
  refine (RL_nil (thenQ_n (hK4 _ _ ?_)))
  refine WP_seq_k fun K20 hK20 => ?_
  refine WP_seq_k fun K21 hK21 => ?_
  refine WP_region ?_
  refine RL_do rfl rfl (Do_move (v := v1) rfl) ?_
  have H22 := H
  obtain ⟨x23, e24, hF⟩ := bindO_some hF
  refine RL_call rfl rfl (DoC_func en7 rfl) (F_fleet_CheckTable_w p0 v1 _ e24 _ _ _ (H.enter [] [0] (by decide) rfl)) ?_
  rintro _ w25 ⟨rfl, G26⟩
  have H := H22.step (G26.only : Only [] _ _)
  refine ⟨_, rfl, ?_⟩
  refine RL_do rfl rfl (Do_assign (v := .int .i64 x23) rfl) ?_
  refine (RL_nil (thenQ_n (hK21 _ _ ?_)))
  refine WP_seq_k fun K27 hK27 => ?_
  refine WP_region ?_
  refine RL_do rfl rfl (Do_move (v := .int .i64 x23) rfl) ?_
  obtain ⟨x28, e29, hF⟩ := letO_some hF
  refine RL_do rfl rfl (Do_as (Do_neq (a := x23) (b := 0) rfl rfl) (congrArg Value.bool e29)) ?_
  refine (RL_nil (thenQ_n (hK27 _ _ ?_)))
  refine WP_ifb (b := x28) rfl (fun c30 => ?_) (fun c30 => ?_)
  · have hF := iteB_t c30 hF
    refine WP_seq_k fun K31 hK31 => ?_
    refine WP_region ?_
    refine RL_do rfl rfl (Do_build (cs := [.string (bs []), .bool false, .int .i64 0, .slice none 0 0]) bz25) ?_
    refine RL_do rfl rfl (Do_move (v := .int .i64 x23) rfl) ?_
    refine RL_exU rfl (Lx_storeN (vs := [.string (bs []), .bool false, .int .i64 0, .slice none 0 0]) H 1 rfl sz25 rfl rfl rfl ⟨rfl, rfl, rfl, rfl, trivial⟩ rfl) ?_
    rintro w32 H
    refine RL_do rfl rfl (Do_assign (v := .int .i64 x23) rfl) ?_
    refine (RL_nil (thenQ_n (hK31 _ _ ?_)))
    have H := H.fz (.sl (Rp.int .i64) (.slice none 0 0) []) SlF.nil
    have hR := Option.some.inj hF
    subst hR
    refine (WP_ret (thenQ_r (postc1 (v1 := .int .i64 x23) rfl rfl (run_loadVar_agg agg25 sz25 rfl (Blk.cells (H.item (i := 1) rfl))) rfl ?_)))
    exact ⟨.slice none 0 0, rfl, H.pick [2] (by decide)⟩
  · have hF := iteB_f c30 hF
    refine (WP_skip (thenQ_n (hK20 _ _ ?_)))
    refine WP_seq_k fun K34 hK34 => ?_
    refine WP_region ?_
    refine RL_ex rfl rfl (Lx_alloc zero25 H) ?_
    rintro _ w37 ⟨b35, rfl, H⟩
    refine (RL_nil (thenQ_n (hK34 _ _ ?_)))
    obtain ⟨j598, hF, hK597⟩ := bindO_some hF
    refine WP_seqS [7, 8, 9, 16, 17, 18, 19, 20, 21, 22, 23, 24, 25, 26, 27, 28, 29, 30, 31, 32, 33, 34, 35, 36, 37, 38, 39, 40, 41, 42, 43, 44, 45, 46, 47, 48, 49, 50, 51, 52, 53, 54, 55] (fun (g : Value) => []) (fun g wl => Hd O w wl S [.blk b5 [.string (bs []), .bool false, .int .i64 0, .slice none 0 0] 25, .blk b35 [.string (bs []), .bool false, .int .i64 j598.1, g] 25, .own (Rp.int .i64) g 3 j598.2.1, .fz (.nl g j598.2.2)]) ?_ ?_
    · skip
      refine WP_seq_k fun K599 hK599 => ?_
      refine WP_region ?_
      refine RL_do rfl rfl (Do_move (v := v1) rfl) ?_
      obtain ⟨x600, e601, hF⟩ := letO_some hF
      obtain ⟨a602, c603, q604⟩ := SlF.len ((H.item (i := 0) rfl))
      refine RL_do rfl rfl (Do_as (Do_len u22 q604) (congrArg (Value.int .i64) e601)) ?_
      refine RL_do rfl rfl (Do_move (v := .int .i64 0) rfl) ?_
      refine (RL_nil (thenQ_n (hK599 _ _ ?_)))
      refine WP_block ?_
      have H := own_nil H (Rp.int .i64) 3
      have H := H.fz (.nl (.slice none 0 0) true) rfl
      unfold F_fleet_Total_L1 at hF
      obtain ⟨B1152, n1153, eB1154, hF⟩ := loopO_some hF
      refine WP_loopS [7, 8, 9, 18, 19, 20, 21, 22, 23, 24, 25, 26, 27, 28, 29, 30, 31, 32, 33, 34, 35, 36, 37, 38, 39, 40, 41, 42, 43, 44, 45, 46, 47, 48, 49, 50, 51, 52, 53, 54, 55] (fun (g : Nat × Int × Int × (List Int) × Bool × Value) => [(18, .int .i64 g.2.1)]) (fun g wl => Hd O w wl S [.fz (.sl rFleetRow v1 p0), .blk b5 [.string (bs []), .bool false, .int .i64 0, .slice none 0 0] 25, .blk b35 [.string (bs []), .bool false, .int .i64 g.2.2.1, g.2.2.2.2.2] 25, .own (Rp.int .i64) g.2.2.2.2.2 3 g.2.2.2.1, .fz (.nl g.2.2.2.2.2 g.2.2.2.2.1)] ∧ loopN B1152 g.1 (g.2.1, g.2.2.1, g.2.2.2.1, g.2.2.2.2.1) = some j598) (fun g => g.1) (n1153, 0, 0, [], true, .slice none 0 0) (Sl_cons rfl Sl_nil) ⟨H.pick [0, 1, 2, 3, 4] (by decide), hF⟩ ?_
      clear H hF
      rintro ⟨n1153, g1143, g1144, g1146, g1148, v1147⟩ ρ w1156 ⟨H, hF⟩
      obtain ⟨n1157, rfl, hF⟩ := loopN_pos hF
      have hF := loop_body eB1154 hF
      refine WP_seq_k fun K1158 hK1158 => ?_
      refine WP_region ?_
      obtain ⟨x1159, e1160, hF⟩ := letO_some hF
      refine RL_do rfl rfl (Do_as (Do_lss (a := g1143) (b := x600) rfl rfl) (congrArg Value.bool e1160)) ?_
      refine (RL_nil (thenQ_n (hK1158 _ _ ?_)))
      refine WP_seq_k fun K1162 hK1162 => ?_
      refine WP_ifb (b := x1159) rfl (fun c1163 => ?_) (fun c1163 => ?_)
      · have hF := iteB_t c1163 hF
        refine (WP_skip (thenQ_n (hK1162 _ _ ?_)))
        obtain ⟨j1419, hF, hK1418⟩ := bindO_some hF
        refine WP_seqS [7, 8, 9, 20, 21, 22, 23, 24, 25, 26, 27, 28, 29, 30, 31, 32, 33, 34, 35, 36, 37, 38, 39, 40, 41, 42, 43, 44, 45, 46, 47, 48, 49, 50, 51, 52, 53, 54] (fun (g : Value) => []) (fun g wl => Hd O w wl S [.fz (.sl rFleetRow v1 p0), .blk b5 [.string (bs []), .bool false, .int .i64 0, .slice none 0 0] 25, .blk b35 [.string (bs []), .bool false, .int .i64 j1419.1, g] 25, .own (Rp.int .i64) g 3 j1419.2.1, .fz (.nl g j1419.2.2)]) ?_ ?_
        · skip
          refine WP_block ?_
          refine WP_seq_k fun K1420 hK1420 => ?_
          refine WP_region ?_
          obtain ⟨x1421, e1422, hF⟩ := bindO_some hF
          obtain ⟨b1423, o1424, c1425, cs1426, q1427, h1430, h1428, h1429, h1431⟩ := rd_at (H.item (i := 0) rfl) e1422
          obtain ⟨v1432, rfl, h1433⟩ := rFleetRow_open h1430
          have H := H.fzs [.at b1423 (o1424 + g1143.toNat * 4) _, .sl (Rp.int .i64) v1432 x1421.Events] ⟨⟨h1428, h1429, h1431⟩, h1433, trivial⟩
          refine RL_do rfl rfl (Do_idx u22 sz25 q1427 rfl (at_some e1422).1 (at_some e1422).2.1 rfl rfl) ?_
          refine RL_do rfl rfl (Do_as (Do_loads (cs := [.string (bs x1421.Key), .bool x1421.Hidden, .int .i64 x1421.Flights, v1432]) agg25 rfl sz25 rfl (H.item (i := 5) rfl).2.2) rfl) ?_
          refine RL_ex rfl rfl (Lx_alloc zero25 H) ?_
          rintro _ w1438 ⟨b1436, rfl, H⟩
          refine RL_exU rfl (Lx_storeN (vs := [.string (bs x1421.Key), .bool x1421.Hidden, .int .i64 x1421.Flights, v1432]) H 7 rfl sz25 rfl rfl rfl ⟨rfl, rfl, rfl, (slf_one (H.item (i := 6) rfl)), trivial⟩ rfl) ?_
          rintro w1439 H
          refine (RL_nil (thenQ_n (hK1420 _ _ ?_)))
          refine WP_seq_k fun K1442 hK1442 => ?_
          refine WP_seq_k fun K1443 hK1443 => ?_
          refine WP_region ?_
          refine RL_do rfl rfl (fa25_1 rfl) ?_
          refine RL_do rfl rfl (Do_load one4 rfl (Cells.get (Blk.cells (H.item (i := 7) rfl)) (i := 1) rfl)) ?_
          refine (RL_nil (thenQ_n (hK1443 _ _ ?_)))
          refine WP_ifb (b := x1421.Hidden) rfl (fun c1444 => ?_) (fun c1444 => ?_)
          · have hF := iteB_t c1444 hF
            have hR := Option.some.inj hF
            subst hR
            refine (WP_exit (thenQ_x (blockQ_eq (thenQ_n (And.intro ?_ ?_)))))
            · repeat' (first | with_reducible exact Fr_refl | refine Fr_upd rfl ?_ | refine Fr_over rfl rfl ?_)
            · exact ⟨v1147, Sl_nil, H.pick [0, 1, 2, 3, 4] (by decide)⟩
          · have hF := iteB_f c1444 hF
            refine (WP_skip (thenQ_n (hK1442 _ _ ?_)))
            obtain ⟨j1470, hF, hK1469⟩ := bindO_some hF
            refine WP_seqS [24, 25, 26, 27, 28, 29, 30, 31] (fun (g : Value) => []) (fun g wl => Hd O w wl S [.fz (.sl rFleetRow v1 p0), .blk b5 [.string (bs []), .bool false, .int .i64 0, .slice none 0 0] 25, .blk b35 [.string (bs []), .bool false, .int .i64 g1144, g] 25, .own (Rp.int .i64) g 3 j1470.1, .fz (.nl g j1470.2), .blk b1436 [.string (bs x1421.Key), .bool x1421.Hidden, .int .i64 x1421.Flights, v1432] 25, .fz (.sl (Rp.int .i64) v1432 x1421.Events)]) ?_ ?_
            · skip
              refine WP_seq_k fun K1471 hK1471 => ?_
              refine WP_region ?_
              refine RL_do rfl rfl (fa25_3 rfl) ?_
              refine RL_do rfl rfl (Do_load one23 rfl (Cells.get (Blk.cells (H.item (i := 2) rfl)) (i := 3) rfl)) ?_
              refine RL_do rfl rfl (Do_eqlnl u23 (own_sl (H.item (i := 3) rfl)) rfl rfl (H.item (i := 4) rfl)) ?_
              refine (RL_nil (thenQ_n (hK1471 _ _ ?_)))
              refine WP_ifb (b := g1148) rfl (fun c1475 => ?_) (fun c1475 => ?_)
              · have hF := iteB_t c1475 hF
                refine WP_region ?_
                refine RL_do rfl rfl (fa25_3 rfl) ?_
                refine RL_do rfl rfl (Do_load one23 rfl (Cells.get (Blk.cells (H.item (i := 7) rfl)) (i := 3) rfl)) ?_
                obtain ⟨x1476, e1477, hF⟩ := letO_some hF
                obtain ⟨a1478, c1479, q1480⟩ := SlF.len ((H.item (i := 6) rfl))
                refine RL_do rfl rfl (Do_as (Do_len u23 q1480) (congrArg (Value.int .i64) e1477)) ?_
                obtain ⟨x1481, e1482, hF⟩ := bindO_some hF
                refine RL_ex rfl rfl (Lx_makeN (r := (Rp.int .i64)) (zv := .int .i64 0) u23 el3 rfl (fun _ _ => rfl) rfl rfl e1482 H) ?_
                rintro v1484 w1486 ⟨H, h1485⟩
                have H := H.fz (.nl v1484 false) h1485
                refine RL_do rfl rfl (fa25_3 rfl) ?_
                refine RL_exU rfl (Lx_store1 H 2 rfl sz23 rfl (v := v1484) rfl (own_one (H.item (i := 8) rfl)) rfl) ?_
                rintro w1488 H
                have hR := Option.some.inj hF
                subst hR
                refine (RL_nil (thenQ_n (And.intro ?_ ?_)))
                · repeat' (first | with_reducible exact Fr_refl | refine Fr_upd rfl ?_ | refine Fr_over rfl rfl ?_)
                · exact ⟨v1484, Sl_nil, H.pick [0, 1, 2, 8, 9, 7, 6] (by decide)⟩
              · have hF := iteB_f c1475 hF
                have hR := Option.some.inj hF
                subst hR
                refine (WP_skip (thenQ_n (And.intro ?_ ?_)))
                · repeat' (first | with_reducible exact Fr_refl | refine Fr_upd rfl ?_ | refine Fr_over rfl rfl ?_)
                · exact ⟨v1147, Sl_nil, H.pick [0, 1, 2, 3, 4, 7, 6] (by decide)⟩
            · rintro v1465 ρ w1468 H
              have hF := hK1469
              obtain ⟨g1464, g1466⟩ := j1470
              refine WP_seq_k fun K1489 hK1489 => ?_
              refine WP_region ?_
              refine RL_do rfl rfl (fa25_2 rfl) ?_
              refine RL_do rfl rfl (Do_load one3 rfl (Cells.get (Blk.cells (H.item (i := 2) rfl)) (i := 2) rfl)) ?_
              refine RL_do rfl rfl (fa25_2 rfl) ?_
              refine RL_do rfl rfl (Do_load one3 rfl (Cells.get (Blk.cells (H.item (i := 5) rfl)) (i := 2) rfl)) ?_
              obtain ⟨x1490, e1491, hF⟩ := letO_some hF
              refine RL_do rfl rfl (Do_add (a := g1144) (b := x1421.Flights) rfl rfl e1491) ?_
              refine RL_do rfl rfl (fa25_2 rfl) ?_
              refine RL_exU rfl (Lx_store1 H 2 rfl sz3 rfl (v := .int .i64 x1490) rfl rfl rfl) ?_
              rintro w1492 H
              refine (RL_nil (thenQ_n (hK1489 _ _ ?_)))
              refine WP_seq_k fun K1493 hK1493 => ?_
              refine WP_region ?_
              refine RL_do rfl rfl (fa25_3 rfl) ?_
              refine RL_do rfl rfl (Do_load one23 rfl (Cells.get (Blk.cells (H.item (i := 5) rfl)) (i := 3) rfl)) ?_
              obtain ⟨x1494, e1495, hF⟩ := letO_some hF
              obtain ⟨a1496, c1497, q1498⟩ := SlF.len ((H.item (i := 6) rfl))
              refine RL_do rfl rfl (Do_as (Do_len u23 q1498) (congrArg (Value.int .i64) e1495)) ?_
              refine RL_do rfl rfl (Do_move (v := .int .i64 0) rfl) ?_
              refine (RL_nil (thenQ_n (hK1493 _ _ ?_)))
              refine WP_block ?_
              unfold F_fleet_Total_L2 at hF
              obtain ⟨B1681, n1682, eB1683, hF⟩ := loopO_some hF
              refine WP_loopS [8, 9, 41, 42, 43, 44, 45, 46, 47, 48, 49, 50, 51, 52, 53, 54] (fun (g : Nat × Int × (List Int)) => [(41, .int .i64 g.2.1)]) (fun g wl => Hd O w wl S [.fz (.sl rFleetRow v1 p0), .blk b5 [.string (bs []), .bool false, .int .i64 0, .slice none 0 0] 25, .blk b35 [.string (bs []), .bool false, .int .i64 x1490, v1465] 25, .own (Rp.int .i64) v1465 3 g.2.2, .fz (.nl v1465 g1466), .fz (.sl (Rp.int .i64) v1432 x1421.Events)] ∧ loopN B1681 g.1 (g.2.1, g.2.2) = some j1419) (fun g => g.1) (n1682, 0, g1464) (Sl_cons rfl Sl_nil) ⟨H.pick [0, 1, 2, 3, 4, 6] (by decide), hF⟩ ?_
              clear H hF
              rintro ⟨n1682, g1679, g1680⟩ ρ w1685 ⟨H, hF⟩
              obtain ⟨n1686, rfl, hF⟩ := loopN_pos hF
              have hF := loop_body eB1683 hF
              refine WP_seq_k fun K1687 hK1687 => ?_
              refine WP_region ?_
              obtain ⟨x1688, e1689, hF⟩ := letO_some hF
              refine RL_do rfl rfl (Do_as (Do_lss (a := g1679) (b := x1494) rfl rfl) (congrArg Value.bool e1689)) ?_
              refine (RL_nil (thenQ_n (hK1687 _ _ ?_)))
              refine WP_seq_k fun K1691 hK1691 => ?_
              refine WP_ifb (b := x1688) rfl (fun c1692 => ?_) (fun c1692 => ?_)
              · have hF := iteB_t c1692 hF
                refine (WP_skip (thenQ_n (hK1691 _ _ ?_)))
                refine WP_seq_k fun K1733 hK1733 => ?_
                refine WP_block ?_
                refine WP_seq_k fun K1734 hK1734 => ?_
                refine WP_region ?_
                refine RL_do rfl rfl (Do_move (v := .int .i64 g1679) rfl) ?_
                obtain ⟨x1735, e1736, hF⟩ := bindO_some hF
                obtain ⟨b1737, o1738, c1739, cs1740, q1741, h1744, h1742, h1743, h1745⟩ := rd_at (H.item (i := 5) rfl) e1736
                obtain rfl : cs1740 = [.int .i64 x1735] := h1744
                have H := H.fz (.at b1737 (o1738 + g1679.toNat * 1) _) ⟨h1742, h1743, h1745⟩
                refine RL_do rfl rfl (Do_idx u23 sz3 q1741 rfl (at_some e1736).1 (at_some e1736).2.1 rfl rfl) ?_
                refine RL_do rfl rfl (Do_load one3 rfl (Cells.get (H.item (i := 6) rfl).2.2 (i := 0) rfl)) ?_
                refine RL_do rfl rfl (Do_assign (v := .int .i64 g1679) rfl) ?_
                refine RL_do rfl rfl (Do_assign (v := .int .i64 x1735) rfl) ?_
                refine (RL_nil (thenQ_n (hK1734 _ _ ?_)))
                refine WP_region ?_
                refine RL_do rfl rfl (fa25_3 rfl) ?_
                refine RL_do rfl rfl (Do_load one23 rfl (Cells.get (Blk.cells (H.item (i := 2) rfl)) (i := 3) rfl)) ?_
                refine RL_do rfl rfl (Do_move (v := .int .i64 g1679) rfl) ?_
                obtain ⟨x1747, e1748, hF⟩ := bindO_some hF
                obtain ⟨b1749, c1751, cs1752, q1753, h1756, h1757⟩ := own_at (H.item (i := 3) rfl) e1748
                obtain rfl : cs1752 = [.int .i64 x1747] := h1756
                refine RL_do rfl rfl (Do_idx u23 sz3 q1753 rfl (at_some e1748).1 (at_some e1748).2.1 rfl rfl) ?_
                refine RL_do rfl rfl (Do_load one3 rfl (Cells.get h1757 (i := 0) rfl)) ?_
                refine RL_do rfl rfl (Do_move (v := .int .i64 x1735) rfl) ?_
                obtain ⟨x1758, e1759, hF⟩ := letO_some hF
                refine RL_do rfl rfl (Do_add (a := x1747) (b := x1735) rfl rfl e1759) ?_
                obtain ⟨x1760, e1761, hF⟩ := bindO_some hF
                obtain ⟨b1762, c1764, cs1765, q1766, h1769, h1770⟩ := own_at (H.item (i := 3) rfl) e1761
                obtain rfl : cs1765 = [.int .i64 x1760] := h1769
                refine RL_do rfl rfl (Do_idx u23 sz3 q1766 rfl (at_some e1761).1 (at_some e1761).2.1 rfl rfl) ?_
                obtain ⟨x1771, e1772, hF⟩ := bindO_some hF
                refine RL_exU rfl (Lx_own_store (vs := [.int .i64 x1758]) (off := 0) H 3 rfl q1766 h1770 rfl sz3 rfl rfl rfl (allone_mem ⟨rfl, trivial⟩) e1772 (by decide) rfl rfl) ?_
                rintro w1773 H
                refine (RL_nil (blockQ_n (thenQ_n (hK1733 _ _ ?_))))
                refine WP_region ?_
                obtain ⟨x1774, e1775, hF⟩ := letO_some hF
                refine RL_do rfl rfl (Do_add (a := g1679) (b := 1) rfl rfl e1775) ?_
                refine RL_do rfl rfl (Do_move (v := .int .i64 x1774) rfl) ?_
                refine (RL_nil (thenQ_n (And.intro ?_ ?_)))
                · repeat' (first | with_reducible exact Fr_refl | refine Fr_upd rfl ?_ | refine Fr_over rfl rfl ?_)
                · exact ⟨(n1686, x1774, x1771), (Sl_cons rfl Sl_nil), ⟨H.pick [0, 1, 2, 3, 4, 5] (by decide), hF⟩, Nat.lt_succ_self _⟩
              · have hF := iteB_f c1692 hF
                have hR := Option.some.inj hF
                subst hR
                refine (WP_exit (thenQ_x (thenQ_x (blockQ_eq (blockQ_n (thenQ_n (And.intro ?_ ?_)))))))
                · repeat' (first | with_reducible exact Fr_refl | refine Fr_upd rfl ?_ | refine Fr_over rfl rfl ?_)
                · exact ⟨v1465, Sl_nil, H.pick [0, 1, 2, 3, 4] (by decide)⟩
        · rintro v1414 ρ w1417 H
          have hF := hK1418
          obtain ⟨g1411, g1413, g1415⟩ := j1419
          refine WP_region ?_
          obtain ⟨x1776, e1777, hF⟩ := letO_some hF
          refine RL_do rfl rfl (Do_add (a := g1143) (b := 1) rfl rfl e1777) ?_
          refine RL_do rfl rfl (Do_move (v := .int .i64 x1776) rfl) ?_
          refine (RL_nil (thenQ_n (And.intro ?_ ?_)))
          · repeat' (first | with_reducible exact Fr_refl | refine Fr_upd rfl ?_ | refine Fr_over rfl rfl ?_)
          · exact ⟨(n1157, x1776, g1411, g1413, g1415, v1414), (Sl_cons rfl Sl_nil), ⟨H.pick [0, 1, 2, 3, 4] (by decide), hF⟩, Nat.lt_succ_self _⟩
      · have hF := iteB_f c1163 hF
        have hR := Option.some.inj hF
        subst hR
        refine (WP_exit (thenQ_x (thenQ_x (blockQ_eq (thenQ_n (And.intro ?_ ?_))))))
        · repeat' (first | with_reducible exact Fr_refl | refine Fr_upd rfl ?_ | refine Fr_over rfl rfl ?_)
        · exact ⟨v1147, Sl_nil, H.pick [1, 2, 3, 4] (by decide)⟩
    · rintro v593 ρ w596 H
      have hF := hK597
      obtain ⟨g590, g592, g594⟩ := j598
      refine WP_seq_k fun K1778 hK1778 => ?_
      refine WP_region ?_
      refine RL_do rfl rfl (Do_as (Do_loads (cs := [.string (bs []), .bool false, .int .i64 g590, v593]) agg25 rfl sz25 rfl (Blk.cells (H.item (i := 1) rfl))) rfl) ?_
      refine RL_exU rfl (Lx_storeN (vs := [.string (bs []), .bool false, .int .i64 g590, v593]) H 0 rfl sz25 rfl rfl rfl ⟨rfl, rfl, rfl, (own_one (H.item (i := 2) rfl)), trivial⟩ rfl) ?_
      rintro w1779 H
      refine RL_do rfl rfl (Do_assign (v := .int .i64 0) rfl) ?_
      refine (RL_nil (thenQ_n (hK1778 _ _ ?_)))
      have H := H.freeze (i := 2) rfl
      have hR := Option.some.inj hF
      subst hR
      refine (WP_ret (postc1 (v1 := .int .i64 0) rfl rfl (run_loadVar_agg agg25 sz25 rfl (Blk.cells (H.item (i := 0) rfl))) rfl ?_))
      exact ⟨v593, rfl, H.pick [2] (by decide)⟩
end Go.Proofs.YtbjhondbheijiaaDoor.L
namespace Go.Proofs.YtbjhondbheijiaaDoor.L
open Go.RowKit Go.OB Go.Lf
/- orangebox/orangeboxlaw9.totals -/
set_option maxHeartbeats 4000000 in
theorem F_law9_totals_w (r : Bool) (hF : F_law9_totals = some r) (O S : List Nat) (w : World) (H : Hd O w w S []) :
    Calls Tryd.prog 17 ([] : List Value).toArray w fun e w' => e = .returned (.bool r) ∧ Hd O w w' S [] := by
  unfold F_law9_totals at hF
  refine calls_of_WP 32 Tryd.func17 rfl rfl rfl ?_
  refine WP_seq_k fun K1 hK1 => ?_
  refine WP_region ?_
  refine RL_do rfl rfl (Do_assign (v := .bool false) rfl) ?_
  refine (RL_nil (thenQ_n (hK1 _ _ ?_)))
  refine WP_seq_k fun K2 hK2 => ?_
  refine WP_region ?_
  obtain ⟨x3, e4, hF⟩ := letO_some hF
  subst e4
  refine RL_ex rfl rfl (Lx_bs (r := (Rp.int .i64)) (xl := [1]) (cs := [.int .i64 1]) u23 el3 (by decide) (by decide) rfl (fillB_parts (vs := [.int .i64 1]) (by decide) rfl rfl ⟨rfl, trivial⟩ rfl) H ⟨[.int .i64 1], [], rfl, rfl, rfl⟩) ?_
  rintro v6 w7 H
  obtain ⟨a8, c9, q10⟩ := Sr.len (Sr.of_own (H.item (i := 0) rfl))
  refine RL_do rfl rfl (Do_build (cs := [.string (bs [97]), .bool false, .int .i64 2, v6]) (by rw [q10]; exact bt25_0_2_3 _ _ a8 _ c9)) ?_
  obtain ⟨x11, e12, hF⟩ := letO_some hF
  subst e12
  refine RL_ex rfl rfl (Lx_bs (r := (Rp.int .i64)) (xl := [4]) (cs := [.int .i64 4]) u23 el3 (by decide) (by decide) rfl (fillB_parts (vs := [.int .i64 4]) (by decide) rfl rfl ⟨rfl, trivial⟩ rfl) H ⟨[.int .i64 4], [], rfl, rfl, rfl⟩) ?_
  rintro v14 w15 H
  obtain ⟨a16, c17, q18⟩ := Sr.len (Sr.of_own (H.item (i := 1) rfl))
  refine RL_do rfl rfl (Do_build (cs := [.string (bs [98]), .bool false, .int .i64 3, v14]) (by rw [q18]; exact bt25_0_2_3 _ _ a16 _ c17)) ?_
  have H := H.freeze (i := 0) rfl
  have H := H.freeze (i := 1) rfl
  obtain ⟨x19, e20, hF⟩ := letO_some hF
  subst e20
  refine RL_ex rfl rfl (Lx_bs (r := rFleetRow) (xl := [FleetRow.mk [97] false 2 ([1] : List Int), FleetRow.mk [98] false 3 ([4] : List Int)]) (cs := [.string (bs [97]), .bool false, .int .i64 2, v6, .string (bs [98]), .bool false, .int .i64 3, v14]) u22 el25 (by decide) (by decide) rfl (fillB_parts (vs := [.agg [.string (bs [97]), .bool false, .int .i64 2, v6].toArray, .agg [.string (bs [98]), .bool false, .int .i64 3, v14].toArray]) (by decide) rfl rfl ⟨rfl, rfl, trivial⟩ rfl) H ⟨[.string (bs [97]), .bool false, .int .i64 2, v6], [.string (bs [98]), .bool false, .int .i64 3, v14], rfl, (rFleetRow_mk (x := FleetRow.mk [97] false 2 ([1] : List Int)) (H.item (i := 0) rfl)), ⟨[.string (bs [98]), .bool false, .int .i64 3, v14], [], rfl, (rFleetRow_mk (x := FleetRow.mk [98] false 3 ([4] : List Int)) (H.item (i := 1) rfl)), rfl⟩⟩) ?_
  rintro v22 w23 H
  have H := H.freeze (i := 2) rfl
  obtain ⟨⟨x24, x25⟩, e26, hF⟩ := bindO_some hF
  refine RL_call rfl rfl (DoC_func en5 rfl) (F_fleet_Total_w ([FleetRow.mk [97] false 2 ([1] : List Int), FleetRow.mk [98] false 3 ([4] : List Int)] : List FleetRow) v22 _ e26 _ _ _ (H.enter [] [2] (by decide) rfl)) ?_
  rintro _ w29 ⟨v27, rfl, G30⟩
  have H := H.back1 [2] rfl G30
  refine ⟨_, rfl, ?_⟩
  refine RL_do rfl rfl (Do_move (v := .tuple #[.agg [.string (bs x24.Key), .bool x24.Hidden, .int .i64 x24.Flights, v27].toArray, .int .i64 x25]) rfl) ?_
  refine RL_do rfl rfl (Do_extract (v := .agg [.string (bs x24.Key), .bool x24.Hidden, .int .i64 x24.Flights, v27].toArray) rfl rfl) ?_
  refine RL_do rfl rfl (Do_extract (v := .int .i64 x25) rfl rfl) ?_
  refine RL_ex rfl rfl (Lx_alloc zero25 H) ?_
  rintro _ w33 ⟨b31, rfl, H⟩
  refine RL_exU rfl (Lx_storeN (vs := [.string (bs x24.Key), .bool x24.Hidden, .int .i64 x24.Flights, v27]) H 4 rfl sz25 rfl rfl rfl ⟨rfl, rfl, rfl, (slf_one (H.item (i := 3) rfl)), trivial⟩ rfl) ?_
  rintro w34 H
  refine RL_do rfl rfl (Do_assign (v := .int .i64 x25) rfl) ?_
  refine (RL_nil (thenQ_n (hK2 _ _ ?_)))
  obtain ⟨g63, hF, hK65⟩ := bindO_some hF
  refine WP_seqS [0, 12, 13, 14, 15, 16, 17, 18, 19, 20, 21, 22, 23, 24, 25, 26, 27, 28, 29, 30, 31] (fun (g : Unit) => [(0, .bool g63)]) (fun g wl => Hd O w wl S []) ?_ ?_
  · skip
    refine WP_region ?_
    refine RL_do rfl rfl (Do_move (v := .int .i64 x25) rfl) ?_
    obtain ⟨x66, e67, hF⟩ := letO_some hF
    refine RL_do rfl rfl (Do_as (Do_eql (a := x25) (b := 0) rfl rfl) (congrArg Value.bool e67)) ?_
    refine RL_splitb (b := x66) rfl rfl rfl (fun c68 => ?_) (fun c68 => ?_)
    · have hF := iteB_t c68 hF
      refine RL_do rfl rfl (fa25_2 rfl) ?_
      refine RL_do rfl rfl (Do_load one3 rfl (Cells.get (Blk.cells (H.item (i := 4) rfl)) (i := 2) rfl)) ?_
      obtain ⟨x69, e70, hF⟩ := letO_some hF
      refine RL_do rfl rfl (Do_as (Do_eql (a := x24.Flights) (b := 5) rfl rfl) (congrArg Value.bool e70)) ?_
      refine RL_do rfl rfl (Do_pick_t (v := .bool x69) rfl rfl) ?_
      refine RL_splitb (b := x69) rfl rfl rfl (fun c71 => ?_) (fun c71 => ?_)
      · have hF := iteB_t c71 hF
        refine RL_do rfl rfl (fa25_3 rfl) ?_
        refine RL_do rfl rfl (Do_load one23 rfl (Cells.get (Blk.cells (H.item (i := 4) rfl)) (i := 3) rfl)) ?_
        obtain ⟨x72, e73, hF⟩ := letO_some hF
        obtain ⟨a74, c75, q76⟩ := SlF.len ((H.item (i := 3) rfl))
        refine RL_do rfl rfl (Do_as (Do_len u23 q76) (congrArg (Value.int .i64) e73)) ?_
        obtain ⟨x77, e78, hF⟩ := letO_some hF
        refine RL_do rfl rfl (Do_as (Do_eql (a := x72) (b := 1) rfl rfl) (congrArg Value.bool e78)) ?_
        refine RL_do rfl rfl (Do_pick_t (v := .bool x77) rfl rfl) ?_
        refine RL_splitb (b := x77) rfl rfl rfl (fun c79 => ?_) (fun c79 => ?_)
        · have hF := iteB_t c79 hF
          refine RL_do rfl rfl (fa25_3 rfl) ?_
          refine RL_do rfl rfl (Do_load one23 rfl (Cells.get (Blk.cells (H.item (i := 4) rfl)) (i := 3) rfl)) ?_
          obtain ⟨x80, e81, hF⟩ := bindO_some hF
          obtain ⟨b82, o83, c84, cs85, q86, h89, h87, h88, h90⟩ := rd_at (H.item (i := 3) rfl) e81
          obtain rfl : cs85 = [.int .i64 x80] := h89
          have H := H.fz (.at b82 (o83 + (0 : Int).toNat * 1) _) ⟨h87, h88, h90⟩
          refine RL_do rfl rfl (Do_idx u23 sz3 q86 rfl (at_some e81).1 (at_some e81).2.1 rfl rfl) ?_
          refine RL_do rfl rfl (Do_load one3 rfl (Cells.get (H.item (i := 5) rfl).2.2 (i := 0) rfl)) ?_
          obtain ⟨x92, e93, hF⟩ := letO_some hF
          refine RL_do rfl rfl (Do_as (Do_eql (a := x80) (b := 5) rfl rfl) (congrArg Value.bool e93)) ?_
          refine RL_do rfl rfl (Do_pick_t (v := .bool x92) rfl rfl) ?_
          refine RL_do rfl rfl (Do_assign (v := .bool x92) rfl) ?_
          have hR := Option.some.inj hF
          subst hR
          refine (RL_nil (thenQ_n (And.intro ?_ ?_)))
          · repeat' (first | with_reducible exact Fr_refl | refine Fr_upd rfl ?_ | refine Fr_over rfl rfl ?_)
          · exact ⟨(), (Sl_cons rfl Sl_nil), H.pick [] (by decide)⟩
        · have hF := iteB_f c79 hF
          refine RL_off rfl rfl ?_
          refine RL_off rfl rfl ?_
          refine RL_off rfl rfl ?_
          refine RL_off rfl rfl ?_
          refine RL_off rfl rfl ?_
          refine RL_do rfl rfl (Do_pick_f (v := .bool false) rfl rfl) ?_
          refine RL_do rfl rfl (Do_assign (v := .bool false) rfl) ?_
          have hR := Option.some.inj hF
          subst hR
          refine (RL_nil (thenQ_n (And.intro ?_ ?_)))
          · repeat' (first | with_reducible exact Fr_refl | refine Fr_upd rfl ?_ | refine Fr_over rfl rfl ?_)
          · exact ⟨(), (Sl_cons rfl Sl_nil), H.pick [] (by decide)⟩
      · have hF := iteB_f c71 hF
        refine RL_off rfl rfl ?_
        refine RL_off rfl rfl ?_
        refine RL_off rfl rfl ?_
        refine RL_off rfl rfl ?_
        refine RL_do rfl rfl (Do_pick_f (v := .bool false) rfl rfl) ?_
        refine RL_do rfl rfl (Do_move (v := .bool false) rfl) ?_
        refine RL_off rfl rfl ?_
        refine RL_off rfl rfl ?_
        refine RL_off rfl rfl ?_
        refine RL_off rfl rfl ?_
        refine RL_off rfl rfl ?_
        refine RL_do rfl rfl (Do_pick_f (v := .bool false) rfl rfl) ?_
        refine RL_do rfl rfl (Do_assign (v := .bool false) rfl) ?_
        have hR := Option.some.inj hF
        subst hR
        refine (RL_nil (thenQ_n (And.intro ?_ ?_)))
        · repeat' (first | with_reducible exact Fr_refl | refine Fr_upd rfl ?_ | refine Fr_over rfl rfl ?_)
        · exact ⟨(), (Sl_cons rfl Sl_nil), H.pick [] (by decide)⟩
    · have hF := iteB_f c68 hF
      refine RL_off rfl rfl ?_
      refine RL_off rfl rfl ?_
      refine RL_off rfl rfl ?_
      refine RL_do rfl rfl (Do_pick_f (v := .bool false) rfl rfl) ?_
      refine RL_do rfl rfl (Do_move (v := .bool false) rfl) ?_
      refine RL_off rfl rfl ?_
      refine RL_off rfl rfl ?_
      refine RL_off rfl rfl ?_
      refine RL_off rfl rfl ?_
      refine RL_do rfl rfl (Do_pick_f (v := .bool false) rfl rfl) ?_
      refine RL_do rfl rfl (Do_move (v := .bool false) rfl) ?_
      refine RL_off rfl rfl ?_
      refine RL_off rfl rfl ?_
      refine RL_off rfl rfl ?_
      refine RL_off rfl rfl ?_
      refine RL_off rfl rfl ?_
      refine RL_do rfl rfl (Do_pick_f (v := .bool false) rfl rfl) ?_
      refine RL_do rfl rfl (Do_assign (v := .bool false) rfl) ?_
      have hR := Option.some.inj hF
      subst hR
      refine (RL_nil (thenQ_n (And.intro ?_ ?_)))
      · repeat' (first | with_reducible exact Fr_refl | refine Fr_upd rfl ?_ | refine Fr_over rfl rfl ?_)
      · exact ⟨(), (Sl_cons rfl Sl_nil), H.pick [] (by decide)⟩
  · rintro _ ρ w64 H
    have hF := hK65
    have hR := Option.some.inj hF
    subst hR
    refine (WP_ret (post1 (v1 := .bool g63) rfl rfl ?_))
    exact ⟨rfl, H.pick [] (by decide)⟩
end Go.Proofs.YtbjhondbheijiaaDoor.L
namespace Go.Proofs.YtbjhondbheijiaaDoor.L
open Go.RowKit Go.OB Go.Lf
/- orangebox/orangeboxlaw9.FleetMaskMatchesSpec -/
set_option maxHeartbeats 4000000 in
theorem F_law9_FleetMaskMatchesSpec_w (p0 : Flight) (p1 : Mask) (v1 : Value) (v3 : Value) (v4 : Value) (r : Bool) (hF : F_law9_FleetMaskMatchesSpec p0 p1 = some r) (O S : List Nat) (w : World) (H : Hd O w w S [.fz (.sl rTrack v1 p0.Tracks), .fz (.sl Rp.str v3 p1.Hide), .fz (.sl rGrain v4 p1.Grains), .fz (.at 0 0 ((Fl.arr 20 (Fl.int .u64)).f G_internal_strconv_uint64pow10))]) :
    Calls Tryd.prog 4 ([.agg [.string (bs p0.Tail), .string (bs p0.Route), .int .i64 p0.Day, .int .i64 p0.From, .int .i64 p0.To, v1].toArray, .agg [.bool p1.Tails, .int .i64 p1.Days, v3, v4, .int .i64 p1.Least].toArray] : List Value).toArray w fun e w' => e = .returned (.bool r) ∧ Hd O w w' S [] := by
  unfold F_law9_FleetMaskMatchesSpec at hF
  refine calls_of_WP 54 Tryd.func4 rfl rfl rfl ?_
  refine WP_seq_k fun K8 hK8 => ?_
  refine WP_region ?_
  refine RL_ex rfl rfl (Lx_box (cs := [.string (bs p0.Tail), .string (bs p0.Route), .int .i64 p0.Day, .int .i64 p0.From, .int .i64 p0.To, v1]) rfl H) ?_
  rintro _ w11 ⟨b9, rfl, H⟩
  refine RL_ex rfl rfl (Lx_box (cs := [.bool p1.Tails, .int .i64 p1.Days, v3, v4, .int .i64 p1.Least]) rfl H) ?_
  rintro _ w14 ⟨b12, rfl, H⟩
  refine RL_do rfl rfl (Do_assign (v := .bool false) rfl) ?_
  refine (RL_nil (thenQ_n (hK8 _ _ ?_)))
  refine WP_seq_k fun K15 hK15 => ?_
  refine WP_region ?_
  refine RL_do rfl rfl (Do_as (Do_loads (cs := [.string (bs p0.Tail), .string (bs p0.Route), .int .i64 p0.Day, .int .i64 p0.From, .int .i64 p0.To, v1]) agg47 rfl sz47 rfl (Blk.cells (H.item (i := 4) rfl))) rfl) ?_
  refine RL_do rfl rfl (Do_as (Do_loads (cs := [.bool p1.Tails, .int .i64 p1.Days, v3, v4, .int .i64 p1.Least]) agg50 rfl sz50 rfl (Blk.cells (H.item (i := 5) rfl))) rfl) ?_
  obtain ⟨⟨x16, x17⟩, e18, hF⟩ := bindO_some hF
  refine RL_call rfl rfl (DoC_func en18 rfl) (F_fleet_Masked_w p0 p1 v1 v3 v4 _ e18 _ _ _ (H.enter [] [0, 1, 2] (by decide) rfl)) ?_
  rintro _ w21 ⟨v19, rfl, G22⟩
  have H := H.back1 [0, 1, 2] rfl G22
  refine ⟨_, rfl, ?_⟩
  refine RL_do rfl rfl (Do_move (v := .tuple #[.agg [.string (bs x16.Tail), .string (bs x16.Route), .int .i64 x16.Day, .int .i64 x16.From, .int .i64 x16.To, v19].toArray, .int .i64 x17]) rfl) ?_
  refine RL_do rfl rfl (Do_extract (v := .agg [.string (bs x16.Tail), .string (bs x16.Route), .int .i64 x16.Day, .int .i64 x16.From, .int .i64 x16.To, v19].toArray) rfl rfl) ?_
  refine RL_do rfl rfl (Do_extract (v := .int .i64 x17) rfl rfl) ?_
  refine RL_ex rfl rfl (Lx_alloc zero47 H) ?_
  rintro _ w25 ⟨b23, rfl, H⟩
  refine RL_exU rfl (Lx_storeN (vs := [.string (bs x16.Tail), .string (bs x16.Route), .int .i64 x16.Day, .int .i64 x16.From, .int .i64 x16.To, v19]) H 7 rfl sz47 rfl rfl rfl ⟨rfl, rfl, rfl, rfl, rfl, (slf_one (H.item (i := 6) rfl)), trivial⟩ rfl) ?_
  rintro w26 H
  refine RL_do rfl rfl (Do_assign (v := .int .i64 x17) rfl) ?_
  refine (RL_nil (thenQ_n (hK15 _ _ ?_)))
  refine WP_seq_k fun K70 hK70 => ?_
  obtain ⟨g109, hF, hK111⟩ := bindO_some hF
  refine WP_seqS [15, 16, 17, 18, 19, 20, 21, 22, 23, 24, 25, 26, 27, 28, 29, 30, 31, 32, 33, 34, 35, 36, 37, 38] (fun (g : Unit) => [(38, .bool g109)]) (fun g wl => Hd O w wl S [.fz (.at 0 0 ((Fl.arr 20 (Fl.int .u64)).f G_internal_strconv_uint64pow10)), .blk b12 [.bool p1.Tails, .int .i64 p1.Days, v3, v4, .int .i64 p1.Least] 50, .fz (.sl Rp.str v3 p1.Hide), .fz (.sl rGrain v4 p1.Grains), .blk b23 [.string (bs x16.Tail), .string (bs x16.Route), .int .i64 x16.Day, .int .i64 x16.From, .int .i64 x16.To, v19] 47, .fz (.sl rTrack v19 x16.Tracks)]) ?_ ?_
  · skip
    have H112 := H
    have H := H.rebase
    have H113 := H
    refine WP_mix0 H [0, 1, 2, 3, 4, 5, 6, 7, 8, 9, 10, 11, 12, 13, 14, 15, 16, 17, 18, 19, 20, 21, 22, 23] [.read, .read, .read, .read, .pure, .pure, .read, .read, .read, .read, .pure, .pure, .pure, .read, .pure, .read, .read, .read, .new, .pure, .pure, .read, .pure, .pure] mixed (by kernel_rfl) (by kernel_rfl) (by kernel_rfl) rfl ?_
    refine Mx.XL_read oS rfl rfl rfl (fun w' hw' => Do_as (Do_loads (cs := [.string (bs p0.Tail), .string (bs p0.Route), .int .i64 p0.Day, .int .i64 p0.From, .int .i64 p0.To, v1]) agg47 rfl sz47 rfl (Blk.cells ((H.sees hw').item (i := 4) rfl))) rfl) ?_
    have H114 := H
    obtain ⟨x115, e116, hF⟩ := bindO_some hF
    refine Mx.XL_call oS rfl rfl rfl (v := .int .i64 x115) (fun w' hw' => DoC_func en19 rfl) (fun w' hw' => call_read (F_fleet_CheckFlight_w p0 v1 _ e116 _ _ _ ((H.sees hw').enter [] [0] (by decide) rfl))) ?_
    have H := H114
    refine Mx.XL_read oS rfl rfl rfl (fun w' hw' => Do_as (Do_loads (cs := [.string (bs p0.Tail), .string (bs p0.Route), .int .i64 p0.Day, .int .i64 p0.From, .int .i64 p0.To, v1]) agg47 rfl sz47 rfl (Blk.cells ((H.sees hw').item (i := 4) rfl))) rfl) ?_
    have H117 := H
    obtain ⟨x118, e119, hF⟩ := bindO_some hF
    refine Mx.XL_call oS rfl rfl rfl (v := .int .i64 x118) (fun w' hw' => DoC_func en20 rfl) (fun w' hw' => call_read (F_ref9_CheckFlight_w p0 v1 _ e119 _ _ _ ((H.sees hw').enter [] [0] (by decide) rfl))) ?_
    have H := H117
    obtain ⟨x120, e121, hF⟩ := letO_some hF
    refine Mx.XL_pure rfl rfl rfl (fun w' hw' => Do_as (Do_neq (a := x115) (b := x118) rfl rfl) (congrArg Value.bool e121)) ?_
    refine Mx.XL_splitb (b := x120) rfl rfl rfl rfl (fun c122 => ?_) (fun c122 => ?_)
    · have hF := iteB_t c122 hF
      refine Mx.XL_offr oS rfl rfl rfl ?_
      refine Mx.XL_offr oS rfl rfl rfl ?_
      refine Mx.XL_offr oS rfl rfl rfl ?_
      refine Mx.XL_offr oS rfl rfl rfl ?_
      refine Mx.XL_offp rfl rfl rfl ?_
      refine Mx.XL_pure rfl rfl rfl (fun w' hw' => Do_pick_t (v := .bool true) rfl rfl) ?_
      refine Mx.XL_pure rfl rfl rfl (fun w' hw' => Do_move (v := .bool true) rfl) ?_
      refine Mx.XL_offr oS rfl rfl rfl ?_
      refine Mx.XL_offp rfl rfl rfl ?_
      refine Mx.XL_offr oS rfl rfl rfl ?_
      refine Mx.XL_offr oS rfl rfl rfl ?_
      refine Mx.XL_offr oS rfl rfl rfl ?_
      refine Mx.XL_offn oS rfl rfl rfl ?_
      refine Mx.XL_offp rfl rfl rfl ?_
      refine Mx.XL_offp rfl rfl rfl ?_
      refine Mx.XL_offr oS rfl rfl rfl ?_
      refine Mx.XL_offp rfl rfl rfl ?_
      refine Mx.XL_pure rfl rfl rfl (fun w' hw' => Do_pick_t (v := .bool true) rfl rfl) ?_
      refine Mx.XL_nil fun w123 hS => ?_
      have H := H.sees hS
      have H := H112.rejoin H
      have hR := Option.some.inj hF
      subst hR
      refine (thenQ_n (And.intro ?_ ?_))
      · repeat' (first | with_reducible exact Fr_refl | refine Fr_upd rfl ?_ | refine Fr_over rfl rfl ?_)
      · exact ⟨(), (Sl_cons rfl Sl_nil), H.pick [3, 5, 1, 2, 7, 6] (by decide)⟩
    · have hF := iteB_f c122 hF
      refine Mx.XL_read oS rfl rfl rfl (fun w' hw' => Do_as (Do_loads (cs := [.bool p1.Tails, .int .i64 p1.Days, v3, v4, .int .i64 p1.Least]) agg50 rfl sz50 rfl (Blk.cells ((H.sees hw').item (i := 5) rfl))) rfl) ?_
      have H124 := H
      obtain ⟨x125, e126, hF⟩ := bindO_some hF
      refine Mx.XL_call oS rfl rfl rfl (v := .int .i64 x125) (fun w' hw' => DoC_func en21 rfl) (fun w' hw' => call_read (F_fleet_CheckMask_w p1 v3 v4 _ e126 _ _ _ ((H.sees hw').enter [] [1, 2] (by decide) rfl))) ?_
      have H := H124
      refine Mx.XL_read oS rfl rfl rfl (fun w' hw' => Do_as (Do_loads (cs := [.bool p1.Tails, .int .i64 p1.Days, v3, v4, .int .i64 p1.Least]) agg50 rfl sz50 rfl (Blk.cells ((H.sees hw').item (i := 5) rfl))) rfl) ?_
      have H127 := H
      obtain ⟨x128, e129, hF⟩ := bindO_some hF
      refine Mx.XL_call oS rfl rfl rfl (v := .int .i64 x128) (fun w' hw' => DoC_func en22 rfl) (fun w' hw' => call_read (F_ref9_CheckMask_w p1 v3 v4 _ e129 _ _ _ ((H.sees hw').enter [] [1, 2] (by decide) rfl))) ?_
      have H := H127
      obtain ⟨x130, e131, hF⟩ := letO_some hF
      refine Mx.XL_pure rfl rfl rfl (fun w' hw' => Do_as (Do_neq (a := x125) (b := x128) rfl rfl) (congrArg Value.bool e131)) ?_
      refine Mx.XL_pure rfl rfl rfl (fun w' hw' => Do_pick_f (v := .bool x130) rfl rfl) ?_
      refine Mx.XL_splitb (b := x130) rfl rfl rfl rfl (fun c132 => ?_) (fun c132 => ?_)
      · have hF := iteB_t c132 hF
        refine Mx.XL_offr oS rfl rfl rfl ?_
        refine Mx.XL_offp rfl rfl rfl ?_
        refine Mx.XL_offr oS rfl rfl rfl ?_
        refine Mx.XL_offr oS rfl rfl rfl ?_
        refine Mx.XL_offr oS rfl rfl rfl ?_
        refine Mx.XL_offn oS rfl rfl rfl ?_
        refine Mx.XL_offp rfl rfl rfl ?_
        refine Mx.XL_offp rfl rfl rfl ?_
        refine Mx.XL_offr oS rfl rfl rfl ?_
        refine Mx.XL_offp rfl rfl rfl ?_
        refine Mx.XL_pure rfl rfl rfl (fun w' hw' => Do_pick_t (v := .bool true) rfl rfl) ?_
        refine Mx.XL_nil fun w133 hS => ?_
        have H := H.sees hS
        have H := H112.rejoin H
        have hR := Option.some.inj hF
        subst hR
        refine (thenQ_n (And.intro ?_ ?_))
        · repeat' (first | with_reducible exact Fr_refl | refine Fr_upd rfl ?_ | refine Fr_over rfl rfl ?_)
        · exact ⟨(), (Sl_cons rfl Sl_nil), H.pick [3, 5, 1, 2, 7, 6] (by decide)⟩
      · have hF := iteB_f c132 hF
        refine Mx.XL_read oS rfl rfl rfl (fun w' hw' => Do_as (Do_loads (cs := [.string (bs x16.Tail), .string (bs x16.Route), .int .i64 x16.Day, .int .i64 x16.From, .int .i64 x16.To, v19]) agg47 rfl sz47 rfl (Blk.cells ((H.sees hw').item (i := 7) rfl))) rfl) ?_
        refine Mx.XL_pure rfl rfl rfl (fun w' hw' => Do_move (v := .int .i64 x17) rfl) ?_
        have H134 := H
        obtain ⟨x135, e136, hF⟩ := bindO_some hF
        refine Mx.XL_call oS rfl rfl rfl (v := .string (bs x135)) (fun w' hw' => DoC_func en23 rfl) (fun w' hw' => call_read (F_law9_flight_w x16 x17 v19 _ e136 _ _ _ ((H.sees hw').enter [] [6, 3] (by decide) rfl))) ?_
        have H := H134
        refine Mx.XL_read oS rfl rfl rfl (fun w' hw' => Do_as (Do_loads (cs := [.string (bs p0.Tail), .string (bs p0.Route), .int .i64 p0.Day, .int .i64 p0.From, .int .i64 p0.To, v1]) agg47 rfl sz47 rfl (Blk.cells ((H.sees hw').item (i := 4) rfl))) rfl) ?_
        refine Mx.XL_read oS rfl rfl rfl (fun w' hw' => Do_as (Do_loads (cs := [.bool p1.Tails, .int .i64 p1.Days, v3, v4, .int .i64 p1.Least]) agg50 rfl sz50 rfl (Blk.cells ((H.sees hw').item (i := 5) rfl))) rfl) ?_
        obtain ⟨⟨x137, x138⟩, e139, hF⟩ := bindO_some hF
        refine Mx.XL_newC oS rfl rfl rfl (fun w' hw' => DoC_func en24 rfl) (fun w' hw' => F_ref9_Masked_w p0 p1 v1 v3 v4 _ e139 _ _ _ ((H.sees hw').enter [] [0, 1, 2] (by decide) rfl)) ?_
        rintro w' _ w142 hw' ⟨v140, rfl, G143⟩
        have H := (H.sees hw').back1 [0, 1, 2] rfl G143
        refine ⟨_, rfl, (G143.only : Only [] _ _).below, ?_⟩
        refine Mx.XL_pure rfl rfl rfl (fun w' hw' => Do_extract (v := .agg [.string (bs x137.Tail), .string (bs x137.Route), .int .i64 x137.Day, .int .i64 x137.From, .int .i64 x137.To, v140].toArray) rfl rfl) ?_
        refine Mx.XL_pure rfl rfl rfl (fun w' hw' => Do_extract (v := .int .i64 x138) rfl rfl) ?_
        have H144 := H
        obtain ⟨x145, e146, hF⟩ := bindO_some hF
        refine Mx.XL_call oS rfl rfl rfl (v := .string (bs x145)) (fun w' hw' => DoC_func en23 rfl) (fun w' hw' => call_read (F_law9_flight_w x137 x138 v140 _ e146 _ _ _ ((H.sees hw').enter [] [8, 3] (by decide) rfl))) ?_
        have H := H144
        obtain ⟨x147, e148, hF⟩ := letO_some hF
        refine Mx.XL_pure rfl rfl rfl (fun w' hw' => Do_as (Do_neqs (s1 := x135) (s2 := x145) rfl rfl) (congrArg Value.bool e148)) ?_
        refine Mx.XL_pure rfl rfl rfl (fun w' hw' => Do_pick_f (v := .bool x147) rfl rfl) ?_
        refine Mx.XL_nil fun w149 hS => ?_
        have H := H.sees hS
        have H := H112.rejoin H
        have hR := Option.some.inj hF
        subst hR
        refine (thenQ_n (And.intro ?_ ?_))
        · repeat' (first | with_reducible exact Fr_refl | refine Fr_upd rfl ?_ | refine Fr_over rfl rfl ?_)
        · exact ⟨(), (Sl_cons rfl Sl_nil), H.pick [3, 5, 1, 2, 7, 6] (by decide)⟩
  · rintro _ ρ w110 H
    have hF := hK111
    refine WP_ifb (b := g109) rfl (fun c150 => ?_) (fun c150 => ?_)
    · have hF := iteB_t c150 hF
      refine WP_seq_k fun K151 hK151 => ?_
      refine WP_region ?_
      refine RL_do rfl rfl (Do_assign (v := .bool false) rfl) ?_
      refine (RL_nil (thenQ_n (hK151 _ _ ?_)))
      have hR := Option.some.inj hF
      subst hR
      refine (WP_ret (thenQ_r (post1 (v1 := .bool false) rfl rfl ?_)))
      exact ⟨rfl, H.pick [] (by decide)⟩
    · have hF := iteB_f c150 hF
      refine (WP_skip (thenQ_n (hK70 _ _ ?_)))
      obtain ⟨k183, ek184, hF⟩ := joinO_some hF
      refine WP_seqS [4, 7, 8, 39, 40, 41, 42, 43, 44, 45, 46, 47, 48, 49, 50, 51, 52] (fun (g : Unit) => []) (fun g wl => Hd O w wl S [.fz (.at 0 0 ((Fl.arr 20 (Fl.int .u64)).f G_internal_strconv_uint64pow10))] ∧ k183 () = some r) ?_ ?_
      · skip
        refine WP_seq_k fun K185 hK185 => ?_
        refine WP_region ?_
        refine RL_do rfl rfl (Do_move (v := .int .i64 x17) rfl) ?_
        obtain ⟨x186, e187, hF⟩ := letO_some hF
        refine RL_do rfl rfl (Do_as (Do_eql (a := x17) (b := 0) rfl rfl) (congrArg Value.bool e187)) ?_
        refine (RL_nil (thenQ_n (hK185 _ _ ?_)))
        refine WP_ifb (b := x186) rfl (fun c188 => ?_) (fun c188 => ?_)
        · have hF := iteB_t c188 hF
          refine WP_seq_k fun K189 hK189 => ?_
          refine WP_region ?_
          refine RL_do rfl rfl (Do_as (Do_loads (cs := [.string (bs x16.Tail), .string (bs x16.Route), .int .i64 x16.Day, .int .i64 x16.From, .int .i64 x16.To, v19]) agg47 rfl sz47 rfl (Blk.cells (H.item (i := 4) rfl))) rfl) ?_
          refine RL_do rfl rfl (Do_as (Do_loads (cs := [.bool p1.Tails, .int .i64 p1.Days, v3, v4, .int .i64 p1.Least]) agg50 rfl sz50 rfl (Blk.cells (H.item (i := 1) rfl))) rfl) ?_
          obtain ⟨⟨x190, x191⟩, e192, hF⟩ := bindO_some hF
          refine RL_call rfl rfl (DoC_func en18 rfl) (F_fleet_Masked_w x16 p1 v19 v3 v4 _ e192 _ _ _ (H.enter [] [5, 2, 3] (by decide) rfl)) ?_
          rintro _ w195 ⟨v193, rfl, G196⟩
          have H := H.back1 [5, 2, 3] rfl G196
          refine ⟨_, rfl, ?_⟩
          refine RL_do rfl rfl (Do_move (v := .tuple #[.agg [.string (bs x190.Tail), .string (bs x190.Route), .int .i64 x190.Day, .int .i64 x190.From, .int .i64 x190.To, v193].toArray, .int .i64 x191]) rfl) ?_
          refine RL_do rfl rfl (Do_extract (v := .agg [.string (bs x190.Tail), .string (bs x190.Route), .int .i64 x190.Day, .int .i64 x190.From, .int .i64 x190.To, v193].toArray) rfl rfl) ?_
          refine RL_do rfl rfl (Do_extract (v := .int .i64 x191) rfl rfl) ?_
          refine RL_ex rfl rfl (Lx_alloc zero47 H) ?_
          rintro _ w199 ⟨b197, rfl, H⟩
          refine RL_exU rfl (Lx_storeN (vs := [.string (bs x190.Tail), .string (bs x190.Route), .int .i64 x190.Day, .int .i64 x190.From, .int .i64 x190.To, v193]) H 7 rfl sz47 rfl rfl rfl ⟨rfl, rfl, rfl, rfl, rfl, (slf_one (H.item (i := 6) rfl)), trivial⟩ rfl) ?_
          rintro w200 H
          refine RL_do rfl rfl (Do_assign (v := .int .i64 x191) rfl) ?_
          refine (RL_nil (thenQ_n (hK189 _ _ ?_)))
          refine WP_seq_k fun K201 hK201 => ?_
          have H202 := H
          have H := H.rebase
          have H203 := H
          refine WP_mix0 H [0, 1, 2, 3, 4, 5] [.read, .pure, .read, .read, .read, .pure] mixed (by kernel_rfl) (by kernel_rfl) (by kernel_rfl) rfl ?_
          refine Mx.XL_read oS rfl rfl rfl (fun w' hw' => Do_as (Do_loads (cs := [.string (bs x190.Tail), .string (bs x190.Route), .int .i64 x190.Day, .int .i64 x190.From, .int .i64 x190.To, v193]) agg47 rfl sz47 rfl (Blk.cells ((H.sees hw').item (i := 7) rfl))) rfl) ?_
          refine Mx.XL_pure rfl rfl rfl (fun w' hw' => Do_move (v := .int .i64 x191) rfl) ?_
          have H204 := H
          obtain ⟨x205, e206, hF⟩ := bindO_some hF
          refine Mx.XL_call oS rfl rfl rfl (v := .string (bs x205)) (fun w' hw' => DoC_func en23 rfl) (fun w' hw' => call_read (F_law9_flight_w x190 x191 v193 _ e206 _ _ _ ((H.sees hw').enter [] [6, 0] (by decide) rfl))) ?_
          have H := H204
          refine Mx.XL_read oS rfl rfl rfl (fun w' hw' => Do_as (Do_loads (cs := [.string (bs x16.Tail), .string (bs x16.Route), .int .i64 x16.Day, .int .i64 x16.From, .int .i64 x16.To, v19]) agg47 rfl sz47 rfl (Blk.cells ((H.sees hw').item (i := 4) rfl))) rfl) ?_
          have H207 := H
          obtain ⟨x208, e209, hF⟩ := bindO_some hF
          refine Mx.XL_call oS rfl rfl rfl (v := .string (bs x208)) (fun w' hw' => DoC_func en23 rfl) (fun w' hw' => call_read (F_law9_flight_w x16 0 v19 _ e209 _ _ _ ((H.sees hw').enter [] [5, 0] (by decide) rfl))) ?_
          have H := H207
          obtain ⟨x210, e211, hF⟩ := letO_some hF
          refine Mx.XL_pure rfl rfl rfl (fun w' hw' => Do_as (Do_neqs (s1 := x205) (s2 := x208) rfl rfl) (congrArg Value.bool e211)) ?_
          refine Mx.XL_nil fun w212 hS => ?_
          have H := H.sees hS
          have H := H202.rejoin H
          refine (thenQ_n (hK201 _ _ ?_))
          refine WP_ifb (b := x210) rfl (fun c213 => ?_) (fun c213 => ?_)
          · have hF := iteB_t c213 hF
            refine WP_seq_k fun K214 hK214 => ?_
            refine WP_region ?_
            refine RL_do rfl rfl (Do_assign (v := .bool false) rfl) ?_
            refine (RL_nil (thenQ_n (hK214 _ _ ?_)))
            have hR := Option.some.inj hF
            subst hR
            refine (WP_ret (thenQ_r (post1 (v1 := .bool false) rfl rfl ?_)))
            exact ⟨rfl, H.pick [] (by decide)⟩
          · have hF := iteB_f c213 hF
            refine (WP_skip (thenQ_n (And.intro ?_ ?_)))
            · repeat' (first | with_reducible exact Fr_refl | refine Fr_upd rfl ?_ | refine Fr_over rfl rfl ?_)
            · exact ⟨(), Sl_nil, ⟨H.pick [0] (by decide), hF⟩⟩
        · have hF := iteB_f c188 hF
          refine (WP_skip (thenQ_n (And.intro ?_ ?_)))
          · repeat' (first | with_reducible exact Fr_refl | refine Fr_upd rfl ?_ | refine Fr_over rfl rfl ?_)
          · exact ⟨(), Sl_nil, ⟨H.pick [0] (by decide), hF⟩⟩
      · rintro _ ρ w182 ⟨H, hF⟩
        have hF := join_body ek184 hF
        refine WP_seq_k fun K215 hK215 => ?_
        refine WP_region ?_
        have H216 := H
        obtain ⟨x217, e218, hF⟩ := bindO_some hF
        refine RL_call rfl rfl (DoC_func en17 rfl) (F_law9_totals_w _ e218 _ _ _ (H.enter [] [] (by decide) rfl)) ?_
        rintro _ w219 ⟨rfl, G220⟩
        have H := H216.step (G220.only : Only [] _ _)
        refine ⟨_, rfl, ?_⟩
        refine RL_do rfl rfl (Do_assign (v := .bool x217) rfl) ?_
        refine (RL_nil (thenQ_n (hK215 _ _ ?_)))
        have hR := Option.some.inj hF
        subst hR
        refine (WP_ret (post1 (v1 := .bool x217) rfl rfl ?_))
        exact ⟨rfl, H.pick [] (by decide)⟩
end Go.Proofs.YtbjhondbheijiaaDoor.L
