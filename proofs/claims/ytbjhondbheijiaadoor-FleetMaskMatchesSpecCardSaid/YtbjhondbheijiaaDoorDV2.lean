/- Walks: what each function computes, for every argument; no condition but those that stand in the statements. -/
import Derived.Test.YtbjhondbheijiaaDoorDV0
import Derived.Test.YtbjhondbheijiaaDoorDV1
namespace Go.Proofs.YtbjhondbheijiaaDoor.L
open Go.RowKit Go.OB Go.Lf
/- orangebox/event.CheckTracks -/
set_option maxHeartbeats 4000000 in
theorem F_event_CheckTracks_w (p0 : List Track) (v1 : Value) (r : Int) (hF : F_event_CheckTracks p0 = some r) (O S : List Nat) (w : World) (H : Hd O w w S [.fz (.sl rTrack v1 p0)]) :
    Calls Tryd.prog 45 ([v1] : List Value).toArray w fun e w' => e = .returned (.int .i64 r) ∧ Hd O w w' S [] := by
  unfold F_event_CheckTracks at hF
  refine calls_of_WP 36 Tryd.func45 rfl rfl rfl ?_
  refine WP_seq_k fun K3 hK3 => ?_
  refine WP_region ?_
  refine RL_do rfl rfl (Do_assign (v := .int .i64 0) rfl) ?_
  refine (RL_nil (thenQ_n (hK3 _ _ ?_)))
  refine WP_seq_k fun K14 hK14 => ?_
  refine WP_seq_k fun K15 hK15 => ?_
  refine WP_region ?_
  refine RL_do rfl rfl (Do_move (v := v1) rfl) ?_
  obtain ⟨x16, e17, hF⟩ := letO_some hF
  obtain ⟨a18, c19, q20⟩ := SlF.len ((H.item (i := 0) rfl))
  refine RL_do rfl rfl (Do_as (Do_len u45 q20) (congrArg (Value.int .i64) e17)) ?_
  obtain ⟨x21, e22, hF⟩ := letO_some hF
  refine RL_do rfl rfl (Do_as (Do_gtr (a := x16) (b := 50) rfl rfl) (congrArg Value.bool e22)) ?_
  refine (RL_nil (thenQ_n (hK15 _ _ ?_)))
  refine WP_ifb (b := x21) rfl (fun c23 => ?_) (fun c23 => ?_)
  · have hF := iteB_t c23 hF
    refine WP_seq_k fun K24 hK24 => ?_
    refine WP_region ?_
    refine RL_do rfl rfl (Do_assign (v := .int .i64 3) rfl) ?_
    refine (RL_nil (thenQ_n (hK24 _ _ ?_)))
    have hR := Option.some.inj hF
    subst hR
    refine (WP_ret (thenQ_r (post1 (v1 := .int .i64 3) rfl rfl ?_)))
    exact ⟨rfl, H.pick [] (by decide)⟩
  · have hF := iteB_f c23 hF
    refine (WP_skip (thenQ_n (hK14 _ _ ?_)))
    obtain ⟨k453, ek454, hF⟩ := joinO_some hF
    refine WP_seqS [2, 3, 4, 5, 9, 10, 11, 12, 13, 14, 15, 16, 17, 18, 19, 20, 21, 22, 23, 24, 25, 26, 27, 28, 29, 30, 31, 32, 33, 34, 35] (fun (g : Unit) => []) (fun g wl => Hd O w wl S [] ∧ k453 () = some r) ?_ ?_
    · skip
      refine WP_seq_k fun K455 hK455 => ?_
      refine WP_region ?_
      refine RL_do rfl rfl (Do_move (v := v1) rfl) ?_
      obtain ⟨x456, e457, hF⟩ := letO_some hF
      obtain ⟨a458, c459, q460⟩ := SlF.len ((H.item (i := 0) rfl))
      refine RL_do rfl rfl (Do_as (Do_len u45 q460) (congrArg (Value.int .i64) e457)) ?_
      refine RL_do rfl rfl (Do_move (v := .int .i64 0) rfl) ?_
      refine (RL_nil (thenQ_n (hK455 _ _ ?_)))
      refine WP_block ?_
      unfold F_event_CheckTracks_L1 at hF
      obtain ⟨B877, n878, eB879, hF⟩ := loopO_some hF
      refine WP_loopS [2, 3, 4, 5, 11, 12, 13, 14, 15, 16, 17, 18, 19, 20, 21, 22, 23, 24, 25, 26, 27, 28, 29, 30, 31, 32, 33, 34, 35] (fun (g : Nat × Int) => [(11, .int .i64 g.2)]) (fun g wl => Hd O w wl S [.fz (.sl rTrack v1 p0)] ∧ loopN B877 g.1 g.2 = some r) (fun g => g.1) (n878, 0) (Sl_cons rfl Sl_nil) ⟨H.pick [0] (by decide), hF⟩ ?_
      clear H hF
      rintro ⟨n878, g876⟩ ρ w881 ⟨H, hF⟩
      obtain ⟨n882, rfl, hF⟩ := loopN_pos hF
      have hF := loop_body eB879 hF
      refine WP_seq_k fun K883 hK883 => ?_
      refine WP_region ?_
      obtain ⟨x884, e885, hF⟩ := letO_some hF
      refine RL_do rfl rfl (Do_as (Do_lss (a := g876) (b := x456) rfl rfl) (congrArg Value.bool e885)) ?_
      refine (RL_nil (thenQ_n (hK883 _ _ ?_)))
      refine WP_seq_k fun K887 hK887 => ?_
      refine WP_ifb (b := x884) rfl (fun c888 => ?_) (fun c888 => ?_)
      · have hF := iteB_t c888 hF
        refine (WP_skip (thenQ_n (hK887 _ _ ?_)))
        refine WP_seq_k fun K988 hK988 => ?_
        refine WP_block ?_
        refine WP_seq_k fun K989 hK989 => ?_
        refine WP_region ?_
        refine RL_do rfl rfl (Do_move (v := .int .i64 g876) rfl) ?_
        obtain ⟨x990, e991, hF⟩ := bindO_some hF
        obtain ⟨b992, o993, c994, cs995, q996, h999, h997, h998, h1000⟩ := rd_at (H.item (i := 0) rfl) e991
        obtain ⟨v1001, rfl, h1002⟩ := rTrack_open h999
        have H := H.fzs [.at b992 (o993 + g876.toNat * 4) _, .sl rSample v1001 x990.Series.Samples] ⟨⟨h997, h998, h1000⟩, h1002, trivial⟩
        refine RL_do rfl rfl (Do_idx u45 sz95 q996 rfl (at_some e991).1 (at_some e991).2.1 rfl rfl) ?_
        refine RL_do rfl rfl (Do_as (Do_loads (cs := [.string (bs x990.Name), .int .i64 x990.Series.Den, v1001, .int .i64 x990.Long]) agg95 rfl sz95 rfl (H.item (i := 1) rfl).2.2) rfl) ?_
        refine RL_ex rfl rfl (Lx_alloc zero95 H) ?_
        rintro _ w1007 ⟨b1005, rfl, H⟩
        refine RL_do rfl rfl (Do_assign (v := .int .i64 g876) rfl) ?_
        refine RL_exU rfl (Lx_storeN (vs := [.string (bs x990.Name), .int .i64 x990.Series.Den, v1001, .int .i64 x990.Long]) H 3 rfl sz95 rfl rfl rfl ⟨rfl, rfl, (slf_one (H.item (i := 2) rfl)), rfl, trivial⟩ rfl) ?_
        rintro w1008 H
        refine (RL_nil (thenQ_n (hK989 _ _ ?_)))
        refine WP_seq_k fun K1019 hK1019 => ?_
        refine WP_seq_k fun K1020 hK1020 => ?_
        refine WP_region ?_
        refine RL_do rfl rfl (fa95_0 rfl) ?_
        refine RL_do rfl rfl (Do_load one9 rfl (Cells.get (Blk.cells (H.item (i := 3) rfl)) (i := 0) rfl)) ?_
        have H1021 := H
        obtain ⟨x1022, e1023, hF⟩ := bindO_some hF
        refine RL_call rfl rfl (DoC_func en63 rfl) (F_event_isName_w x990.Name _ e1023 _ _ _ (H.enter [] [] (by decide) rfl)) ?_
        rintro _ w1024 ⟨rfl, G1025⟩
        have H := H1021.step (G1025.only : Only [] _ _)
        refine ⟨_, rfl, ?_⟩
        obtain ⟨x1026, e1027, hF⟩ := letO_some hF
        refine RL_do rfl rfl (Do_as (Do_not (p := x1022) rfl) (congrArg Value.bool e1027)) ?_
        refine (RL_nil (thenQ_n (hK1020 _ _ ?_)))
        refine WP_ifb (b := x1026) rfl (fun c1028 => ?_) (fun c1028 => ?_)
        · have hF := iteB_t c1028 hF
          refine WP_seq_k fun K1029 hK1029 => ?_
          refine WP_region ?_
          refine RL_do rfl rfl (Do_assign (v := .int .i64 8) rfl) ?_
          refine (RL_nil (thenQ_n (hK1029 _ _ ?_)))
          have hR := Option.some.inj hF
          subst hR
          refine (WP_ret (thenQ_r (blockQ_r (thenQ_r (thenQ_r (blockQ_r (thenQ_r (post1 (v1 := .int .i64 8) rfl rfl ?_))))))))
          exact ⟨rfl, H.pick [] (by decide)⟩
        · have hF := iteB_f c1028 hF
          refine (WP_skip (thenQ_n (hK1019 _ _ ?_)))
          refine WP_seq_k fun K1042 hK1042 => ?_
          refine WP_seq_k fun K1043 hK1043 => ?_
          refine WP_region ?_
          refine RL_do rfl rfl (Do_move (v := v1) rfl) ?_
          refine RL_do rfl rfl (Do_move (v := .int .i64 g876) rfl) ?_
          obtain ⟨x1044, e1045, hF⟩ := bindO_some hF
          refine RL_exP rfl rfl (Lx_slice_h u45 sz95 (H.item (i := 0) rfl) rfl rfl e1045) ?_
          rintro v1046 h1047
          have H := H.fz (.sl rTrack v1046 x1044) h1047
          refine RL_do rfl rfl (Do_makeFunc rfl) ?_
          obtain ⟨x1049, e1050, hF⟩ := bindO_some hF
          refine RL_call rfl rfl (DoC_func en64 rfl) (F_slices_ContainsFunc___api_Track_api_Track__event_CheckTracks_1_w x1044 x990 v1046 b1005 v1001 _ e1050 _ _ _ (H.enter [3] [4, 2] (by decide) rfl)) ?_
          rintro _ w1051 ⟨rfl, G1052⟩
          have H : Hd O _ w1051 _ [.fz (.sl rTrack v1 p0), .fz (.at b992 (o993 + g876.toNat * 4) [.string (bs x990.Name), .int .i64 x990.Series.Den, v1001, .int .i64 x990.Long]), .fz (.sl rSample v1001 x990.Series.Samples), .fz (.sl rTrack v1046 x1044), .blk b1005 [.string (bs x990.Name), .int .i64 x990.Series.Den, v1001, .int .i64 x990.Long] 95] := H.back [3] [4, 2] rfl G1052
          refine ⟨_, rfl, ?_⟩
          refine (RL_nil (thenQ_n (hK1043 _ _ ?_)))
          refine WP_ifb (b := x1049) rfl (fun c1053 => ?_) (fun c1053 => ?_)
          · have hF := iteB_t c1053 hF
            refine WP_seq_k fun K1054 hK1054 => ?_
            refine WP_region ?_
            refine RL_do rfl rfl (Do_assign (v := .int .i64 5) rfl) ?_
            refine (RL_nil (thenQ_n (hK1054 _ _ ?_)))
            have hR := Option.some.inj hF
            subst hR
            refine (WP_ret (thenQ_r (blockQ_r (thenQ_r (thenQ_r (blockQ_r (thenQ_r (post1 (v1 := .int .i64 5) rfl rfl ?_))))))))
            exact ⟨rfl, H.pick [] (by decide)⟩
          · have hF := iteB_f c1053 hF
            refine (WP_skip (thenQ_n (hK1042 _ _ ?_)))
            refine WP_seq_k fun K1066 hK1066 => ?_
            refine WP_seq_k fun K1067 hK1067 => ?_
            refine WP_region ?_
            refine RL_do rfl rfl (fa95_1 rfl) ?_
            refine RL_do rfl rfl (Do_as (Do_loads (cs := [.int .i64 x990.Series.Den, v1001]) agg93 rfl sz93 rfl (Cells.drop (Blk.cells (H.item (i := 4) rfl)) 1 2)) rfl) ?_
            have H1068 := H
            obtain ⟨x1069, e1070, hF⟩ := bindO_some hF
            refine RL_call rfl rfl (DoC_func en66 rfl) (F_series_Check_w x990.Series v1001 _ e1070 _ _ _ (H.enter [] [2] (by decide) rfl)) ?_
            rintro _ w1071 ⟨rfl, G1072⟩
            have H := H1068.step (G1072.only : Only [] _ _)
            refine ⟨_, rfl, ?_⟩
            refine RL_do rfl rfl (Do_assign (v := .int .i64 x1069) rfl) ?_
            refine (RL_nil (thenQ_n (hK1067 _ _ ?_)))
            refine WP_seq_k fun K1073 hK1073 => ?_
            refine WP_region ?_
            refine RL_do rfl rfl (Do_move (v := .int .i64 x1069) rfl) ?_
            obtain ⟨x1074, e1075, hF⟩ := letO_some hF
            refine RL_do rfl rfl (Do_as (Do_neq (a := x1069) (b := 0) rfl rfl) (congrArg Value.bool e1075)) ?_
            refine (RL_nil (thenQ_n (hK1073 _ _ ?_)))
            refine WP_ifb (b := x1074) rfl (fun c1076 => ?_) (fun c1076 => ?_)
            · have hF := iteB_t c1076 hF
              refine WP_seq_k fun K1077 hK1077 => ?_
              refine WP_region ?_
              refine RL_do rfl rfl (Do_move (v := .int .i64 x1069) rfl) ?_
              refine RL_do rfl rfl (Do_assign (v := .int .i64 x1069) rfl) ?_
              refine (RL_nil (thenQ_n (hK1077 _ _ ?_)))
              have hR := Option.some.inj hF
              subst hR
              refine (WP_ret (thenQ_r (blockQ_r (thenQ_r (thenQ_r (blockQ_r (thenQ_r (post1 (v1 := .int .i64 x1069) rfl rfl ?_))))))))
              exact ⟨rfl, H.pick [] (by decide)⟩
            · have hF := iteB_f c1076 hF
              refine (WP_skip (thenQ_n (hK1066 _ _ ?_)))
              refine WP_seq_k fun K1078 hK1078 => ?_
              refine WP_region ?_
              refine RL_do rfl rfl (fa95_2 rfl) ?_
              refine RL_do rfl rfl (Do_load one3 rfl (Cells.get (Blk.cells (H.item (i := 4) rfl)) (i := 3) rfl)) ?_
              have H1079 := H
              obtain ⟨x1080, e1081, hF⟩ := bindO_some hF
              refine RL_call rfl rfl (DoC_func en67 rfl) (F_event_within_w x990.Long 0 1099511627776 _ e1081 _ _ _ (H.enter [] [] (by decide) rfl)) ?_
              rintro _ w1082 ⟨rfl, G1083⟩
              have H := H1079.step (G1083.only : Only [] _ _)
              refine ⟨_, rfl, ?_⟩
              obtain ⟨x1084, e1085, hF⟩ := letO_some hF
              refine RL_do rfl rfl (Do_as (Do_not (p := x1080) rfl) (congrArg Value.bool e1085)) ?_
              refine (RL_nil (thenQ_n (hK1078 _ _ ?_)))
              refine WP_ifb (b := x1084) rfl (fun c1086 => ?_) (fun c1086 => ?_)
              · have hF := iteB_t c1086 hF
                refine WP_seq_k fun K1087 hK1087 => ?_
                refine WP_region ?_
                refine RL_do rfl rfl (Do_assign (v := .int .i64 9) rfl) ?_
                refine (RL_nil (thenQ_n (hK1087 _ _ ?_)))
                have hR := Option.some.inj hF
                subst hR
                refine (WP_ret (blockQ_r (thenQ_r (thenQ_r (blockQ_r (thenQ_r (post1 (v1 := .int .i64 9) rfl rfl ?_)))))))
                exact ⟨rfl, H.pick [] (by decide)⟩
              · have hF := iteB_f c1086 hF
                refine (WP_skip (blockQ_n (thenQ_n (hK988 _ _ ?_))))
                refine WP_region ?_
                obtain ⟨x1088, e1089, hF⟩ := letO_some hF
                refine RL_do rfl rfl (Do_add (a := g876) (b := 1) rfl rfl e1089) ?_
                refine RL_do rfl rfl (Do_move (v := .int .i64 x1088) rfl) ?_
                refine (RL_nil (thenQ_n (And.intro ?_ ?_)))
                · repeat' (first | with_reducible exact Fr_refl | refine Fr_upd rfl ?_ | refine Fr_over rfl rfl ?_)
                · exact ⟨(n882, x1088), (Sl_cons rfl Sl_nil), ⟨H.pick [0] (by decide), hF⟩, Nat.lt_succ_self _⟩
      · have hF := iteB_f c888 hF
        refine (WP_exit (thenQ_x (thenQ_x (blockQ_eq (thenQ_n (And.intro ?_ ?_))))))
        · repeat' (first | with_reducible exact Fr_refl | refine Fr_upd rfl ?_ | refine Fr_over rfl rfl ?_)
        · exact ⟨(), Sl_nil, ⟨H.pick [] (by decide), hF⟩⟩
    · rintro _ ρ w452 ⟨H, hF⟩
      have hF := join_body ek454 hF
      refine WP_seq_k fun K1090 hK1090 => ?_
      refine WP_region ?_
      refine RL_do rfl rfl (Do_assign (v := .int .i64 0) rfl) ?_
      refine (RL_nil (thenQ_n (hK1090 _ _ ?_)))
      have hR := Option.some.inj hF
      subst hR
      refine (WP_ret (post1 (v1 := .int .i64 0) rfl rfl ?_))
      exact ⟨rfl, H.pick [] (by decide)⟩
end Go.Proofs.YtbjhondbheijiaaDoor.L
namespace Go.Proofs.YtbjhondbheijiaaDoor.L
open Go.RowKit Go.OB Go.Lf
/- orangebox/fleet.CheckFlight -/
set_option maxHeartbeats 4000000 in
theorem F_fleet_CheckFlight_w (p0 : Flight) (v1 : Value) (r : Int) (hF : F_fleet_CheckFlight p0 = some r) (O S : List Nat) (w : World) (H : Hd O w w S [.fz (.sl rTrack v1 p0.Tracks)]) :
    Calls Tryd.prog 19 ([.agg [.string (bs p0.Tail), .string (bs p0.Route), .int .i64 p0.Day, .int .i64 p0.From, .int .i64 p0.To, v1].toArray] : List Value).toArray w fun e w' => e = .returned (.int .i64 r) ∧ Hd O w w' S [] := by
  unfold F_fleet_CheckFlight at hF
  refine calls_of_WP 58 Tryd.func19 rfl rfl rfl ?_
  refine WP_seq_k fun K3 hK3 => ?_
  refine WP_region ?_
  refine RL_ex rfl rfl (Lx_box (cs := [.string (bs p0.Tail), .string (bs p0.Route), .int .i64 p0.Day, .int .i64 p0.From, .int .i64 p0.To, v1]) rfl H) ?_
  rintro _ w6 ⟨b4, rfl, H⟩
  refine RL_do rfl rfl (Do_assign (v := .int .i64 0) rfl) ?_
  refine (RL_nil (thenQ_n (hK3 _ _ ?_)))
  refine WP_seq_k fun K77 hK77 => ?_
  refine WP_block ?_
  obtain ⟨g103, hF, hK105⟩ := bindO_some hF
  refine WP_seqS [3, 4, 5, 6, 7, 8, 9, 10, 11, 12, 13, 14, 15, 16, 17, 18] (fun (g : Unit) => [(3, .bool g103)]) (fun g wl => Hd O w wl S [.blk b4 [.string (bs p0.Tail), .string (bs p0.Route), .int .i64 p0.Day, .int .i64 p0.From, .int .i64 p0.To, v1] 47, .fz (.sl rTrack v1 p0.Tracks)]) ?_ ?_
  · skip
    refine WP_region ?_
    refine RL_do rfl rfl (fa47_0 rfl) ?_
    refine RL_do rfl rfl (Do_load one9 rfl (Cells.get (Blk.cells (H.item (i := 1) rfl)) (i := 0) rfl)) ?_
    obtain ⟨x106, e107, hF⟩ := letO_some hF
    refine RL_do rfl rfl (Do_as (Do_neqs (s1 := p0.Tail) (s2 := []) rfl rfl) (congrArg Value.bool e107)) ?_
    refine RL_splitb (b := x106) rfl rfl rfl (fun c108 => ?_) (fun c108 => ?_)
    · have hF := iteB_t c108 hF
      refine RL_do rfl rfl (fa47_0 rfl) ?_
      refine RL_do rfl rfl (Do_load one9 rfl (Cells.get (Blk.cells (H.item (i := 1) rfl)) (i := 0) rfl)) ?_
      have H109 := H
      obtain ⟨x110, e111, hF⟩ := bindO_some hF
      refine RL_call rfl rfl (DoC_func en44 rfl) (F_event_IsName_w p0.Tail _ e111 _ _ _ (H.enter [] [] (by decide) rfl)) ?_
      rintro _ w112 ⟨rfl, G113⟩
      have H := H109.step (G113.only : Only [] _ _)
      refine ⟨_, rfl, ?_⟩
      obtain ⟨x114, e115, hF⟩ := letO_some hF
      refine RL_do rfl rfl (Do_as (Do_not (p := x110) rfl) (congrArg Value.bool e115)) ?_
      refine RL_do rfl rfl (Do_pick_t (v := .bool x114) rfl rfl) ?_
      refine RL_splitb (b := x114) rfl rfl rfl (fun c116 => ?_) (fun c116 => ?_)
      · have hF := iteB_t c116 hF
        refine RL_off rfl rfl ?_
        refine RL_off rfl rfl ?_
        refine RL_off rfl rfl ?_
        refine RL_off rfl rfl ?_
        refine RL_do rfl rfl (Do_pick_t (v := .bool true) rfl rfl) ?_
        refine RL_do rfl rfl (Do_assign (v := .bool true) rfl) ?_
        have hR := Option.some.inj hF
        subst hR
        refine (RL_nil (thenQ_n (And.intro ?_ ?_)))
        · repeat' (first | with_reducible exact Fr_refl | refine Fr_upd rfl ?_ | refine Fr_over rfl rfl ?_)
        · exact ⟨(), (Sl_cons rfl Sl_nil), H.pick [1, 0] (by decide)⟩
      · have hF := iteB_f c116 hF
        refine RL_do rfl rfl (fa47_1 rfl) ?_
        refine RL_do rfl rfl (Do_load one9 rfl (Cells.get (Blk.cells (H.item (i := 1) rfl)) (i := 1) rfl)) ?_
        have H117 := H
        obtain ⟨x118, e119, hF⟩ := bindO_some hF
        refine RL_call rfl rfl (DoC_func en44 rfl) (F_event_IsName_w p0.Route _ e119 _ _ _ (H.enter [] [] (by decide) rfl)) ?_
        rintro _ w120 ⟨rfl, G121⟩
        have H := H117.step (G121.only : Only [] _ _)
        refine ⟨_, rfl, ?_⟩
        obtain ⟨x122, e123, hF⟩ := letO_some hF
        refine RL_do rfl rfl (Do_as (Do_not (p := x118) rfl) (congrArg Value.bool e123)) ?_
        refine RL_do rfl rfl (Do_pick_f (v := .bool x122) rfl rfl) ?_
        refine RL_do rfl rfl (Do_assign (v := .bool x122) rfl) ?_
        have hR := Option.some.inj hF
        subst hR
        refine (RL_nil (thenQ_n (And.intro ?_ ?_)))
        · repeat' (first | with_reducible exact Fr_refl | refine Fr_upd rfl ?_ | refine Fr_over rfl rfl ?_)
        · exact ⟨(), (Sl_cons rfl Sl_nil), H.pick [1, 0] (by decide)⟩
    · have hF := iteB_f c108 hF
      refine RL_off rfl rfl ?_
      refine RL_off rfl rfl ?_
      refine RL_off rfl rfl ?_
      refine RL_off rfl rfl ?_
      refine RL_do rfl rfl (Do_pick_f (v := .bool false) rfl rfl) ?_
      refine RL_do rfl rfl (Do_move (v := .bool false) rfl) ?_
      refine RL_do rfl rfl (fa47_1 rfl) ?_
      refine RL_do rfl rfl (Do_load one9 rfl (Cells.get (Blk.cells (H.item (i := 1) rfl)) (i := 1) rfl)) ?_
      have H124 := H
      obtain ⟨x125, e126, hF⟩ := bindO_some hF
      refine RL_call rfl rfl (DoC_func en44 rfl) (F_event_IsName_w p0.Route _ e126 _ _ _ (H.enter [] [] (by decide) rfl)) ?_
      rintro _ w127 ⟨rfl, G128⟩
      have H := H124.step (G128.only : Only [] _ _)
      refine ⟨_, rfl, ?_⟩
      obtain ⟨x129, e130, hF⟩ := letO_some hF
      refine RL_do rfl rfl (Do_as (Do_not (p := x125) rfl) (congrArg Value.bool e130)) ?_
      refine RL_do rfl rfl (Do_pick_f (v := .bool x129) rfl rfl) ?_
      refine RL_do rfl rfl (Do_assign (v := .bool x129) rfl) ?_
      have hR := Option.some.inj hF
      subst hR
      refine (RL_nil (thenQ_n (And.intro ?_ ?_)))
      · repeat' (first | with_reducible exact Fr_refl | refine Fr_upd rfl ?_ | refine Fr_over rfl rfl ?_)
      · exact ⟨(), (Sl_cons rfl Sl_nil), H.pick [1, 0] (by decide)⟩
  · rintro _ ρ w104 H
    have hF := hK105
    refine WP_ifb (b := g103) rfl (fun c131 => ?_) (fun c131 => ?_)
    · have hF := iteB_t c131 hF
      refine WP_seq_k fun K132 hK132 => ?_
      refine WP_region ?_
      refine RL_do rfl rfl (Do_assign (v := .int .i64 8) rfl) ?_
      refine (RL_nil (thenQ_n (hK132 _ _ ?_)))
      have hR := Option.some.inj hF
      subst hR
      refine (WP_ret (blockQ_r (thenQ_r (post1 (v1 := .int .i64 8) rfl rfl ?_))))
      exact ⟨rfl, H.pick [] (by decide)⟩
    · have hF := iteB_f c131 hF
      obtain ⟨g149, hF, hK151⟩ := bindO_some hF
      refine WP_seqS [19, 20, 21, 22, 23, 24, 25, 26, 27, 28, 29, 30, 31, 32, 33, 34, 35, 36, 37, 38, 39, 40] (fun (g : Unit) => [(19, .bool g149)]) (fun g wl => Hd O w wl S [.blk b4 [.string (bs p0.Tail), .string (bs p0.Route), .int .i64 p0.Day, .int .i64 p0.From, .int .i64 p0.To, v1] 47, .fz (.sl rTrack v1 p0.Tracks)]) ?_ ?_
      · skip
        refine WP_region ?_
        refine RL_do rfl rfl (fa47_2 rfl) ?_
        refine RL_do rfl rfl (Do_load one3 rfl (Cells.get (Blk.cells (H.item (i := 0) rfl)) (i := 2) rfl)) ?_
        have H152 := H
        obtain ⟨x153, e154, hF⟩ := bindO_some hF
        refine RL_call rfl rfl (DoC_func en28 rfl) (F_fleet_within_w p0.Day 0 1000000 _ e154 _ _ _ (H.enter [] [] (by decide) rfl)) ?_
        rintro _ w155 ⟨rfl, G156⟩
        have H := H152.step (G156.only : Only [] _ _)
        refine ⟨_, rfl, ?_⟩
        obtain ⟨x157, e158, hF⟩ := letO_some hF
        refine RL_do rfl rfl (Do_as (Do_not (p := x153) rfl) (congrArg Value.bool e158)) ?_
        refine RL_splitb (b := x157) rfl rfl rfl (fun c159 => ?_) (fun c159 => ?_)
        · have hF := iteB_t c159 hF
          refine RL_off rfl rfl ?_
          refine RL_off rfl rfl ?_
          refine RL_off rfl rfl ?_
          refine RL_do rfl rfl (Do_pick_t (v := .bool true) rfl rfl) ?_
          refine RL_do rfl rfl (Do_move (v := .bool true) rfl) ?_
          refine RL_off rfl rfl ?_
          refine RL_off rfl rfl ?_
          refine RL_off rfl rfl ?_
          refine RL_off rfl rfl ?_
          refine RL_off rfl rfl ?_
          refine RL_do rfl rfl (Do_pick_t (v := .bool true) rfl rfl) ?_
          refine RL_do rfl rfl (Do_move (v := .bool true) rfl) ?_
          refine RL_off rfl rfl ?_
          refine RL_off rfl rfl ?_
          refine RL_off rfl rfl ?_
          refine RL_do rfl rfl (Do_pick_t (v := .bool true) rfl rfl) ?_
          refine RL_do rfl rfl (Do_assign (v := .bool true) rfl) ?_
          have hR := Option.some.inj hF
          subst hR
          refine (RL_nil (thenQ_n (And.intro ?_ ?_)))
          · repeat' (first | with_reducible exact Fr_refl | refine Fr_upd rfl ?_ | refine Fr_over rfl rfl ?_)
          · exact ⟨(), (Sl_cons rfl Sl_nil), H.pick [0, 1] (by decide)⟩
        · have hF := iteB_f c159 hF
          refine RL_do rfl rfl (fa47_3 rfl) ?_
          refine RL_do rfl rfl (Do_load one3 rfl (Cells.get (Blk.cells (H.item (i := 0) rfl)) (i := 3) rfl)) ?_
          obtain ⟨x160, e161, hF⟩ := letO_some hF
          refine RL_do rfl rfl (Do_as (Do_lss (a := p0.From) (b := 0) rfl rfl) (congrArg Value.bool e161)) ?_
          refine RL_do rfl rfl (Do_pick_f (v := .bool x160) rfl rfl) ?_
          refine RL_splitb (b := x160) rfl rfl rfl (fun c162 => ?_) (fun c162 => ?_)
          · have hF := iteB_t c162 hF
            refine RL_off rfl rfl ?_
            refine RL_off rfl rfl ?_
            refine RL_off rfl rfl ?_
            refine RL_off rfl rfl ?_
            refine RL_off rfl rfl ?_
            refine RL_do rfl rfl (Do_pick_t (v := .bool true) rfl rfl) ?_
            refine RL_do rfl rfl (Do_move (v := .bool true) rfl) ?_
            refine RL_off rfl rfl ?_
            refine RL_off rfl rfl ?_
            refine RL_off rfl rfl ?_
            refine RL_do rfl rfl (Do_pick_t (v := .bool true) rfl rfl) ?_
            refine RL_do rfl rfl (Do_assign (v := .bool true) rfl) ?_
            have hR := Option.some.inj hF
            subst hR
            refine (RL_nil (thenQ_n (And.intro ?_ ?_)))
            · repeat' (first | with_reducible exact Fr_refl | refine Fr_upd rfl ?_ | refine Fr_over rfl rfl ?_)
            · exact ⟨(), (Sl_cons rfl Sl_nil), H.pick [0, 1] (by decide)⟩
          · have hF := iteB_f c162 hF
            refine RL_do rfl rfl (fa47_3 rfl) ?_
            refine RL_do rfl rfl (Do_load one3 rfl (Cells.get (Blk.cells (H.item (i := 0) rfl)) (i := 3) rfl)) ?_
            refine RL_do rfl rfl (fa47_4 rfl) ?_
            refine RL_do rfl rfl (Do_load one3 rfl (Cells.get (Blk.cells (H.item (i := 0) rfl)) (i := 4) rfl)) ?_
            obtain ⟨x163, e164, hF⟩ := letO_some hF
            refine RL_do rfl rfl (Do_as (Do_gtr (a := p0.From) (b := p0.To) rfl rfl) (congrArg Value.bool e164)) ?_
            refine RL_do rfl rfl (Do_pick_f (v := .bool x163) rfl rfl) ?_
            refine RL_splitb (b := x163) rfl rfl rfl (fun c165 => ?_) (fun c165 => ?_)
            · have hF := iteB_t c165 hF
              refine RL_off rfl rfl ?_
              refine RL_off rfl rfl ?_
              refine RL_off rfl rfl ?_
              refine RL_do rfl rfl (Do_pick_t (v := .bool true) rfl rfl) ?_
              refine RL_do rfl rfl (Do_assign (v := .bool true) rfl) ?_
              have hR := Option.some.inj hF
              subst hR
              refine (RL_nil (thenQ_n (And.intro ?_ ?_)))
              · repeat' (first | with_reducible exact Fr_refl | refine Fr_upd rfl ?_ | refine Fr_over rfl rfl ?_)
              · exact ⟨(), (Sl_cons rfl Sl_nil), H.pick [0, 1] (by decide)⟩
            · have hF := iteB_f c165 hF
              refine RL_do rfl rfl (fa47_4 rfl) ?_
              refine RL_do rfl rfl (Do_load one3 rfl (Cells.get (Blk.cells (H.item (i := 0) rfl)) (i := 4) rfl)) ?_
              obtain ⟨x166, e167, hF⟩ := letO_some hF
              refine RL_do rfl rfl (Do_as (Do_geq (a := p0.To) (b := 4194304) rfl rfl) (congrArg Value.bool e167)) ?_
              refine RL_do rfl rfl (Do_pick_f (v := .bool x166) rfl rfl) ?_
              refine RL_do rfl rfl (Do_assign (v := .bool x166) rfl) ?_
              have hR := Option.some.inj hF
              subst hR
              refine (RL_nil (thenQ_n (And.intro ?_ ?_)))
              · repeat' (first | with_reducible exact Fr_refl | refine Fr_upd rfl ?_ | refine Fr_over rfl rfl ?_)
              · exact ⟨(), (Sl_cons rfl Sl_nil), H.pick [0, 1] (by decide)⟩
      · rintro _ ρ w150 H
        have hF := hK151
        refine WP_ifb (b := g149) rfl (fun c168 => ?_) (fun c168 => ?_)
        · have hF := iteB_t c168 hF
          refine WP_seq_k fun K169 hK169 => ?_
          refine WP_region ?_
          refine RL_do rfl rfl (Do_assign (v := .int .i64 9) rfl) ?_
          refine (RL_nil (thenQ_n (hK169 _ _ ?_)))
          have hR := Option.some.inj hF
          subst hR
          refine (WP_ret (blockQ_r (thenQ_r (post1 (v1 := .int .i64 9) rfl rfl ?_))))
          exact ⟨rfl, H.pick [] (by decide)⟩
        · have hF := iteB_f c168 hF
          obtain ⟨g184, hF, hK186⟩ := bindO_some hF
          refine WP_seqS [41, 42, 43, 44, 45, 46, 47, 48, 49, 50, 51, 52, 53, 54] (fun (g : Unit) => [(41, .bool g184)]) (fun g wl => Hd O w wl S [.blk b4 [.string (bs p0.Tail), .string (bs p0.Route), .int .i64 p0.Day, .int .i64 p0.From, .int .i64 p0.To, v1] 47, .fz (.sl rTrack v1 p0.Tracks)]) ?_ ?_
          · skip
            refine WP_region ?_
            refine RL_do rfl rfl (fa47_4 rfl) ?_
            refine RL_do rfl rfl (Do_load one3 rfl (Cells.get (Blk.cells (H.item (i := 0) rfl)) (i := 4) rfl)) ?_
            refine RL_do rfl rfl (fa47_3 rfl) ?_
            refine RL_do rfl rfl (Do_load one3 rfl (Cells.get (Blk.cells (H.item (i := 0) rfl)) (i := 3) rfl)) ?_
            obtain ⟨x187, e188, hF⟩ := letO_some hF
            refine RL_do rfl rfl (Do_sub (a := p0.To) (b := p0.From) rfl rfl e188) ?_
            obtain ⟨x189, e190, hF⟩ := letO_some hF
            refine RL_do rfl rfl (Do_add (a := x187) (b := 1) rfl rfl e190) ?_
            obtain ⟨x191, e192, hF⟩ := letO_some hF
            refine RL_do rfl rfl (Do_as (Do_gtr (a := x189) (b := 20000) rfl rfl) (congrArg Value.bool e192)) ?_
            refine RL_splitb (b := x191) rfl rfl rfl (fun c193 => ?_) (fun c193 => ?_)
            · have hF := iteB_t c193 hF
              refine RL_off rfl rfl ?_
              refine RL_off rfl rfl ?_
              refine RL_off rfl rfl ?_
              refine RL_off rfl rfl ?_
              refine RL_do rfl rfl (Do_pick_t (v := .bool true) rfl rfl) ?_
              refine RL_do rfl rfl (Do_assign (v := .bool true) rfl) ?_
              have hR := Option.some.inj hF
              subst hR
              refine (RL_nil (thenQ_n (And.intro ?_ ?_)))
              · repeat' (first | with_reducible exact Fr_refl | refine Fr_upd rfl ?_ | refine Fr_over rfl rfl ?_)
              · exact ⟨(), (Sl_cons rfl Sl_nil), H.pick [0, 1] (by decide)⟩
            · have hF := iteB_f c193 hF
              refine RL_do rfl rfl (fa47_5 rfl) ?_
              refine RL_do rfl rfl (Do_load one45 rfl (Cells.get (Blk.cells (H.item (i := 0) rfl)) (i := 5) rfl)) ?_
              obtain ⟨x194, e195, hF⟩ := letO_some hF
              obtain ⟨a196, c197, q198⟩ := SlF.len ((H.item (i := 1) rfl))
              refine RL_do rfl rfl (Do_as (Do_len u45 q198) (congrArg (Value.int .i64) e195)) ?_
              obtain ⟨x199, e200, hF⟩ := letO_some hF
              refine RL_do rfl rfl (Do_as (Do_gtr (a := x194) (b := 30) rfl rfl) (congrArg Value.bool e200)) ?_
              refine RL_do rfl rfl (Do_pick_f (v := .bool x199) rfl rfl) ?_
              refine RL_do rfl rfl (Do_assign (v := .bool x199) rfl) ?_
              have hR := Option.some.inj hF
              subst hR
              refine (RL_nil (thenQ_n (And.intro ?_ ?_)))
              · repeat' (first | with_reducible exact Fr_refl | refine Fr_upd rfl ?_ | refine Fr_over rfl rfl ?_)
              · exact ⟨(), (Sl_cons rfl Sl_nil), H.pick [0, 1] (by decide)⟩
          · rintro _ ρ w185 H
            have hF := hK186
            refine WP_ifb (b := g184) rfl (fun c201 => ?_) (fun c201 => ?_)
            · have hF := iteB_t c201 hF
              refine WP_seq_k fun K202 hK202 => ?_
              refine WP_region ?_
              refine RL_do rfl rfl (Do_assign (v := .int .i64 3) rfl) ?_
              refine (RL_nil (thenQ_n (hK202 _ _ ?_)))
              have hR := Option.some.inj hF
              subst hR
              refine (WP_ret (blockQ_r (thenQ_r (post1 (v1 := .int .i64 3) rfl rfl ?_))))
              exact ⟨rfl, H.pick [] (by decide)⟩
            · have hF := iteB_f c201 hF
              refine (WP_skip (blockQ_n (thenQ_n (hK77 _ _ ?_))))
              refine WP_seq_k fun K203 hK203 => ?_
              refine WP_region ?_
              refine RL_do rfl rfl (fa47_5 rfl) ?_
              refine RL_do rfl rfl (Do_load one45 rfl (Cells.get (Blk.cells (H.item (i := 0) rfl)) (i := 5) rfl)) ?_
              have H204 := H
              obtain ⟨x205, e206, hF⟩ := bindO_some hF
              refine RL_call rfl rfl (DoC_func en45 rfl) (F_event_CheckTracks_w p0.Tracks v1 _ e206 _ _ _ (H.enter [] [1] (by decide) rfl)) ?_
              rintro _ w207 ⟨rfl, G208⟩
              have H := H204.step (G208.only : Only [] _ _)
              refine ⟨_, rfl, ?_⟩
              refine RL_do rfl rfl (Do_assign (v := .int .i64 x205) rfl) ?_
              refine (RL_nil (thenQ_n (hK203 _ _ ?_)))
              have hR := Option.some.inj hF
              subst hR
              refine (WP_ret (post1 (v1 := .int .i64 x205) rfl rfl ?_))
              exact ⟨rfl, H.pick [] (by decide)⟩
end Go.Proofs.YtbjhondbheijiaaDoor.L
namespace Go.Proofs.YtbjhondbheijiaaDoor.L
open Go.RowKit Go.OB Go.Lf
/- slices.Index[[]string,string] -/
set_option maxHeartbeats 4000000 in
theorem F_slices_Index___string_string__w (p0 : List Str) (p1 : Str) (v1 : Value) (r : Int) (hF : F_slices_Index___string_string_ p0 p1 = some r) (O S : List Nat) (w : World) (H : Hd O w w S [.fz (.sl Rp.str v1 p0)]) :
    Calls Tryd.prog 80 ([v1, .string (bs p1)] : List Value).toArray w fun e w' => e = .returned (.int .i64 r) ∧ Hd O w w' S [] := by
  unfold F_slices_Index___string_string_ at hF
  refine calls_of_WP 19 Tryd.func80 rfl rfl rfl ?_
  refine WP_seq_k fun K3 hK3 => ?_
  refine WP_region ?_
  refine RL_do rfl rfl (Do_assign (v := .int .i64 0) rfl) ?_
  refine (RL_nil (thenQ_n (hK3 _ _ ?_)))
  obtain ⟨k108, ek109, hF⟩ := joinO_some hF
  refine WP_seqS [4, 5, 6, 7, 8, 9, 10, 11, 12, 13, 14, 15, 16, 17, 18] (fun (g : Unit) => []) (fun g wl => Hd O w wl S [] ∧ k108 () = some r) ?_ ?_
  · skip
    refine WP_seq_k fun K110 hK110 => ?_
    refine WP_region ?_
    refine RL_do rfl rfl (Do_move (v := v1) rfl) ?_
    obtain ⟨x111, e112, hF⟩ := letO_some hF
    obtain ⟨a113, c114, q115⟩ := SlF.len ((H.item (i := 0) rfl))
    refine RL_do rfl rfl (Do_as (Do_len u35 q115) (congrArg (Value.int .i64) e112)) ?_
    refine RL_do rfl rfl (Do_move (v := .int .i64 0) rfl) ?_
    refine (RL_nil (thenQ_n (hK110 _ _ ?_)))
    refine WP_block ?_
    unfold F_slices_Index___string_string__L1 at hF
    obtain ⟨B208, n209, eB210, hF⟩ := loopO_some hF
    refine WP_loopS [4, 5, 8, 9, 10, 11, 12, 13, 14, 15, 16, 17, 18] (fun (g : Nat × Int) => [(8, .int .i64 g.2)]) (fun g wl => Hd O w wl S [.fz (.sl Rp.str v1 p0)] ∧ loopN B208 g.1 g.2 = some r) (fun g => g.1) (n209, 0) (Sl_cons rfl Sl_nil) ⟨H.pick [0] (by decide), hF⟩ ?_
    clear H hF
    rintro ⟨n209, g207⟩ ρ w212 ⟨H, hF⟩
    obtain ⟨n213, rfl, hF⟩ := loopN_pos hF
    have hF := loop_body eB210 hF
    refine WP_seq_k fun K214 hK214 => ?_
    refine WP_region ?_
    obtain ⟨x215, e216, hF⟩ := letO_some hF
    refine RL_do rfl rfl (Do_as (Do_lss (a := g207) (b := x111) rfl rfl) (congrArg Value.bool e216)) ?_
    refine (RL_nil (thenQ_n (hK214 _ _ ?_)))
    refine WP_seq_k fun K218 hK218 => ?_
    refine WP_ifb (b := x215) rfl (fun c219 => ?_) (fun c219 => ?_)
    · have hF := iteB_t c219 hF
      refine (WP_skip (thenQ_n (hK218 _ _ ?_)))
      refine WP_seq_k fun K238 hK238 => ?_
      refine WP_block ?_
      refine WP_seq_k fun K239 hK239 => ?_
      refine WP_region ?_
      refine RL_do rfl rfl (Do_move (v := .int .i64 g207) rfl) ?_
      refine RL_do rfl rfl (Do_assign (v := .int .i64 g207) rfl) ?_
      refine (RL_nil (thenQ_n (hK239 _ _ ?_)))
      refine WP_seq_k fun K240 hK240 => ?_
      refine WP_region ?_
      refine RL_do rfl rfl (Do_move (v := .string (bs p1)) rfl) ?_
      refine RL_do rfl rfl (Do_move (v := v1) rfl) ?_
      refine RL_do rfl rfl (Do_move (v := .int .i64 g207) rfl) ?_
      obtain ⟨x241, e242, hF⟩ := bindO_some hF
      obtain ⟨b243, o244, c245, cs246, q247, h250, h248, h249, h251⟩ := rd_at (H.item (i := 0) rfl) e242
      obtain rfl : cs246 = [.string (bs x241)] := h250
      have H := H.fz (.at b243 (o244 + g207.toNat * 1) _) ⟨h248, h249, h251⟩
      refine RL_do rfl rfl (Do_idx u35 sz9 q247 rfl (at_some e242).1 (at_some e242).2.1 rfl rfl) ?_
      refine RL_do rfl rfl (Do_load one9 rfl (Cells.get (H.item (i := 1) rfl).2.2 (i := 0) rfl)) ?_
      obtain ⟨x253, e254, hF⟩ := letO_some hF
      refine RL_do rfl rfl (Do_as (Do_eqls (s1 := p1) (s2 := x241) rfl rfl) (congrArg Value.bool e254)) ?_
      refine (RL_nil (thenQ_n (hK240 _ _ ?_)))
      refine WP_ifb (b := x253) rfl (fun c255 => ?_) (fun c255 => ?_)
      · have hF := iteB_t c255 hF
        refine WP_seq_k fun K256 hK256 => ?_
        refine WP_region ?_
        refine RL_do rfl rfl (Do_move (v := .int .i64 g207) rfl) ?_
        refine RL_do rfl rfl (Do_assign (v := .int .i64 g207) rfl) ?_
        refine (RL_nil (thenQ_n (hK256 _ _ ?_)))
        have hR := Option.some.inj hF
        subst hR
        refine (WP_ret (blockQ_r (thenQ_r (thenQ_r (blockQ_r (thenQ_r (post1 (v1 := .int .i64 g207) rfl rfl ?_)))))))
        exact ⟨rfl, H.pick [] (by decide)⟩
      · have hF := iteB_f c255 hF
        refine (WP_skip (blockQ_n (thenQ_n (hK238 _ _ ?_))))
        refine WP_region ?_
        obtain ⟨x257, e258, hF⟩ := letO_some hF
        refine RL_do rfl rfl (Do_add (a := g207) (b := 1) rfl rfl e258) ?_
        refine RL_do rfl rfl (Do_move (v := .int .i64 x257) rfl) ?_
        refine (RL_nil (thenQ_n (And.intro ?_ ?_)))
        · repeat' (first | with_reducible exact Fr_refl | refine Fr_upd rfl ?_ | refine Fr_over rfl rfl ?_)
        · exact ⟨(n213, x257), (Sl_cons rfl Sl_nil), ⟨H.pick [0] (by decide), hF⟩, Nat.lt_succ_self _⟩
    · have hF := iteB_f c219 hF
      refine (WP_exit (thenQ_x (thenQ_x (blockQ_eq (thenQ_n (And.intro ?_ ?_))))))
      · repeat' (first | with_reducible exact Fr_refl | refine Fr_upd rfl ?_ | refine Fr_over rfl rfl ?_)
      · exact ⟨(), Sl_nil, ⟨H.pick [] (by decide), hF⟩⟩
  · rintro _ ρ w107 ⟨H, hF⟩
    have hF := join_body ek109 hF
    refine WP_seq_k fun K259 hK259 => ?_
    refine WP_region ?_
    refine RL_do rfl rfl (Do_assign (v := .int .i64 (-1)) rfl) ?_
    refine (RL_nil (thenQ_n (hK259 _ _ ?_)))
    have hR := Option.some.inj hF
    subst hR
    refine (WP_ret (post1 (v1 := .int .i64 (-1)) rfl rfl ?_))
    exact ⟨rfl, H.pick [] (by decide)⟩
end Go.Proofs.YtbjhondbheijiaaDoor.L
namespace Go.Proofs.YtbjhondbheijiaaDoor.L
open Go.RowKit Go.OB Go.Lf
/- slices.Contains[[]string,string] -/
set_option maxHeartbeats 4000000 in
theorem F_slices_Contains___string_string__w (p0 : List Str) (p1 : Str) (v1 : Value) (r : Bool) (hF : F_slices_Contains___string_string_ p0 p1 = some r) (O S : List Nat) (w : World) (H : Hd O w w S [.fz (.sl Rp.str v1 p0)]) :
    Calls Tryd.prog 60 ([v1, .string (bs p1)] : List Value).toArray w fun e w' => e = .returned (.bool r) ∧ Hd O w w' S [] := by
  unfold F_slices_Contains___string_string_ at hF
  refine calls_of_WP 9 Tryd.func60 rfl rfl rfl ?_
  refine WP_seq_k fun K3 hK3 => ?_
  refine WP_region ?_
  refine RL_do rfl rfl (Do_assign (v := .bool false) rfl) ?_
  refine (RL_nil (thenQ_n (hK3 _ _ ?_)))
  refine WP_seq_k fun K4 hK4 => ?_
  refine WP_region ?_
  refine RL_do rfl rfl (Do_move (v := v1) rfl) ?_
  refine RL_do rfl rfl (Do_move (v := .string (bs p1)) rfl) ?_
  have H5 := H
  obtain ⟨x6, e7, hF⟩ := bindO_some hF
  refine RL_call rfl rfl (DoC_func en80 rfl) (F_slices_Index___string_string__w p0 p1 v1 _ e7 _ _ _ (H.enter [] [0] (by decide) rfl)) ?_
  rintro _ w8 ⟨rfl, G9⟩
  have H := H5.step (G9.only : Only [] _ _)
  refine ⟨_, rfl, ?_⟩
  obtain ⟨x10, e11, hF⟩ := letO_some hF
  refine RL_do rfl rfl (Do_as (Do_geq (a := x6) (b := 0) rfl rfl) (congrArg Value.bool e11)) ?_
  refine RL_do rfl rfl (Do_assign (v := .bool x10) rfl) ?_
  refine (RL_nil (thenQ_n (hK4 _ _ ?_)))
  have hR := Option.some.inj hF
  subst hR
  refine (WP_ret (post1 (v1 := .bool x10) rfl rfl ?_))
  exact ⟨rfl, H.pick [] (by decide)⟩
end Go.Proofs.YtbjhondbheijiaaDoor.L
namespace Go.Proofs.YtbjhondbheijiaaDoor.L
open Go.RowKit Go.OB Go.Lf
/- orangebox/fleet.checkNames -/
set_option maxHeartbeats 4000000 in
theorem F_fleet_checkNames_w (p0 : List Str) (v1 : Value) (r : Int) (hF : F_fleet_checkNames p0 = some r) (O S : List Nat) (w : World) (H : Hd O w w S [.fz (.sl Rp.str v1 p0)]) :
    Calls Tryd.prog 48 ([v1] : List Value).toArray w fun e w' => e = .returned (.int .i64 r) ∧ Hd O w w' S [] := by
  unfold F_fleet_checkNames at hF
  refine calls_of_WP 24 Tryd.func48 rfl rfl rfl ?_
  refine WP_seq_k fun K3 hK3 => ?_
  refine WP_region ?_
  refine RL_do rfl rfl (Do_assign (v := .int .i64 0) rfl) ?_
  refine (RL_nil (thenQ_n (hK3 _ _ ?_)))
  refine WP_seq_k fun K14 hK14 => ?_
  refine WP_seq_k fun K15 hK15 => ?_
  refine WP_region ?_
  refine RL_do rfl rfl (Do_move (v := v1) rfl) ?_
  obtain ⟨x16, e17, hF⟩ := letO_some hF
  obtain ⟨a18, c19, q20⟩ := SlF.len ((H.item (i := 0) rfl))
  refine RL_do rfl rfl (Do_as (Do_len u35 q20) (congrArg (Value.int .i64) e17)) ?_
  obtain ⟨x21, e22, hF⟩ := letO_some hF
  refine RL_do rfl rfl (Do_as (Do_gtr (a := x16) (b := 30) rfl rfl) (congrArg Value.bool e22)) ?_
  refine (RL_nil (thenQ_n (hK15 _ _ ?_)))
  refine WP_ifb (b := x21) rfl (fun c23 => ?_) (fun c23 => ?_)
  · have hF := iteB_t c23 hF
    refine WP_seq_k fun K24 hK24 => ?_
    refine WP_region ?_
    refine RL_do rfl rfl (Do_assign (v := .int .i64 3) rfl) ?_
    refine (RL_nil (thenQ_n (hK24 _ _ ?_)))
    have hR := Option.some.inj hF
    subst hR
    refine (WP_ret (thenQ_r (post1 (v1 := .int .i64 3) rfl rfl ?_)))
    exact ⟨rfl, H.pick [] (by decide)⟩
  · have hF := iteB_f c23 hF
    refine (WP_skip (thenQ_n (hK14 _ _ ?_)))
    obtain ⟨k245, ek246, hF⟩ := joinO_some hF
    refine WP_seqS [2, 3, 4, 8, 9, 10, 11, 12, 13, 14, 15, 16, 17, 18, 19, 20, 21, 22, 23] (fun (g : Unit) => []) (fun g wl => Hd O w wl S [] ∧ k245 () = some r) ?_ ?_
    · skip
      refine WP_seq_k fun K247 hK247 => ?_
      refine WP_region ?_
      refine RL_do rfl rfl (Do_move (v := v1) rfl) ?_
      obtain ⟨x248, e249, hF⟩ := letO_some hF
      obtain ⟨a250, c251, q252⟩ := SlF.len ((H.item (i := 0) rfl))
      refine RL_do rfl rfl (Do_as (Do_len u35 q252) (congrArg (Value.int .i64) e249)) ?_
      refine RL_do rfl rfl (Do_move (v := .int .i64 0) rfl) ?_
      refine (RL_nil (thenQ_n (hK247 _ _ ?_)))
      refine WP_block ?_
      unfold F_fleet_checkNames_L1 at hF
      obtain ⟨B461, n462, eB463, hF⟩ := loopO_some hF
      refine WP_loopS [2, 3, 4, 10, 11, 12, 13, 14, 15, 16, 17, 18, 19, 20, 21, 22, 23] (fun (g : Nat × Int) => [(10, .int .i64 g.2)]) (fun g wl => Hd O w wl S [.fz (.sl Rp.str v1 p0)] ∧ loopN B461 g.1 g.2 = some r) (fun g => g.1) (n462, 0) (Sl_cons rfl Sl_nil) ⟨H.pick [0] (by decide), hF⟩ ?_
      clear H hF
      rintro ⟨n462, g460⟩ ρ w465 ⟨H, hF⟩
      obtain ⟨n466, rfl, hF⟩ := loopN_pos hF
      have hF := loop_body eB463 hF
      refine WP_seq_k fun K467 hK467 => ?_
      refine WP_region ?_
      obtain ⟨x468, e469, hF⟩ := letO_some hF
      refine RL_do rfl rfl (Do_as (Do_lss (a := g460) (b := x248) rfl rfl) (congrArg Value.bool e469)) ?_
      refine (RL_nil (thenQ_n (hK467 _ _ ?_)))
      refine WP_seq_k fun K471 hK471 => ?_
      refine WP_ifb (b := x468) rfl (fun c472 => ?_) (fun c472 => ?_)
      · have hF := iteB_t c472 hF
        refine (WP_skip (thenQ_n (hK471 _ _ ?_)))
        refine WP_seq_k fun K520 hK520 => ?_
        refine WP_block ?_
        refine WP_seq_k fun K521 hK521 => ?_
        refine WP_region ?_
        refine RL_do rfl rfl (Do_move (v := .int .i64 g460) rfl) ?_
        obtain ⟨x522, e523, hF⟩ := bindO_some hF
        obtain ⟨b524, o525, c526, cs527, q528, h531, h529, h530, h532⟩ := rd_at (H.item (i := 0) rfl) e523
        obtain rfl : cs527 = [.string (bs x522)] := h531
        have H := H.fz (.at b524 (o525 + g460.toNat * 1) _) ⟨h529, h530, h532⟩
        refine RL_do rfl rfl (Do_idx u35 sz9 q528 rfl (at_some e523).1 (at_some e523).2.1 rfl rfl) ?_
        refine RL_do rfl rfl (Do_load one9 rfl (Cells.get (H.item (i := 1) rfl).2.2 (i := 0) rfl)) ?_
        refine RL_do rfl rfl (Do_assign (v := .int .i64 g460) rfl) ?_
        refine RL_do rfl rfl (Do_assign (v := .string (bs x522)) rfl) ?_
        refine (RL_nil (thenQ_n (hK521 _ _ ?_)))
        refine WP_seq_k fun K544 hK544 => ?_
        refine WP_seq_k fun K545 hK545 => ?_
        refine WP_region ?_
        refine RL_do rfl rfl (Do_move (v := .string (bs x522)) rfl) ?_
        have H546 := H
        obtain ⟨x547, e548, hF⟩ := bindO_some hF
        refine RL_call rfl rfl (DoC_func en44 rfl) (F_event_IsName_w x522 _ e548 _ _ _ (H.enter [] [] (by decide) rfl)) ?_
        rintro _ w549 ⟨rfl, G550⟩
        have H := H546.step (G550.only : Only [] _ _)
        refine ⟨_, rfl, ?_⟩
        obtain ⟨x551, e552, hF⟩ := letO_some hF
        refine RL_do rfl rfl (Do_as (Do_not (p := x547) rfl) (congrArg Value.bool e552)) ?_
        refine (RL_nil (thenQ_n (hK545 _ _ ?_)))
        refine WP_ifb (b := x551) rfl (fun c553 => ?_) (fun c553 => ?_)
        · have hF := iteB_t c553 hF
          refine WP_seq_k fun K554 hK554 => ?_
          refine WP_region ?_
          refine RL_do rfl rfl (Do_assign (v := .int .i64 8) rfl) ?_
          refine (RL_nil (thenQ_n (hK554 _ _ ?_)))
          have hR := Option.some.inj hF
          subst hR
          refine (WP_ret (thenQ_r (blockQ_r (thenQ_r (thenQ_r (blockQ_r (thenQ_r (post1 (v1 := .int .i64 8) rfl rfl ?_))))))))
          exact ⟨rfl, H.pick [] (by decide)⟩
        · have hF := iteB_f c553 hF
          refine (WP_skip (thenQ_n (hK544 _ _ ?_)))
          refine WP_seq_k fun K555 hK555 => ?_
          refine WP_region ?_
          refine RL_do rfl rfl (Do_move (v := v1) rfl) ?_
          refine RL_do rfl rfl (Do_move (v := .int .i64 g460) rfl) ?_
          obtain ⟨x556, e557, hF⟩ := bindO_some hF
          refine RL_exP rfl rfl (Lx_slice_h u35 sz9 (H.item (i := 0) rfl) rfl rfl e557) ?_
          rintro v558 h559
          have H := H.fz (.sl Rp.str v558 x556) h559
          refine RL_do rfl rfl (Do_move (v := .string (bs x522)) rfl) ?_
          have H561 := H
          obtain ⟨x562, e563, hF⟩ := bindO_some hF
          refine RL_call rfl rfl (DoC_func en60 rfl) (F_slices_Contains___string_string__w x556 x522 v558 _ e563 _ _ _ (H.enter [] [2] (by decide) rfl)) ?_
          rintro _ w564 ⟨rfl, G565⟩
          have H := H561.step (G565.only : Only [] _ _)
          refine ⟨_, rfl, ?_⟩
          refine (RL_nil (thenQ_n (hK555 _ _ ?_)))
          refine WP_ifb (b := x562) rfl (fun c566 => ?_) (fun c566 => ?_)
          · have hF := iteB_t c566 hF
            refine WP_seq_k fun K567 hK567 => ?_
            refine WP_region ?_
            refine RL_do rfl rfl (Do_assign (v := .int .i64 5) rfl) ?_
            refine (RL_nil (thenQ_n (hK567 _ _ ?_)))
            have hR := Option.some.inj hF
            subst hR
            refine (WP_ret (blockQ_r (thenQ_r (thenQ_r (blockQ_r (thenQ_r (post1 (v1 := .int .i64 5) rfl rfl ?_)))))))
            exact ⟨rfl, H.pick [] (by decide)⟩
          · have hF := iteB_f c566 hF
            refine (WP_skip (blockQ_n (thenQ_n (hK520 _ _ ?_))))
            refine WP_region ?_
            obtain ⟨x568, e569, hF⟩ := letO_some hF
            refine RL_do rfl rfl (Do_add (a := g460) (b := 1) rfl rfl e569) ?_
            refine RL_do rfl rfl (Do_move (v := .int .i64 x568) rfl) ?_
            refine (RL_nil (thenQ_n (And.intro ?_ ?_)))
            · repeat' (first | with_reducible exact Fr_refl | refine Fr_upd rfl ?_ | refine Fr_over rfl rfl ?_)
            · exact ⟨(n466, x568), (Sl_cons rfl Sl_nil), ⟨H.pick [0] (by decide), hF⟩, Nat.lt_succ_self _⟩
      · have hF := iteB_f c472 hF
        refine (WP_exit (thenQ_x (thenQ_x (blockQ_eq (thenQ_n (And.intro ?_ ?_))))))
        · repeat' (first | with_reducible exact Fr_refl | refine Fr_upd rfl ?_ | refine Fr_over rfl rfl ?_)
        · exact ⟨(), Sl_nil, ⟨H.pick [] (by decide), hF⟩⟩
    · rintro _ ρ w244 ⟨H, hF⟩
      have hF := join_body ek246 hF
      refine WP_seq_k fun K570 hK570 => ?_
      refine WP_region ?_
      refine RL_do rfl rfl (Do_assign (v := .int .i64 0) rfl) ?_
      refine (RL_nil (thenQ_n (hK570 _ _ ?_)))
      have hR := Option.some.inj hF
      subst hR
      refine (WP_ret (post1 (v1 := .int .i64 0) rfl rfl ?_))
      exact ⟨rfl, H.pick [] (by decide)⟩
end Go.Proofs.YtbjhondbheijiaaDoor.L
namespace Go.Proofs.YtbjhondbheijiaaDoor.L
open Go.RowKit Go.OB Go.Lf
/- orangebox/fleet.CheckMask$1 -/
set_option maxHeartbeats 4000000 in
theorem F_fleet_CheckMask_1_w (p0 : Grain) (c0 : Grain) (b1 : Nat) (r : Bool) (hF : F_fleet_CheckMask_1 p0 c0 = some r) (O S : List Nat) (w : World) (H : Hd O w w S [.blk b1 [.string (bs c0.Track), .int .i64 c0.N] 82]) :
    Calls Tryd.prog 50 ([.agg [.string (bs p0.Track), .int .i64 p0.N].toArray, .pointer (some ⟨b1, 0, none⟩)] : List Value).toArray w fun e w' => e = .returned (.bool r) ∧ Hd O w w' S [.blk b1 [.string (bs c0.Track), .int .i64 c0.N] 82] := by
  unfold F_fleet_CheckMask_1 at hF
  refine calls_of_WP 9 Tryd.func50 rfl rfl rfl ?_
  refine WP_seq_k fun K3 hK3 => ?_
  refine WP_region ?_
  refine RL_ex rfl rfl (Lx_box (cs := [.string (bs p0.Track), .int .i64 p0.N]) rfl H) ?_
  rintro _ w6 ⟨b4, rfl, H⟩
  refine RL_do rfl rfl (Do_assign (v := .bool false) rfl) ?_
  refine (RL_nil (thenQ_n (hK3 _ _ ?_)))
  refine WP_seq_k fun K7 hK7 => ?_
  refine WP_region ?_
  refine RL_do rfl rfl (fa82_0 rfl) ?_
  refine RL_do rfl rfl (Do_load one9 rfl (Cells.get (Blk.cells (H.item (i := 1) rfl)) (i := 0) rfl)) ?_
  refine RL_do rfl rfl (fa82_0 rfl) ?_
  refine RL_do rfl rfl (Do_load one9 rfl (Cells.get (Blk.cells (H.item (i := 0) rfl)) (i := 0) rfl)) ?_
  obtain ⟨x8, e9, hF⟩ := letO_some hF
  refine RL_do rfl rfl (Do_as (Do_eqls (s1 := p0.Track) (s2 := c0.Track) rfl rfl) (congrArg Value.bool e9)) ?_
  refine RL_do rfl rfl (Do_assign (v := .bool x8) rfl) ?_
  refine (RL_nil (thenQ_n (hK7 _ _ ?_)))
  have hR := Option.some.inj hF
  subst hR
  refine (WP_ret (post1 (v1 := .bool x8) rfl rfl ?_))
  exact ⟨rfl, H.pick [0] (by decide)⟩
end Go.Proofs.YtbjhondbheijiaaDoor.L
namespace Go.Proofs.YtbjhondbheijiaaDoor.L
open Go.RowKit Go.OB Go.Lf
/- slices.IndexFunc[[]orangebox/api.Grain,orangebox/api.Grain]@orangebox/fleet.CheckMask$1 -/
set_option maxHeartbeats 4000000 in
theorem F_slices_IndexFunc___api_Grain_api_Grain__fleet_CheckMask_1_w (p0 : List Grain) (p1c0 : Grain) (v1 : Value) (b3 : Nat) (r : Int) (hF : F_slices_IndexFunc___api_Grain_api_Grain__fleet_CheckMask_1 p0 p1c0 = some r) (O S : List Nat) (w : World) (H : Hd O w w S [.blk b3 [.string (bs p1c0.Track), .int .i64 p1c0.N] 82, .fz (.sl rGrain v1 p0)]) :
    Calls Tryd.prog 71 ([v1, .func (.func 50) #[] [.pointer (some ⟨b3, 0, none⟩)].toArray] : List Value).toArray w fun e w' => e = .returned (.int .i64 r) ∧ Hd O w w' S [.blk b3 [.string (bs p1c0.Track), .int .i64 p1c0.N] 82] := by
  unfold F_slices_IndexFunc___api_Grain_api_Grain__fleet_CheckMask_1 at hF
  refine calls_of_WP 19 Tryd.func71 rfl rfl rfl ?_
  refine WP_seq_k fun K5 hK5 => ?_
  refine WP_region ?_
  refine RL_do rfl rfl (Do_assign (v := .int .i64 0) rfl) ?_
  refine (RL_nil (thenQ_n (hK5 _ _ ?_)))
  obtain ⟨k118, ek119, hF⟩ := joinO_some hF
  refine WP_seqS [4, 5, 6, 7, 8, 9, 10, 11, 12, 13, 14, 15, 16, 17, 18] (fun (g : Unit) => []) (fun g wl => Hd O w wl S [.blk b3 [.string (bs p1c0.Track), .int .i64 p1c0.N] 82] ∧ k118 () = some r) ?_ ?_
  · skip
    refine WP_seq_k fun K120 hK120 => ?_
    refine WP_region ?_
    refine RL_do rfl rfl (Do_move (v := v1) rfl) ?_
    obtain ⟨x121, e122, hF⟩ := letO_some hF
    obtain ⟨a123, c124, q125⟩ := SlF.len ((H.item (i := 1) rfl))
    refine RL_do rfl rfl (Do_as (Do_len u48 q125) (congrArg (Value.int .i64) e122)) ?_
    refine RL_do rfl rfl (Do_move (v := .int .i64 0) rfl) ?_
    refine (RL_nil (thenQ_n (hK120 _ _ ?_)))
    refine WP_block ?_
    unfold F_slices_IndexFunc___api_Grain_api_Grain__fleet_CheckMask_1_L1 at hF
    obtain ⟨B226, n227, eB228, hF⟩ := loopO_some hF
    refine WP_loopS [4, 5, 8, 9, 10, 11, 12, 13, 14, 15, 16, 17, 18] (fun (g : Nat × Int) => [(8, .int .i64 g.2)]) (fun g wl => Hd O w wl S [.blk b3 [.string (bs p1c0.Track), .int .i64 p1c0.N] 82, .fz (.sl rGrain v1 p0)] ∧ loopN B226 g.1 g.2 = some r) (fun g => g.1) (n227, 0) (Sl_cons rfl Sl_nil) ⟨H.pick [0, 1] (by decide), hF⟩ ?_
    clear H hF
    rintro ⟨n227, g225⟩ ρ w230 ⟨H, hF⟩
    obtain ⟨n231, rfl, hF⟩ := loopN_pos hF
    have hF := loop_body eB228 hF
    refine WP_seq_k fun K232 hK232 => ?_
    refine WP_region ?_
    obtain ⟨x233, e234, hF⟩ := letO_some hF
    refine RL_do rfl rfl (Do_as (Do_lss (a := g225) (b := x121) rfl rfl) (congrArg Value.bool e234)) ?_
    refine (RL_nil (thenQ_n (hK232 _ _ ?_)))
    refine WP_seq_k fun K236 hK236 => ?_
    refine WP_ifb (b := x233) rfl (fun c237 => ?_) (fun c237 => ?_)
    · have hF := iteB_t c237 hF
      refine (WP_skip (thenQ_n (hK236 _ _ ?_)))
      refine WP_seq_k fun K258 hK258 => ?_
      refine WP_block ?_
      refine WP_seq_k fun K259 hK259 => ?_
      refine WP_region ?_
      refine RL_do rfl rfl (Do_move (v := .int .i64 g225) rfl) ?_
      refine RL_do rfl rfl (Do_assign (v := .int .i64 g225) rfl) ?_
      refine (RL_nil (thenQ_n (hK259 _ _ ?_)))
      refine WP_seq_k fun K260 hK260 => ?_
      refine WP_region ?_
      refine RL_do rfl rfl (Do_move (v := .func (.func 50) #[] [.pointer (some ⟨b3, 0, none⟩)].toArray) rfl) ?_
      refine RL_do rfl rfl (Do_move (v := v1) rfl) ?_
      refine RL_do rfl rfl (Do_move (v := .int .i64 g225) rfl) ?_
      obtain ⟨x261, e262, hF⟩ := bindO_some hF
      obtain ⟨b263, o264, c265, cs266, q267, h270, h268, h269, h271⟩ := rd_at (H.item (i := 1) rfl) e262
      obtain rfl := rGrain_open h270
      have H := H.fz (.at b263 (o264 + g225.toNat * 2) _) ⟨h268, h269, h271⟩
      refine RL_do rfl rfl (Do_idx u48 sz82 q267 rfl (at_some e262).1 (at_some e262).2.1 rfl rfl) ?_
      refine RL_do rfl rfl (Do_as (Do_loads (cs := [.string (bs x261.Track), .int .i64 x261.N]) agg82 rfl sz82 rfl (H.item (i := 2) rfl).2.2) rfl) ?_
      obtain ⟨x273, e274, hF⟩ := bindO_some hF
      refine RL_call rfl rfl (DoC_clo en50 rfl rfl) (F_fleet_CheckMask_1_w x261 p1c0 b3 _ e274 _ _ _ (H.enter [0] [] (by decide) rfl)) ?_
      rintro _ w275 ⟨rfl, G276⟩
      have H : Hd O _ w275 _ [.fz (.sl rGrain v1 p0), .fz (.at b263 (o264 + g225.toNat * 2) [.string (bs x261.Track), .int .i64 x261.N]), .blk b3 [.string (bs p1c0.Track), .int .i64 p1c0.N] 82] := H.back [0] [] rfl G276
      refine ⟨_, rfl, ?_⟩
      refine (RL_nil (thenQ_n (hK260 _ _ ?_)))
      refine WP_ifb (b := x273) rfl (fun c277 => ?_) (fun c277 => ?_)
      · have hF := iteB_t c277 hF
        refine WP_seq_k fun K278 hK278 => ?_
        refine WP_region ?_
        refine RL_do rfl rfl (Do_move (v := .int .i64 g225) rfl) ?_
        refine RL_do rfl rfl (Do_assign (v := .int .i64 g225) rfl) ?_
        refine (RL_nil (thenQ_n (hK278 _ _ ?_)))
        have hR := Option.some.inj hF
        subst hR
        refine (WP_ret (blockQ_r (thenQ_r (thenQ_r (blockQ_r (thenQ_r (post1 (v1 := .int .i64 g225) rfl rfl ?_)))))))
        exact ⟨rfl, H.pick [2] (by decide)⟩
      · have hF := iteB_f c277 hF
        refine (WP_skip (blockQ_n (thenQ_n (hK258 _ _ ?_))))
        refine WP_region ?_
        obtain ⟨x279, e280, hF⟩ := letO_some hF
        refine RL_do rfl rfl (Do_add (a := g225) (b := 1) rfl rfl e280) ?_
        refine RL_do rfl rfl (Do_move (v := .int .i64 x279) rfl) ?_
        refine (RL_nil (thenQ_n (And.intro ?_ ?_)))
        · repeat' (first | with_reducible exact Fr_refl | refine Fr_upd rfl ?_ | refine Fr_over rfl rfl ?_)
        · exact ⟨(n231, x279), (Sl_cons rfl Sl_nil), ⟨H.pick [2, 0] (by decide), hF⟩, Nat.lt_succ_self _⟩
    · have hF := iteB_f c237 hF
      refine (WP_exit (thenQ_x (thenQ_x (blockQ_eq (thenQ_n (And.intro ?_ ?_))))))
      · repeat' (first | with_reducible exact Fr_refl | refine Fr_upd rfl ?_ | refine Fr_over rfl rfl ?_)
      · exact ⟨(), Sl_nil, ⟨H.pick [0] (by decide), hF⟩⟩
  · rintro _ ρ w117 ⟨H, hF⟩
    have hF := join_body ek119 hF
    refine WP_seq_k fun K281 hK281 => ?_
    refine WP_region ?_
    refine RL_do rfl rfl (Do_assign (v := .int .i64 (-1)) rfl) ?_
    refine (RL_nil (thenQ_n (hK281 _ _ ?_)))
    have hR := Option.some.inj hF
    subst hR
    refine (WP_ret (post1 (v1 := .int .i64 (-1)) rfl rfl ?_))
    exact ⟨rfl, H.pick [0] (by decide)⟩
end Go.Proofs.YtbjhondbheijiaaDoor.L
namespace Go.Proofs.YtbjhondbheijiaaDoor.L
open Go.RowKit Go.OB Go.Lf
/- slices.ContainsFunc[[]orangebox/api.Grain,orangebox/api.Grain]@orangebox/fleet.CheckMask$1 -/
set_option maxHeartbeats 4000000 in
theorem F_slices_ContainsFunc___api_Grain_api_Grain__fleet_CheckMask_1_w (p0 : List Grain) (p1c0 : Grain) (v1 : Value) (b3 : Nat) (r : Bool) (hF : F_slices_ContainsFunc___api_Grain_api_Grain__fleet_CheckMask_1 p0 p1c0 = some r) (O S : List Nat) (w : World) (H : Hd O w w S [.blk b3 [.string (bs p1c0.Track), .int .i64 p1c0.N] 82, .fz (.sl rGrain v1 p0)]) :
    Calls Tryd.prog 49 ([v1, .func (.func 50) #[] [.pointer (some ⟨b3, 0, none⟩)].toArray] : List Value).toArray w fun e w' => e = .returned (.bool r) ∧ Hd O w w' S [.blk b3 [.string (bs p1c0.Track), .int .i64 p1c0.N] 82] := by
  unfold F_slices_ContainsFunc___api_Grain_api_Grain__fleet_CheckMask_1 at hF
  refine calls_of_WP 9 Tryd.func49 rfl rfl rfl ?_
  refine WP_seq_k fun K5 hK5 => ?_
  refine WP_region ?_
  refine RL_do rfl rfl (Do_assign (v := .bool false) rfl) ?_
  refine (RL_nil (thenQ_n (hK5 _ _ ?_)))
  refine WP_seq_k fun K6 hK6 => ?_
  refine WP_region ?_
  refine RL_do rfl rfl (Do_move (v := v1) rfl) ?_
  refine RL_do rfl rfl (Do_move (v := .func (.func 50) #[] [.pointer (some ⟨b3, 0, none⟩)].toArray) rfl) ?_
  obtain ⟨x7, e8, hF⟩ := bindO_some hF
  refine RL_call rfl rfl (DoC_func en71 rfl) (F_slices_IndexFunc___api_Grain_api_Grain__fleet_CheckMask_1_w p0 p1c0 v1 b3 _ e8 _ _ _ (H.enter [0] [1] (by decide) rfl)) ?_
  rintro _ w9 ⟨rfl, G10⟩
  have H : Hd O _ w9 _ [.fz (.sl rGrain v1 p0), .blk b3 [.string (bs p1c0.Track), .int .i64 p1c0.N] 82] := H.back [0] [1] rfl G10
  refine ⟨_, rfl, ?_⟩
  obtain ⟨x11, e12, hF⟩ := letO_some hF
  refine RL_do rfl rfl (Do_as (Do_geq (a := x7) (b := 0) rfl rfl) (congrArg Value.bool e12)) ?_
  refine RL_do rfl rfl (Do_assign (v := .bool x11) rfl) ?_
  refine (RL_nil (thenQ_n (hK6 _ _ ?_)))
  have hR := Option.some.inj hF
  subst hR
  refine (WP_ret (post1 (v1 := .bool x11) rfl rfl ?_))
  exact ⟨rfl, H.pick [1] (by decide)⟩
end Go.Proofs.YtbjhondbheijiaaDoor.L
namespace Go.Proofs.YtbjhondbheijiaaDoor.L
open Go.RowKit Go.OB Go.Lf
/- orangebox/fleet.CheckMask -/
set_option maxHeartbeats 4000000 in
theorem F_fleet_CheckMask_w (p0 : Mask) (v1 : Value) (v2 : Value) (r : Int) (hF : F_fleet_CheckMask p0 = some r) (O S : List Nat) (w : World) (H : Hd O w w S [.fz (.sl Rp.str v1 p0.Hide), .fz (.sl rGrain v2 p0.Grains)]) :
    Calls Tryd.prog 21 ([.agg [.bool p0.Tails, .int .i64 p0.Days, v1, v2, .int .i64 p0.Least].toArray] : List Value).toArray w fun e w' => e = .returned (.int .i64 r) ∧ Hd O w w' S [] := by
  unfold F_fleet_CheckMask at hF
  refine calls_of_WP 50 Tryd.func21 rfl rfl rfl ?_
  refine WP_seq_k fun K5 hK5 => ?_
  refine WP_region ?_
  refine RL_ex rfl rfl (Lx_box (cs := [.bool p0.Tails, .int .i64 p0.Days, v1, v2, .int .i64 p0.Least]) rfl H) ?_
  rintro _ w8 ⟨b6, rfl, H⟩
  refine RL_do rfl rfl (Do_assign (v := .int .i64 0) rfl) ?_
  refine (RL_nil (thenQ_n (hK5 _ _ ?_)))
  refine WP_seq_k fun K19 hK19 => ?_
  refine WP_seq_k fun K20 hK20 => ?_
  refine WP_region ?_
  refine RL_do rfl rfl (fa50_1 rfl) ?_
  refine RL_do rfl rfl (Do_load one3 rfl (Cells.get (Blk.cells (H.item (i := 2) rfl)) (i := 1) rfl)) ?_
  have H21 := H
  obtain ⟨x22, e23, hF⟩ := bindO_some hF
  refine RL_call rfl rfl (DoC_func en28 rfl) (F_fleet_within_w p0.Days 1 1000000 _ e23 _ _ _ (H.enter [] [] (by decide) rfl)) ?_
  rintro _ w24 ⟨rfl, G25⟩
  have H := H21.step (G25.only : Only [] _ _)
  refine ⟨_, rfl, ?_⟩
  obtain ⟨x26, e27, hF⟩ := letO_some hF
  refine RL_do rfl rfl (Do_as (Do_not (p := x22) rfl) (congrArg Value.bool e27)) ?_
  refine (RL_nil (thenQ_n (hK20 _ _ ?_)))
  refine WP_ifb (b := x26) rfl (fun c28 => ?_) (fun c28 => ?_)
  · have hF := iteB_t c28 hF
    refine WP_seq_k fun K29 hK29 => ?_
    refine WP_region ?_
    refine RL_do rfl rfl (Do_assign (v := .int .i64 9) rfl) ?_
    refine (RL_nil (thenQ_n (hK29 _ _ ?_)))
    have hR := Option.some.inj hF
    subst hR
    refine (WP_ret (thenQ_r (post1 (v1 := .int .i64 9) rfl rfl ?_)))
    exact ⟨rfl, H.pick [] (by decide)⟩
  · have hF := iteB_f c28 hF
    refine (WP_skip (thenQ_n (hK19 _ _ ?_)))
    refine WP_seq_k fun K41 hK41 => ?_
    refine WP_seq_k fun K42 hK42 => ?_
    refine WP_region ?_
    refine RL_do rfl rfl (fa50_2 rfl) ?_
    refine RL_do rfl rfl (Do_load one35 rfl (Cells.get (Blk.cells (H.item (i := 2) rfl)) (i := 2) rfl)) ?_
    have H43 := H
    obtain ⟨x44, e45, hF⟩ := bindO_some hF
    refine RL_call rfl rfl (DoC_func en48 rfl) (F_fleet_checkNames_w p0.Hide v1 _ e45 _ _ _ (H.enter [] [0] (by decide) rfl)) ?_
    rintro _ w46 ⟨rfl, G47⟩
    have H := H43.step (G47.only : Only [] _ _)
    refine ⟨_, rfl, ?_⟩
    refine RL_do rfl rfl (Do_assign (v := .int .i64 x44) rfl) ?_
    refine (RL_nil (thenQ_n (hK42 _ _ ?_)))
    refine WP_seq_k fun K48 hK48 => ?_
    refine WP_region ?_
    refine RL_do rfl rfl (Do_move (v := .int .i64 x44) rfl) ?_
    obtain ⟨x49, e50, hF⟩ := letO_some hF
    refine RL_do rfl rfl (Do_as (Do_neq (a := x44) (b := 0) rfl rfl) (congrArg Value.bool e50)) ?_
    refine (RL_nil (thenQ_n (hK48 _ _ ?_)))
    refine WP_ifb (b := x49) rfl (fun c51 => ?_) (fun c51 => ?_)
    · have hF := iteB_t c51 hF
      refine WP_seq_k fun K52 hK52 => ?_
      refine WP_region ?_
      refine RL_do rfl rfl (Do_move (v := .int .i64 x44) rfl) ?_
      refine RL_do rfl rfl (Do_assign (v := .int .i64 x44) rfl) ?_
      refine (RL_nil (thenQ_n (hK52 _ _ ?_)))
      have hR := Option.some.inj hF
      subst hR
      refine (WP_ret (thenQ_r (post1 (v1 := .int .i64 x44) rfl rfl ?_)))
      exact ⟨rfl, H.pick [] (by decide)⟩
    · have hF := iteB_f c51 hF
      refine (WP_skip (thenQ_n (hK41 _ _ ?_)))
      refine WP_seq_k fun K63 hK63 => ?_
      refine WP_seq_k fun K64 hK64 => ?_
      refine WP_region ?_
      refine RL_do rfl rfl (fa50_3 rfl) ?_
      refine RL_do rfl rfl (Do_load one48 rfl (Cells.get (Blk.cells (H.item (i := 2) rfl)) (i := 3) rfl)) ?_
      obtain ⟨x65, e66, hF⟩ := letO_some hF
      obtain ⟨a67, c68, q69⟩ := SlF.len ((H.item (i := 1) rfl))
      refine RL_do rfl rfl (Do_as (Do_len u48 q69) (congrArg (Value.int .i64) e66)) ?_
      obtain ⟨x70, e71, hF⟩ := letO_some hF
      refine RL_do rfl rfl (Do_as (Do_gtr (a := x65) (b := 30) rfl rfl) (congrArg Value.bool e71)) ?_
      refine (RL_nil (thenQ_n (hK64 _ _ ?_)))
      refine WP_ifb (b := x70) rfl (fun c72 => ?_) (fun c72 => ?_)
      · have hF := iteB_t c72 hF
        refine WP_seq_k fun K73 hK73 => ?_
        refine WP_region ?_
        refine RL_do rfl rfl (Do_assign (v := .int .i64 3) rfl) ?_
        refine (RL_nil (thenQ_n (hK73 _ _ ?_)))
        have hR := Option.some.inj hF
        subst hR
        refine (WP_ret (thenQ_r (post1 (v1 := .int .i64 3) rfl rfl ?_)))
        exact ⟨rfl, H.pick [] (by decide)⟩
      · have hF := iteB_f c72 hF
        refine (WP_skip (thenQ_n (hK63 _ _ ?_)))
        obtain ⟨k302, ek303, hF⟩ := joinO_some hF
        refine WP_seqS [2, 4, 5, 20, 21, 22, 23, 24, 25, 26, 27, 28, 29, 30, 31, 32, 33, 34, 35, 36, 37, 38, 39, 40, 41, 42, 43, 44, 45] (fun (g : Unit) => []) (fun g wl => Hd O w wl S [.blk b6 [.bool p0.Tails, .int .i64 p0.Days, v1, v2, .int .i64 p0.Least] 50, .fz (.sl Rp.str v1 p0.Hide), .fz (.sl rGrain v2 p0.Grains)] ∧ k302 () = some r) ?_ ?_
        · skip
          refine WP_seq_k fun K304 hK304 => ?_
          refine WP_region ?_
          refine RL_do rfl rfl (fa50_3 rfl) ?_
          refine RL_do rfl rfl (Do_load one48 rfl (Cells.get (Blk.cells (H.item (i := 2) rfl)) (i := 3) rfl)) ?_
          obtain ⟨x305, e306, hF⟩ := letO_some hF
          obtain ⟨a307, c308, q309⟩ := SlF.len ((H.item (i := 1) rfl))
          refine RL_do rfl rfl (Do_as (Do_len u48 q309) (congrArg (Value.int .i64) e306)) ?_
          refine RL_do rfl rfl (Do_move (v := .int .i64 0) rfl) ?_
          refine (RL_nil (thenQ_n (hK304 _ _ ?_)))
          refine WP_block ?_
          unfold F_fleet_CheckMask_L1 at hF
          obtain ⟨B526, n527, eB528, hF⟩ := loopO_some hF
          refine WP_loopS [2, 4, 5, 23, 24, 25, 26, 27, 28, 29, 30, 31, 32, 33, 34, 35, 36, 37, 38, 39, 40, 41, 42, 43, 44, 45] (fun (g : Nat × Int) => [(23, .int .i64 g.2)]) (fun g wl => Hd O w wl S [.fz (.sl rGrain v2 p0.Grains), .blk b6 [.bool p0.Tails, .int .i64 p0.Days, v1, v2, .int .i64 p0.Least] 50, .fz (.sl Rp.str v1 p0.Hide)] ∧ loopN B526 g.1 g.2 = some r) (fun g => g.1) (n527, 0) (Sl_cons rfl Sl_nil) ⟨H.pick [1, 2, 0] (by decide), hF⟩ ?_
          clear H hF
          rintro ⟨n527, g525⟩ ρ w530 ⟨H, hF⟩
          obtain ⟨n531, rfl, hF⟩ := loopN_pos hF
          have hF := loop_body eB528 hF
          refine WP_seq_k fun K532 hK532 => ?_
          refine WP_region ?_
          obtain ⟨x533, e534, hF⟩ := letO_some hF
          refine RL_do rfl rfl (Do_as (Do_lss (a := g525) (b := x305) rfl rfl) (congrArg Value.bool e534)) ?_
          refine (RL_nil (thenQ_n (hK532 _ _ ?_)))
          refine WP_seq_k fun K536 hK536 => ?_
          refine WP_ifb (b := x533) rfl (fun c537 => ?_) (fun c537 => ?_)
          · have hF := iteB_t c537 hF
            refine (WP_skip (thenQ_n (hK536 _ _ ?_)))
            refine WP_seq_k fun K587 hK587 => ?_
            refine WP_block ?_
            refine WP_seq_k fun K588 hK588 => ?_
            refine WP_region ?_
            refine RL_do rfl rfl (Do_move (v := .int .i64 g525) rfl) ?_
            obtain ⟨x589, e590, hF⟩ := bindO_some hF
            obtain ⟨b591, o592, c593, cs594, q595, h598, h596, h597, h599⟩ := rd_at (H.item (i := 0) rfl) e590
            obtain rfl := rGrain_open h598
            have H := H.fz (.at b591 (o592 + g525.toNat * 2) _) ⟨h596, h597, h599⟩
            refine RL_do rfl rfl (Do_idx u48 sz82 q595 rfl (at_some e590).1 (at_some e590).2.1 rfl rfl) ?_
            refine RL_do rfl rfl (Do_as (Do_loads (cs := [.string (bs x589.Track), .int .i64 x589.N]) agg82 rfl sz82 rfl (H.item (i := 3) rfl).2.2) rfl) ?_
            refine RL_ex rfl rfl (Lx_alloc zero82 H) ?_
            rintro _ w603 ⟨b601, rfl, H⟩
            refine RL_do rfl rfl (Do_assign (v := .int .i64 g525) rfl) ?_
            refine RL_exU rfl (Lx_storeN (vs := [.string (bs x589.Track), .int .i64 x589.N]) H 4 rfl sz82 rfl rfl rfl ⟨rfl, rfl, trivial⟩ rfl) ?_
            rintro w604 H
            refine (RL_nil (thenQ_n (hK588 _ _ ?_)))
            refine WP_block ?_
            refine WP_seq_k fun K605 hK605 => ?_
            refine WP_region ?_
            refine RL_do rfl rfl (fa82_0 rfl) ?_
            refine RL_do rfl rfl (Do_load one9 rfl (Cells.get (Blk.cells (H.item (i := 4) rfl)) (i := 0) rfl)) ?_
            have H606 := H
            obtain ⟨x607, e608, hF⟩ := bindO_some hF
            refine RL_call rfl rfl (DoC_func en44 rfl) (F_event_IsName_w x589.Track _ e608 _ _ _ (H.enter [] [] (by decide) rfl)) ?_
            rintro _ w609 ⟨rfl, G610⟩
            have H := H606.step (G610.only : Only [] _ _)
            refine ⟨_, rfl, ?_⟩
            obtain ⟨x611, e612, hF⟩ := letO_some hF
            refine RL_do rfl rfl (Do_as (Do_not (p := x607) rfl) (congrArg Value.bool e612)) ?_
            refine RL_do rfl rfl (Do_assign (v := .bool x611) rfl) ?_
            refine (RL_nil (thenQ_n (hK605 _ _ ?_)))
            refine WP_ifb (b := x611) rfl (fun c613 => ?_) (fun c613 => ?_)
            · have hF := iteB_t c613 hF
              refine WP_seq_k fun K614 hK614 => ?_
              refine WP_region ?_
              refine RL_do rfl rfl (Do_assign (v := .int .i64 8) rfl) ?_
              refine (RL_nil (thenQ_n (hK614 _ _ ?_)))
              have hR := Option.some.inj hF
              subst hR
              refine (WP_ret (blockQ_r (blockQ_r (thenQ_r (thenQ_r (blockQ_r (thenQ_r (post1 (v1 := .int .i64 8) rfl rfl ?_))))))))
              exact ⟨rfl, H.pick [] (by decide)⟩
            · have hF := iteB_f c613 hF
              refine WP_seq_k fun K615 hK615 => ?_
              refine WP_region ?_
              refine RL_do rfl rfl (fa50_3 rfl) ?_
              refine RL_do rfl rfl (Do_load one48 rfl (Cells.get (Blk.cells (H.item (i := 1) rfl)) (i := 3) rfl)) ?_
              refine RL_do rfl rfl (Do_move (v := .int .i64 g525) rfl) ?_
              obtain ⟨x616, e617, hF⟩ := bindO_some hF
              refine RL_exP rfl rfl (Lx_slice_h u48 sz82 (H.item (i := 0) rfl) rfl rfl e617) ?_
              rintro v618 h619
              have H := H.fz (.sl rGrain v618 x616) h619
              refine RL_do rfl rfl (Do_makeFunc rfl) ?_
              obtain ⟨x621, e622, hF⟩ := bindO_some hF
              refine RL_call rfl rfl (DoC_func en49 rfl) (F_slices_ContainsFunc___api_Grain_api_Grain__fleet_CheckMask_1_w x616 x589 v618 b601 _ e622 _ _ _ (H.enter [4] [5] (by decide) rfl)) ?_
              rintro _ w623 ⟨rfl, G624⟩
              have H : Hd O _ w623 _ [.fz (.sl rGrain v2 p0.Grains), .blk b6 [.bool p0.Tails, .int .i64 p0.Days, v1, v2, .int .i64 p0.Least] 50, .fz (.sl Rp.str v1 p0.Hide), .fz (.at b591 (o592 + g525.toNat * 2) [.string (bs x589.Track), .int .i64 x589.N]), .fz (.sl rGrain v618 x616), .blk b601 [.string (bs x589.Track), .int .i64 x589.N] 82] := H.back [4] [5] rfl G624
              refine ⟨_, rfl, ?_⟩
              refine RL_do rfl rfl (Do_assign (v := .bool x621) rfl) ?_
              refine (RL_nil (thenQ_n (hK615 _ _ ?_)))
              refine WP_ifb (b := x621) rfl (fun c625 => ?_) (fun c625 => ?_)
              · have hF := iteB_t c625 hF
                refine WP_seq_k fun K626 hK626 => ?_
                refine WP_region ?_
                refine RL_do rfl rfl (Do_assign (v := .int .i64 5) rfl) ?_
                refine (RL_nil (thenQ_n (hK626 _ _ ?_)))
                have hR := Option.some.inj hF
                subst hR
                refine (WP_ret (blockQ_r (blockQ_r (thenQ_r (thenQ_r (blockQ_r (thenQ_r (post1 (v1 := .int .i64 5) rfl rfl ?_))))))))
                exact ⟨rfl, H.pick [] (by decide)⟩
              · have hF := iteB_f c625 hF
                refine WP_seq_k fun K627 hK627 => ?_
                refine WP_region ?_
                refine RL_do rfl rfl (fa82_1 rfl) ?_
                refine RL_do rfl rfl (Do_load one3 rfl (Cells.get (Blk.cells (H.item (i := 5) rfl)) (i := 1) rfl)) ?_
                have H628 := H
                obtain ⟨x629, e630, hF⟩ := bindO_some hF
                refine RL_call rfl rfl (DoC_func en28 rfl) (F_fleet_within_w x589.N 1 1125899906842624 _ e630 _ _ _ (H.enter [] [] (by decide) rfl)) ?_
                rintro _ w631 ⟨rfl, G632⟩
                have H := H628.step (G632.only : Only [] _ _)
                refine ⟨_, rfl, ?_⟩
                obtain ⟨x633, e634, hF⟩ := letO_some hF
                refine RL_do rfl rfl (Do_as (Do_not (p := x629) rfl) (congrArg Value.bool e634)) ?_
                refine RL_do rfl rfl (Do_assign (v := .bool x633) rfl) ?_
                refine (RL_nil (thenQ_n (hK627 _ _ ?_)))
                refine WP_ifb (b := x633) rfl (fun c635 => ?_) (fun c635 => ?_)
                · have hF := iteB_t c635 hF
                  refine WP_seq_k fun K636 hK636 => ?_
                  refine WP_region ?_
                  refine RL_do rfl rfl (Do_assign (v := .int .i64 9) rfl) ?_
                  refine (RL_nil (thenQ_n (hK636 _ _ ?_)))
                  have hR := Option.some.inj hF
                  subst hR
                  refine (WP_ret (blockQ_r (blockQ_r (thenQ_r (thenQ_r (blockQ_r (thenQ_r (post1 (v1 := .int .i64 9) rfl rfl ?_))))))))
                  exact ⟨rfl, H.pick [] (by decide)⟩
                · have hF := iteB_f c635 hF
                  refine (WP_skip (blockQ_n (blockQ_n (thenQ_n (hK587 _ _ ?_)))))
                  refine WP_region ?_
                  obtain ⟨x637, e638, hF⟩ := letO_some hF
                  refine RL_do rfl rfl (Do_add (a := g525) (b := 1) rfl rfl e638) ?_
                  refine RL_do rfl rfl (Do_move (v := .int .i64 x637) rfl) ?_
                  refine (RL_nil (thenQ_n (And.intro ?_ ?_)))
                  · repeat' (first | with_reducible exact Fr_refl | refine Fr_upd rfl ?_ | refine Fr_over rfl rfl ?_)
                  · exact ⟨(n531, x637), (Sl_cons rfl Sl_nil), ⟨H.pick [0, 1, 2] (by decide), hF⟩, Nat.lt_succ_self _⟩
          · have hF := iteB_f c537 hF
            refine (WP_exit (thenQ_x (thenQ_x (blockQ_eq (thenQ_n (And.intro ?_ ?_))))))
            · repeat' (first | with_reducible exact Fr_refl | refine Fr_upd rfl ?_ | refine Fr_over rfl rfl ?_)
            · exact ⟨(), Sl_nil, ⟨H.pick [1, 2, 0] (by decide), hF⟩⟩
        · rintro _ ρ w301 ⟨H, hF⟩
          have hF := join_body ek303 hF
          refine WP_seq_k fun K649 hK649 => ?_
          refine WP_seq_k fun K650 hK650 => ?_
          refine WP_region ?_
          refine RL_do rfl rfl (fa50_4 rfl) ?_
          refine RL_do rfl rfl (Do_load one3 rfl (Cells.get (Blk.cells (H.item (i := 0) rfl)) (i := 4) rfl)) ?_
          have H651 := H
          obtain ⟨x652, e653, hF⟩ := bindO_some hF
          refine RL_call rfl rfl (DoC_func en28 rfl) (F_fleet_within_w p0.Least 1 1000 _ e653 _ _ _ (H.enter [] [] (by decide) rfl)) ?_
          rintro _ w654 ⟨rfl, G655⟩
          have H := H651.step (G655.only : Only [] _ _)
          refine ⟨_, rfl, ?_⟩
          obtain ⟨x656, e657, hF⟩ := letO_some hF
          refine RL_do rfl rfl (Do_as (Do_not (p := x652) rfl) (congrArg Value.bool e657)) ?_
          refine (RL_nil (thenQ_n (hK650 _ _ ?_)))
          refine WP_ifb (b := x656) rfl (fun c658 => ?_) (fun c658 => ?_)
          · have hF := iteB_t c658 hF
            refine WP_seq_k fun K659 hK659 => ?_
            refine WP_region ?_
            refine RL_do rfl rfl (Do_assign (v := .int .i64 9) rfl) ?_
            refine (RL_nil (thenQ_n (hK659 _ _ ?_)))
            have hR := Option.some.inj hF
            subst hR
            refine (WP_ret (thenQ_r (post1 (v1 := .int .i64 9) rfl rfl ?_)))
            exact ⟨rfl, H.pick [] (by decide)⟩
          · have hF := iteB_f c658 hF
            refine (WP_skip (thenQ_n (hK649 _ _ ?_)))
            refine WP_seq_k fun K660 hK660 => ?_
            refine WP_region ?_
            refine RL_do rfl rfl (Do_assign (v := .int .i64 0) rfl) ?_
            refine (RL_nil (thenQ_n (hK660 _ _ ?_)))
            have hR := Option.some.inj hF
            subst hR
            refine (WP_ret (post1 (v1 := .int .i64 0) rfl rfl ?_))
            exact ⟨rfl, H.pick [] (by decide)⟩
end Go.Proofs.YtbjhondbheijiaaDoor.L
namespace Go.Proofs.YtbjhondbheijiaaDoor.L
open Go.RowKit Go.OB Go.Lf
/- slices.Clone[[]orangebox/api.Sample,orangebox/api.Sample] -/
set_option maxHeartbeats 4000000 in
theorem F_slices_Clone___api_Sample_api_Sample__w (p0 : List Sample) (v1 : Value) (r : (List Sample)) (hF : F_slices_Clone___api_Sample_api_Sample_ p0 = some r) (O S : List Nat) (w : World) (H : Hd O w w S [.fz (.sl rSample v1 p0)]) :
    Calls Tryd.prog 61 ([v1] : List Value).toArray w fun e w' => ∃ u3, e = .returned (u3) ∧ Hd O w w' S [.own rSample u3 99 r] := by
  unfold F_slices_Clone___api_Sample_api_Sample_ at hF
  refine calls_of_WP 8 Tryd.func61 rfl rfl rfl ?_
  refine WP_seq_k fun K4 hK4 => ?_
  refine WP_region ?_
  refine RL_do rfl rfl (Do_assign (v := .slice none 0 0) rfl) ?_
  refine (RL_nil (thenQ_n (hK4 _ _ ?_)))
  refine WP_seq_k fun K13 hK13 => ?_
  refine WP_seq_k fun K14 hK14 => ?_
  refine WP_region ?_
  refine RL_do rfl rfl (Do_move (v := v1) rfl) ?_
  obtain ⟨a15, c16, q17, e190⟩ := slf_nilq (H.item (i := 0) rfl)
  obtain ⟨x18, e19, hF⟩ := nilO_some hF e190
  refine RL_do rfl rfl (Do_as (Do_eqlnils u91 q17 rfl) (congrArg Value.bool e19)) ?_
  refine (RL_nil (thenQ_n (hK14 _ _ ?_)))
  refine WP_ifb (b := x18) rfl (fun c20 => ?_) (fun c20 => ?_)
  · have hF := iteB_t c20 hF
    refine WP_seq_k fun K21 hK21 => ?_
    refine WP_region ?_
    refine RL_do rfl rfl (Do_assign (v := .slice none 0 0) rfl) ?_
    refine (RL_nil (thenQ_n (hK21 _ _ ?_)))
    have H := own_nil H rSample 99
    have hR := Option.some.inj hF
    subst hR
    refine (WP_ret (thenQ_r (post1 (v1 := .slice none 0 0) rfl rfl ?_)))
    exact ⟨.slice none 0 0, rfl, H.pick [1] (by decide)⟩
  · have hF := iteB_f c20 hF
    refine (WP_skip (thenQ_n (hK13 _ _ ?_)))
    refine WP_seq_k fun K23 hK23 => ?_
    refine WP_region ?_
    refine RL_ex rfl rfl (Lx_bs0 (r := rSample) u91 el99 H) ?_
    rintro v25 w26 H
    refine RL_do rfl rfl (Do_move (v := v1) rfl) ?_
    obtain ⟨x27, e28, hF⟩ := bindO_some hF
    refine RL_ex rfl rfl (Lx_app H (i := 1) rfl u91 el99 rfl rfl (Sr.of_rd (H.item (i := 0) rfl)) e28) ?_
    rintro v29 w30 H
    refine RL_do rfl rfl (Do_assign (v := v29) rfl) ?_
    refine (RL_nil (thenQ_n (hK23 _ _ ?_)))
    have hR := Option.some.inj hF
    subst hR
    refine (WP_ret (post1 (v1 := v29) rfl rfl ?_))
    exact ⟨v29, rfl, H.pick [1] (by decide)⟩
end Go.Proofs.YtbjhondbheijiaaDoor.L
namespace Go.Proofs.YtbjhondbheijiaaDoor.L
open Go.RowKit Go.OB Go.Lf
/- orangebox/fleet.coarse -/
set_option maxHeartbeats 4000000 in
theorem F_fleet_coarse_w (p0 : Int) (p1 : Int) (r : Int) (hF : F_fleet_coarse p0 p1 = some r) (O S : List Nat) (w : World) (H : Hd O w w S []) :
    Calls Tryd.prog 62 ([.int .i64 p0, .int .i64 p1] : List Value).toArray w fun e w' => e = .returned (.int .i64 r) ∧ Hd O w w' S [] := by
  unfold F_fleet_coarse at hF
  refine calls_of_WP 18 Tryd.func62 rfl rfl rfl ?_
  refine WP_seq_k fun K1 hK1 => ?_
  refine WP_region ?_
  refine RL_do rfl rfl (Do_assign (v := .int .i64 0) rfl) ?_
  refine (RL_nil (thenQ_n (hK1 _ _ ?_)))
  refine WP_seq_k fun K2 hK2 => ?_
  refine WP_region ?_
  refine RL_do rfl rfl (Do_move (v := .int .i64 p0) rfl) ?_
  refine RL_do rfl rfl (Do_move (v := .int .i64 p1) rfl) ?_
  obtain ⟨x3, e4, hF⟩ := bindO_some hF
  refine RL_do rfl rfl (Do_rem' (j := p0) (q := p1) rfl rfl e4) ?_
  refine RL_do rfl rfl (Do_assign (v := .int .i64 x3) rfl) ?_
  refine (RL_nil (thenQ_n (hK2 _ _ ?_)))
  obtain ⟨g11, hF, hK13⟩ := bindO_some hF
  refine WP_seqS [5, 9, 10, 11, 12, 13] (fun (g : Unit) => [(5, .int .i64 g11)]) (fun g wl => Hd O w wl S []) ?_ ?_
  · skip
    refine WP_seq_k fun K14 hK14 => ?_
    refine WP_region ?_
    refine RL_do rfl rfl (Do_move (v := .int .i64 x3) rfl) ?_
    obtain ⟨x15, e16, hF⟩ := letO_some hF
    refine RL_do rfl rfl (Do_as (Do_lss (a := x3) (b := 0) rfl rfl) (congrArg Value.bool e16)) ?_
    refine (RL_nil (thenQ_n (hK14 _ _ ?_)))
    refine WP_ifb (b := x15) rfl (fun c17 => ?_) (fun c17 => ?_)
    · have hF := iteB_t c17 hF
      refine WP_region ?_
      refine RL_do rfl rfl (Do_move (v := .int .i64 x3) rfl) ?_
      refine RL_do rfl rfl (Do_move (v := .int .i64 p1) rfl) ?_
      obtain ⟨x18, e19, hF⟩ := letO_some hF
      refine RL_do rfl rfl (Do_add (a := x3) (b := p1) rfl rfl e19) ?_
      refine RL_do rfl rfl (Do_assign (v := .int .i64 x18) rfl) ?_
      have hR := Option.some.inj hF
      subst hR
      refine (RL_nil (thenQ_n (And.intro ?_ ?_)))
      · repeat' (first | with_reducible exact Fr_refl | refine Fr_upd rfl ?_ | refine Fr_over rfl rfl ?_)
      · exact ⟨(), (Sl_cons rfl Sl_nil), H.pick [] (by decide)⟩
    · have hF := iteB_f c17 hF
      have hR := Option.some.inj hF
      subst hR
      refine (WP_skip (thenQ_n (And.intro ?_ ?_)))
      · repeat' (first | with_reducible exact Fr_refl | refine Fr_upd rfl ?_ | refine Fr_over rfl rfl ?_)
      · exact ⟨(), (Sl_cons rfl Sl_nil), H.pick [] (by decide)⟩
  · rintro _ ρ w12 H
    have hF := hK13
    refine WP_seq_k fun K20 hK20 => ?_
    refine WP_region ?_
    refine RL_do rfl rfl (Do_move (v := .int .i64 p0) rfl) ?_
    refine RL_do rfl rfl (Do_move (v := .int .i64 g11) rfl) ?_
    obtain ⟨x21, e22, hF⟩ := letO_some hF
    refine RL_do rfl rfl (Do_sub (a := p0) (b := g11) rfl rfl e22) ?_
    obtain ⟨x23, e24, hF⟩ := letO_some hF
    refine RL_do rfl rfl (Do_max (j := x21) (q := (-1125899906842624)) rfl rfl e24) ?_
    refine RL_do rfl rfl (Do_assign (v := .int .i64 x23) rfl) ?_
    refine (RL_nil (thenQ_n (hK20 _ _ ?_)))
    have hR := Option.some.inj hF
    subst hR
    refine (WP_ret (post1 (v1 := .int .i64 x23) rfl rfl ?_))
    exact ⟨rfl, H.pick [] (by decide)⟩
end Go.Proofs.YtbjhondbheijiaaDoor.L
