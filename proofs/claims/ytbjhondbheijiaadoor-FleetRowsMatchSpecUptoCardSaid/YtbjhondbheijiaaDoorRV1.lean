/- Walks: what each function computes, for every argument; no condition but those that stand in the statements. -/
import Derived.Test.YtbjhondbheijiaaDoorRV0
namespace Go.Proofs.YtbjhondbheijiaaDoor.L
open Go.RowKit Go.OB Go.Lf
/- orangebox/orangeboxref9.CheckTable -/
set_option maxHeartbeats 4000000 in
theorem F_ref9_CheckTable_w (p0 : List FleetRow) (v1 : Value) (r : Int) (hF : F_ref9_CheckTable p0 = some r) (O S : List Nat) (w : World) (H : Hd O w w S [.fz (.sl rFleetRow v1 p0)]) :
    Calls Tryd.prog 8 ([v1] : List Value).toArray w fun e w' => e = .returned (.int .i64 r) ∧ Hd O w w' S [] := by
  unfold F_ref9_CheckTable at hF
  refine calls_of_WP 75 Tryd.func8 rfl rfl rfl ?_
  refine WP_seq_k fun K3 hK3 => ?_
  refine WP_region ?_
  refine RL_do rfl rfl (Do_assign (v := .int .i64 0) rfl) ?_
  refine (RL_nil (thenQ_n (hK3 _ _ ?_)))
  refine WP_seq_k fun K14 hK14 => ?_
  refine WP_seq_k fun K15 hK15 => ?_
  refine WP_region ?_
  refine RL_do rfl rfl (Do_move (v := v1) rfl) ?_
  obtain ⟨x16, e17, hF⟩ := letO_some hF
  obtain ⟨a18, c19, q20⟩ := SlF.len ((H.item (i := 0) rfl))
  refine RL_do rfl rfl (Do_as (Do_len u22 q20) (congrArg (Value.int .i64) e17)) ?_
  obtain ⟨x21, e22, hF⟩ := letO_some hF
  refine RL_do rfl rfl (Do_as (Do_gtr (a := x16) (b := 300) rfl rfl) (congrArg Value.bool e22)) ?_
  refine (RL_nil (thenQ_n (hK15 _ _ ?_)))
  refine WP_ifb (b := x21) rfl (fun c23 => ?_) (fun c23 => ?_)
  · have hF := iteB_t c23 hF
    refine WP_seq_k fun K24 hK24 => ?_
    refine WP_region ?_
    refine RL_do rfl rfl (Do_assign (v := .int .i64 3) rfl) ?_
    refine (RL_nil (thenQ_n (hK24 _ _ ?_)))
    have hR := Option.some.inj hF
    subst hR
    refine (WP_ret (thenQ_r (post1 (v1 := .int .i64 3) rfl rfl ?_)))
    exact ⟨rfl, H.pick [] (by decide)⟩
  · have hF := iteB_f c23 hF
    refine (WP_skip (thenQ_n (hK14 _ _ ?_)))
    refine WP_seq_k fun K25 hK25 => ?_
    refine WP_region ?_
    refine RL_do rfl rfl (Do_assign (v := .int .i64 (-1)) rfl) ?_
    refine (RL_nil (thenQ_n (hK25 _ _ ?_)))
    obtain ⟨k2546, ek2547, hF⟩ := joinO_some hF
    refine WP_seqS [2, 3, 4, 5, 6, 7, 11, 12, 13, 14, 15, 16, 17, 18, 19, 20, 21, 22, 23, 24, 25, 26, 27, 28, 29, 30, 31, 32, 33, 34, 35, 36, 37, 38, 39, 40, 41, 42, 43, 44, 45, 46, 47, 48, 49, 50, 51, 52, 53, 54, 55, 56, 57, 58, 59, 60, 61, 62, 63, 64, 65, 66, 67, 68, 69, 70, 71, 72, 73, 74] (fun (g : Unit) => []) (fun g wl => Hd O w wl S [] ∧ k2546 () = some r) ?_ ?_
    · skip
      refine WP_seq_k fun K2548 hK2548 => ?_
      refine WP_region ?_
      refine RL_do rfl rfl (Do_assign (v := .int .i64 0) rfl) ?_
      refine (RL_nil (thenQ_n (hK2548 _ _ ?_)))
      refine WP_block ?_
      unfold F_ref9_CheckTable_L1 at hF
      obtain ⟨B5063, n5064, eB5065, hF⟩ := loopO_some hF
      refine WP_loopS [2, 3, 4, 5, 6, 7, 11, 12, 13, 14, 15, 16, 17, 18, 19, 20, 21, 22, 23, 24, 25, 26, 27, 28, 29, 30, 31, 32, 33, 34, 35, 36, 37, 38, 39, 40, 41, 42, 43, 44, 45, 46, 47, 48, 49, 50, 51, 52, 53, 54, 55, 56, 57, 58, 59, 60, 61, 62, 63, 64, 65, 66, 67, 68, 69, 70, 71, 72, 73, 74] (fun (g : Nat × Int × Int) => [(3, .int .i64 g.2.1), (4, .int .i64 g.2.2)]) (fun g wl => Hd O w wl S [.fz (.sl rFleetRow v1 p0)] ∧ loopN B5063 g.1 (g.2.1, g.2.2) = some r) (fun g => g.1) (n5064, (-1), 0) (Sl_cons rfl (Sl_cons rfl Sl_nil)) ⟨H.pick [0] (by decide), hF⟩ ?_
      clear H hF
      rintro ⟨n5064, g5061, g5062⟩ ρ w5067 ⟨H, hF⟩
      obtain ⟨n5068, rfl, hF⟩ := loopN_pos hF
      have hF := loop_body eB5065 hF
      refine WP_seq_k fun K5078 hK5078 => ?_
      refine WP_seq_k fun K5079 hK5079 => ?_
      refine WP_region ?_
      refine RL_do rfl rfl (Do_move (v := .int .i64 g5062) rfl) ?_
      refine RL_do rfl rfl (Do_move (v := v1) rfl) ?_
      obtain ⟨x5080, e5081, hF⟩ := letO_some hF
      obtain ⟨a5082, c5083, q5084⟩ := SlF.len ((H.item (i := 0) rfl))
      refine RL_do rfl rfl (Do_as (Do_len u22 q5084) (congrArg (Value.int .i64) e5081)) ?_
      obtain ⟨x5085, e5086, hF⟩ := letO_some hF
      refine RL_do rfl rfl (Do_as (Do_lss (a := g5062) (b := x5080) rfl rfl) (congrArg Value.bool e5086)) ?_
      refine (RL_nil (thenQ_n (hK5079 _ _ ?_)))
      refine WP_ifb (b := x5085) rfl (fun c5087 => ?_) (fun c5087 => ?_)
      · have hF := iteB_t c5087 hF
        refine (WP_skip (thenQ_n (hK5078 _ _ ?_)))
        obtain ⟨k5705, ek5706, hF⟩ := joinO_some hF
        refine WP_seqS [2, 3, 5, 6, 7, 17, 18, 19, 20, 21, 22, 23, 24, 25, 26, 27, 28, 29, 30, 31, 32, 33, 34, 35, 36, 37, 38, 39, 40, 41, 42, 43, 44, 45, 46, 47, 48, 49, 50, 51, 52, 53, 54, 55, 56, 57, 58, 59, 60, 61, 62, 63, 64, 65, 66, 67, 68, 69, 70, 71, 72, 73, 74] (fun (g : Int) => [(3, .int .i64 g)]) (fun g wl => Hd O w wl S [.fz (.sl rFleetRow v1 p0)] ∧ k5705 g = some r) ?_ ?_
        · skip
          refine WP_block ?_
          refine WP_seq_k fun K5707 hK5707 => ?_
          refine WP_region ?_
          refine RL_do rfl rfl (Do_move (v := v1) rfl) ?_
          refine RL_do rfl rfl (Do_move (v := .int .i64 g5062) rfl) ?_
          obtain ⟨x5708, e5709, hF⟩ := bindO_some hF
          obtain ⟨b5710, o5711, c5712, cs5713, q5714, h5717, h5715, h5716, h5718⟩ := rd_at (H.item (i := 0) rfl) e5709
          obtain ⟨v5719, rfl, h5720⟩ := rFleetRow_open h5717
          have H := H.fzs [.at b5710 (o5711 + g5062.toNat * 4) _, .sl (Rp.int .i64) v5719 x5708.Events] ⟨⟨h5715, h5716, h5718⟩, h5720, trivial⟩
          refine RL_do rfl rfl (Do_idx u22 sz25 q5714 rfl (at_some e5709).1 (at_some e5709).2.1 rfl rfl) ?_
          refine RL_do rfl rfl (Do_as (Do_loads (cs := [.string (bs x5708.Key), .bool x5708.Hidden, .int .i64 x5708.Flights, v5719]) agg25 rfl sz25 rfl (H.item (i := 1) rfl).2.2) rfl) ?_
          refine RL_ex rfl rfl (Lx_alloc zero25 H) ?_
          rintro _ w5725 ⟨b5723, rfl, H⟩
          refine RL_exU rfl (Lx_storeN (vs := [.string (bs x5708.Key), .bool x5708.Hidden, .int .i64 x5708.Flights, v5719]) H 3 rfl sz25 rfl rfl rfl ⟨rfl, rfl, rfl, (slf_one (H.item (i := 2) rfl)), trivial⟩ rfl) ?_
          rintro w5726 H
          refine (RL_nil (thenQ_n (hK5707 _ _ ?_)))
          obtain ⟨k5852, ek5853, hF⟩ := joinO_some hF
          refine WP_seqS [2, 6, 21, 22, 23, 24, 25, 26, 27, 28, 29, 30, 31, 32, 33] (fun (g : Unit) => []) (fun g wl => Hd O w wl S [.fz (.sl rFleetRow v1 p0), .blk b5723 [.string (bs x5708.Key), .bool x5708.Hidden, .int .i64 x5708.Flights, v5719] 25, .fz (.sl (Rp.int .i64) v5719 x5708.Events)] ∧ k5852 () = some r) ?_ ?_
          · skip
            refine WP_seq_k fun K5854 hK5854 => ?_
            refine WP_region ?_
            refine RL_do rfl rfl (Do_assign (v := .int .i64 0) rfl) ?_
            refine (RL_nil (thenQ_n (hK5854 _ _ ?_)))
            refine WP_block ?_
            unfold F_ref9_CheckTable_L2 at hF
            obtain ⟨B5973, n5974, eB5975, hF⟩ := loopO_some hF
            refine WP_loopS [2, 6, 21, 22, 23, 24, 25, 26, 27, 28, 29, 30, 31, 32, 33] (fun (g : Nat × Int) => [(6, .int .i64 g.2)]) (fun g wl => Hd O w wl S [.fz (.sl rFleetRow v1 p0), .blk b5723 [.string (bs x5708.Key), .bool x5708.Hidden, .int .i64 x5708.Flights, v5719] 25, .fz (.sl (Rp.int .i64) v5719 x5708.Events)] ∧ loopN B5973 g.1 g.2 = some r) (fun g => g.1) (n5974, 0) (Sl_cons rfl Sl_nil) ⟨H.pick [0, 3, 2] (by decide), hF⟩ ?_
            clear H hF
            rintro ⟨n5974, g5972⟩ ρ w5977 ⟨H, hF⟩
            obtain ⟨n5978, rfl, hF⟩ := loopN_pos hF
            have hF := loop_body eB5975 hF
            refine WP_seq_k fun K5983 hK5983 => ?_
            refine WP_seq_k fun K5984 hK5984 => ?_
            refine WP_region ?_
            refine RL_do rfl rfl (Do_move (v := .int .i64 g5972) rfl) ?_
            refine RL_do rfl rfl (Do_move (v := .int .i64 g5062) rfl) ?_
            obtain ⟨x5985, e5986, hF⟩ := letO_some hF
            refine RL_do rfl rfl (Do_as (Do_lss (a := g5972) (b := g5062) rfl rfl) (congrArg Value.bool e5986)) ?_
            refine (RL_nil (thenQ_n (hK5984 _ _ ?_)))
            refine WP_ifb (b := x5985) rfl (fun c5987 => ?_) (fun c5987 => ?_)
            · have hF := iteB_t c5987 hF
              refine (WP_skip (thenQ_n (hK5983 _ _ ?_)))
              refine WP_seq_k fun K6011 hK6011 => ?_
              refine WP_block ?_
              refine WP_seq_k fun K6012 hK6012 => ?_
              have H6013 := H
              have H := H.rebase
              have H6014 := H
              refine WP_mix0 H [0, 1, 2, 3, 4, 5, 6, 7] [.pure, .pure, .pure, .pure, .read, .pure, .read, .pure] mixed (by kernel_rfl) (by kernel_rfl) (by kernel_rfl) rfl ?_
              refine Mx.XL_pure rfl rfl rfl (fun w' hw' => Do_move (v := v1) rfl) ?_
              refine Mx.XL_pure rfl rfl rfl (fun w' hw' => Do_move (v := .int .i64 g5972) rfl) ?_
              obtain ⟨x6015, e6016, hF⟩ := bindO_some hF
              obtain ⟨b6017, o6018, c6019, cs6020, q6021, h6024, h6022, h6023, h6025⟩ := rd_at (H.item (i := 0) rfl) e6016
              obtain ⟨v6026, rfl, h6027⟩ := rFleetRow_open h6024
              have H := H.fzs [.at b6017 (o6018 + g5972.toNat * 4) _, .sl (Rp.int .i64) v6026 x6015.Events] ⟨⟨h6022, h6023, h6025⟩, h6027, trivial⟩
              refine Mx.XL_pure rfl rfl rfl (fun w' hw' => Do_idx u22 sz25 q6021 rfl (at_some e6016).1 (at_some e6016).2.1 rfl rfl) ?_
              refine Mx.XL_pure rfl rfl rfl (fun w' hw' => fa25_0 rfl) ?_
              refine Mx.XL_read oS rfl rfl rfl (fun w' hw' => Do_load one9 rfl (Cells.get ((H.sees hw').item (i := 3) rfl).2.2 (i := 0) rfl)) ?_
              refine Mx.XL_pure rfl rfl rfl (fun w' hw' => fa25_0 rfl) ?_
              refine Mx.XL_read oS rfl rfl rfl (fun w' hw' => Do_load one9 rfl (Cells.get (Blk.cells ((H.sees hw').item (i := 1) rfl)) (i := 0) rfl)) ?_
              obtain ⟨x6030, e6031, hF⟩ := letO_some hF
              refine Mx.XL_pure rfl rfl rfl (fun w' hw' => Do_as (Do_eqls (s1 := x6015.Key) (s2 := x5708.Key) rfl rfl) (congrArg Value.bool e6031)) ?_
              refine Mx.XL_nil fun w6032 hS => ?_
              have H := H.sees hS
              have H := H6013.rejoin H
              refine (thenQ_n (hK6012 _ _ ?_))
              refine WP_ifb (b := x6030) rfl (fun c6033 => ?_) (fun c6033 => ?_)
              · have hF := iteB_t c6033 hF
                refine WP_seq_k fun K6034 hK6034 => ?_
                refine WP_region ?_
                refine RL_do rfl rfl (Do_assign (v := .int .i64 5) rfl) ?_
                refine (RL_nil (thenQ_n (hK6034 _ _ ?_)))
                have hR := Option.some.inj hF
                subst hR
                refine (WP_ret (blockQ_r (thenQ_r (thenQ_r (blockQ_r (thenQ_r (blockQ_r (thenQ_r (thenQ_r (blockQ_r (thenQ_r (post1 (v1 := .int .i64 5) rfl rfl ?_))))))))))))
                exact ⟨rfl, H.pick [] (by decide)⟩
              · have hF := iteB_f c6033 hF
                refine (WP_skip (blockQ_n (thenQ_n (hK6011 _ _ ?_))))
                refine WP_region ?_
                refine RL_do rfl rfl (Do_move (v := .int .i64 g5972) rfl) ?_
                obtain ⟨x6035, e6036, hF⟩ := letO_some hF
                refine RL_do rfl rfl (Do_add (a := g5972) (b := 1) rfl rfl e6036) ?_
                refine RL_do rfl rfl (Do_assign (v := .int .i64 x6035) rfl) ?_
                refine (RL_nil (thenQ_n (And.intro ?_ ?_)))
                · repeat' (first | with_reducible exact Fr_refl | refine Fr_upd rfl ?_ | refine Fr_over rfl rfl ?_)
                · exact ⟨(n5978, x6035), (Sl_cons rfl Sl_nil), ⟨H.pick [0, 1, 2] (by decide), hF⟩, Nat.lt_succ_self _⟩
            · have hF := iteB_f c5987 hF
              refine (WP_exit (thenQ_x (thenQ_x (blockQ_eq (thenQ_n (And.intro ?_ ?_))))))
              · repeat' (first | with_reducible exact Fr_refl | refine Fr_upd rfl ?_ | refine Fr_over rfl rfl ?_)
              · exact ⟨(), Sl_nil, ⟨H.pick [0, 1, 2] (by decide), hF⟩⟩
          · rintro _ ρ w5851 ⟨H, hF⟩
            have hF := join_body ek5853 hF
            refine WP_seq_k fun K6053 hK6053 => ?_
            obtain ⟨g6065, hF, hK6067⟩ := bindO_some hF
            refine WP_seqS [34, 35, 36, 37, 38, 39, 40, 41, 42, 43, 44, 45, 46] (fun (g : Unit) => [(46, .bool g6065)]) (fun g wl => Hd O w wl S [.fz (.sl rFleetRow v1 p0), .blk b5723 [.string (bs x5708.Key), .bool x5708.Hidden, .int .i64 x5708.Flights, v5719] 25, .fz (.sl (Rp.int .i64) v5719 x5708.Events)]) ?_ ?_
            · skip
              refine WP_region ?_
              refine RL_do rfl rfl (fa25_1 rfl) ?_
              refine RL_do rfl rfl (Do_load one4 rfl (Cells.get (Blk.cells (H.item (i := 1) rfl)) (i := 1) rfl)) ?_
              refine RL_splitb (b := x5708.Hidden) rfl rfl rfl (fun c6068 => ?_) (fun c6068 => ?_)
              · have hF := iteB_t c6068 hF
                refine RL_do rfl rfl (fa25_2 rfl) ?_
                refine RL_do rfl rfl (Do_load one3 rfl (Cells.get (Blk.cells (H.item (i := 1) rfl)) (i := 2) rfl)) ?_
                obtain ⟨x6069, e6070, hF⟩ := letO_some hF
                refine RL_do rfl rfl (Do_as (Do_neq (a := x5708.Flights) (b := 0) rfl rfl) (congrArg Value.bool e6070)) ?_
                refine RL_splitb (b := x6069) rfl rfl rfl (fun c6071 => ?_) (fun c6071 => ?_)
                · have hF := iteB_t c6071 hF
                  refine RL_off rfl rfl ?_
                  refine RL_off rfl rfl ?_
                  refine RL_off rfl rfl ?_
                  refine RL_off rfl rfl ?_
                  refine RL_do rfl rfl (Do_pick_t (v := .bool true) rfl rfl) ?_
                  refine RL_do rfl rfl (Do_pick_t (v := .bool true) rfl rfl) ?_
                  have hR := Option.some.inj hF
                  subst hR
                  refine (RL_nil (thenQ_n (And.intro ?_ ?_)))
                  · repeat' (first | with_reducible exact Fr_refl | refine Fr_upd rfl ?_ | refine Fr_over rfl rfl ?_)
                  · exact ⟨(), (Sl_cons rfl Sl_nil), H.pick [0, 1, 2] (by decide)⟩
                · have hF := iteB_f c6071 hF
                  refine RL_do rfl rfl (fa25_3 rfl) ?_
                  refine RL_do rfl rfl (Do_load one23 rfl (Cells.get (Blk.cells (H.item (i := 1) rfl)) (i := 3) rfl)) ?_
                  obtain ⟨x6072, e6073, hF⟩ := letO_some hF
                  obtain ⟨a6074, c6075, q6076⟩ := SlF.len ((H.item (i := 2) rfl))
                  refine RL_do rfl rfl (Do_as (Do_len u23 q6076) (congrArg (Value.int .i64) e6073)) ?_
                  obtain ⟨x6077, e6078, hF⟩ := letO_some hF
                  refine RL_do rfl rfl (Do_as (Do_gtr (a := x6072) (b := 0) rfl rfl) (congrArg Value.bool e6078)) ?_
                  refine RL_do rfl rfl (Do_pick_f (v := .bool x6077) rfl rfl) ?_
                  refine RL_do rfl rfl (Do_pick_t (v := .bool x6077) rfl rfl) ?_
                  have hR := Option.some.inj hF
                  subst hR
                  refine (RL_nil (thenQ_n (And.intro ?_ ?_)))
                  · repeat' (first | with_reducible exact Fr_refl | refine Fr_upd rfl ?_ | refine Fr_over rfl rfl ?_)
                  · exact ⟨(), (Sl_cons rfl Sl_nil), H.pick [0, 1, 2] (by decide)⟩
              · have hF := iteB_f c6068 hF
                refine RL_off rfl rfl ?_
                refine RL_off rfl rfl ?_
                refine RL_off rfl rfl ?_
                refine RL_off rfl rfl ?_
                refine RL_off rfl rfl ?_
                refine RL_off rfl rfl ?_
                refine RL_off rfl rfl ?_
                refine RL_off rfl rfl ?_
                refine RL_off rfl rfl ?_
                refine RL_do rfl rfl (Do_pick_f (v := .bool false) rfl rfl) ?_
                have hR := Option.some.inj hF
                subst hR
                refine (RL_nil (thenQ_n (And.intro ?_ ?_)))
                · repeat' (first | with_reducible exact Fr_refl | refine Fr_upd rfl ?_ | refine Fr_over rfl rfl ?_)
                · exact ⟨(), (Sl_cons rfl Sl_nil), H.pick [0, 1, 2] (by decide)⟩
            · rintro _ ρ w6066 H
              have hF := hK6067
              refine WP_ifb (b := g6065) rfl (fun c6079 => ?_) (fun c6079 => ?_)
              · have hF := iteB_t c6079 hF
                refine WP_seq_k fun K6080 hK6080 => ?_
                refine WP_region ?_
                refine RL_do rfl rfl (Do_assign (v := .int .i64 2) rfl) ?_
                refine (RL_nil (thenQ_n (hK6080 _ _ ?_)))
                have hR := Option.some.inj hF
                subst hR
                refine (WP_ret (thenQ_r (blockQ_r (thenQ_r (thenQ_r (blockQ_r (thenQ_r (post1 (v1 := .int .i64 2) rfl rfl ?_))))))))
                exact ⟨rfl, H.pick [] (by decide)⟩
              · have hF := iteB_f c6079 hF
                refine (WP_skip (thenQ_n (hK6053 _ _ ?_)))
                refine WP_seq_k fun K6089 hK6089 => ?_
                refine WP_seq_k fun K6090 hK6090 => ?_
                refine WP_region ?_
                refine RL_do rfl rfl (fa25_2 rfl) ?_
                refine RL_do rfl rfl (Do_load one3 rfl (Cells.get (Blk.cells (H.item (i := 1) rfl)) (i := 2) rfl)) ?_
                have H6091 := H
                obtain ⟨x6092, e6093, hF⟩ := bindO_some hF
                refine RL_call rfl rfl (DoC_func en32 rfl) (F_ref9_outside_w x5708.Flights 0 1000000000 _ e6093 _ _ _ (H.enter [] [] (by decide) rfl)) ?_
                rintro _ w6094 ⟨rfl, G6095⟩
                have H := H6091.step (G6095.only : Only [] _ _)
                refine ⟨_, rfl, ?_⟩
                refine (RL_nil (thenQ_n (hK6090 _ _ ?_)))
                refine WP_ifb (b := x6092) rfl (fun c6096 => ?_) (fun c6096 => ?_)
                · have hF := iteB_t c6096 hF
                  refine WP_seq_k fun K6097 hK6097 => ?_
                  refine WP_region ?_
                  refine RL_do rfl rfl (Do_assign (v := .int .i64 9) rfl) ?_
                  refine (RL_nil (thenQ_n (hK6097 _ _ ?_)))
                  have hR := Option.some.inj hF
                  subst hR
                  refine (WP_ret (thenQ_r (blockQ_r (thenQ_r (thenQ_r (blockQ_r (thenQ_r (post1 (v1 := .int .i64 9) rfl rfl ?_))))))))
                  exact ⟨rfl, H.pick [] (by decide)⟩
                · have hF := iteB_f c6096 hF
                  refine (WP_skip (thenQ_n (hK6089 _ _ ?_)))
                  obtain ⟨k6231, ek6232, hF⟩ := joinO_some hF
                  refine WP_seqS [2, 7, 50, 51, 52, 53, 54, 55, 56, 57, 58, 59, 60, 61, 62] (fun (g : Unit) => []) (fun g wl => Hd O w wl S [.fz (.sl rFleetRow v1 p0), .blk b5723 [.string (bs x5708.Key), .bool x5708.Hidden, .int .i64 x5708.Flights, v5719] 25, .fz (.sl (Rp.int .i64) v5719 x5708.Events)] ∧ k6231 () = some r) ?_ ?_
                  · skip
                    refine WP_seq_k fun K6233 hK6233 => ?_
                    refine WP_region ?_
                    refine RL_do rfl rfl (Do_assign (v := .int .i64 0) rfl) ?_
                    refine (RL_nil (thenQ_n (hK6233 _ _ ?_)))
                    refine WP_block ?_
                    unfold F_ref9_CheckTable_L3 at hF
                    obtain ⟨B6360, n6361, eB6362, hF⟩ := loopO_some hF
                    refine WP_loopS [2, 7, 50, 51, 52, 53, 54, 55, 56, 57, 58, 59, 60, 61, 62] (fun (g : Nat × Int) => [(7, .int .i64 g.2)]) (fun g wl => Hd O w wl S [.fz (.sl rFleetRow v1 p0), .blk b5723 [.string (bs x5708.Key), .bool x5708.Hidden, .int .i64 x5708.Flights, v5719] 25, .fz (.sl (Rp.int .i64) v5719 x5708.Events)] ∧ loopN B6360 g.1 g.2 = some r) (fun g => g.1) (n6361, 0) (Sl_cons rfl Sl_nil) ⟨H.pick [0, 1, 2] (by decide), hF⟩ ?_
                    clear H hF
                    rintro ⟨n6361, g6359⟩ ρ w6364 ⟨H, hF⟩
                    obtain ⟨n6365, rfl, hF⟩ := loopN_pos hF
                    have hF := loop_body eB6362 hF
                    refine WP_seq_k fun K6375 hK6375 => ?_
                    refine WP_seq_k fun K6376 hK6376 => ?_
                    refine WP_region ?_
                    refine RL_do rfl rfl (Do_move (v := .int .i64 g6359) rfl) ?_
                    refine RL_do rfl rfl (fa25_3 rfl) ?_
                    refine RL_do rfl rfl (Do_load one23 rfl (Cells.get (Blk.cells (H.item (i := 1) rfl)) (i := 3) rfl)) ?_
                    obtain ⟨x6377, e6378, hF⟩ := letO_some hF
                    obtain ⟨a6379, c6380, q6381⟩ := SlF.len ((H.item (i := 2) rfl))
                    refine RL_do rfl rfl (Do_as (Do_len u23 q6381) (congrArg (Value.int .i64) e6378)) ?_
                    obtain ⟨x6382, e6383, hF⟩ := letO_some hF
                    refine RL_do rfl rfl (Do_as (Do_lss (a := g6359) (b := x6377) rfl rfl) (congrArg Value.bool e6383)) ?_
                    refine (RL_nil (thenQ_n (hK6376 _ _ ?_)))
                    refine WP_ifb (b := x6382) rfl (fun c6384 => ?_) (fun c6384 => ?_)
                    · have hF := iteB_t c6384 hF
                      refine (WP_skip (thenQ_n (hK6375 _ _ ?_)))
                      refine WP_seq_k fun K6405 hK6405 => ?_
                      refine WP_block ?_
                      refine WP_seq_k fun K6406 hK6406 => ?_
                      refine WP_region ?_
                      refine RL_do rfl rfl (fa25_3 rfl) ?_
                      refine RL_do rfl rfl (Do_load one23 rfl (Cells.get (Blk.cells (H.item (i := 1) rfl)) (i := 3) rfl)) ?_
                      refine RL_do rfl rfl (Do_move (v := .int .i64 g6359) rfl) ?_
                      obtain ⟨x6407, e6408, hF⟩ := bindO_some hF
                      obtain ⟨b6409, o6410, c6411, cs6412, q6413, h6416, h6414, h6415, h6417⟩ := rd_at (H.item (i := 2) rfl) e6408
                      obtain rfl : cs6412 = [.int .i64 x6407] := h6416
                      have H := H.fz (.at b6409 (o6410 + g6359.toNat * 1) _) ⟨h6414, h6415, h6417⟩
                      refine RL_do rfl rfl (Do_idx u23 sz3 q6413 rfl (at_some e6408).1 (at_some e6408).2.1 rfl rfl) ?_
                      refine RL_do rfl rfl (Do_load one3 rfl (Cells.get (H.item (i := 3) rfl).2.2 (i := 0) rfl)) ?_
                      have H6419 := H
                      obtain ⟨x6420, e6421, hF⟩ := bindO_some hF
                      refine RL_call rfl rfl (DoC_func en32 rfl) (F_ref9_outside_w x6407 0 1000000000 _ e6421 _ _ _ (H.enter [] [] (by decide) rfl)) ?_
                      rintro _ w6422 ⟨rfl, G6423⟩
                      have H := H6419.step (G6423.only : Only [] _ _)
                      refine ⟨_, rfl, ?_⟩
                      refine (RL_nil (thenQ_n (hK6406 _ _ ?_)))
                      refine WP_ifb (b := x6420) rfl (fun c6424 => ?_) (fun c6424 => ?_)
                      · have hF := iteB_t c6424 hF
                        refine WP_seq_k fun K6425 hK6425 => ?_
                        refine WP_region ?_
                        refine RL_do rfl rfl (Do_assign (v := .int .i64 9) rfl) ?_
                        refine (RL_nil (thenQ_n (hK6425 _ _ ?_)))
                        have hR := Option.some.inj hF
                        subst hR
                        refine (WP_ret (blockQ_r (thenQ_r (thenQ_r (blockQ_r (thenQ_r (blockQ_r (thenQ_r (thenQ_r (blockQ_r (thenQ_r (post1 (v1 := .int .i64 9) rfl rfl ?_))))))))))))
                        exact ⟨rfl, H.pick [] (by decide)⟩
                      · have hF := iteB_f c6424 hF
                        refine (WP_skip (blockQ_n (thenQ_n (hK6405 _ _ ?_))))
                        refine WP_region ?_
                        refine RL_do rfl rfl (Do_move (v := .int .i64 g6359) rfl) ?_
                        obtain ⟨x6426, e6427, hF⟩ := letO_some hF
                        refine RL_do rfl rfl (Do_add (a := g6359) (b := 1) rfl rfl e6427) ?_
                        refine RL_do rfl rfl (Do_assign (v := .int .i64 x6426) rfl) ?_
                        refine (RL_nil (thenQ_n (And.intro ?_ ?_)))
                        · repeat' (first | with_reducible exact Fr_refl | refine Fr_upd rfl ?_ | refine Fr_over rfl rfl ?_)
                        · exact ⟨(n6365, x6426), (Sl_cons rfl Sl_nil), ⟨H.pick [0, 1, 2] (by decide), hF⟩, Nat.lt_succ_self _⟩
                    · have hF := iteB_f c6384 hF
                      refine (WP_exit (thenQ_x (thenQ_x (blockQ_eq (thenQ_n (And.intro ?_ ?_))))))
                      · repeat' (first | with_reducible exact Fr_refl | refine Fr_upd rfl ?_ | refine Fr_over rfl rfl ?_)
                      · exact ⟨(), Sl_nil, ⟨H.pick [0, 1, 2] (by decide), hF⟩⟩
                  · rintro _ ρ w6230 ⟨H, hF⟩
                    have hF := join_body ek6232 hF
                    refine WP_seq_k fun K6430 hK6430 => ?_
                    refine WP_seq_k fun K6431 hK6431 => ?_
                    refine WP_region ?_
                    refine RL_do rfl rfl (fa25_1 rfl) ?_
                    refine RL_do rfl rfl (Do_load one4 rfl (Cells.get (Blk.cells (H.item (i := 1) rfl)) (i := 1) rfl)) ?_
                    refine (RL_nil (thenQ_n (hK6431 _ _ ?_)))
                    refine WP_ifb (b := x5708.Hidden) rfl (fun c6432 => ?_) (fun c6432 => ?_)
                    · have hF := iteB_t c6432 hF
                      refine (WP_exit (thenQ_x (blockQ_eq (thenQ_n (And.intro ?_ ?_)))))
                      · repeat' (first | with_reducible exact Fr_refl | refine Fr_upd rfl ?_ | refine Fr_over rfl rfl ?_)
                      · exact ⟨g5061, (Sl_cons rfl Sl_nil), ⟨H.pick [0] (by decide), hF⟩⟩
                    · have hF := iteB_f c6432 hF
                      refine (WP_skip (thenQ_n (hK6430 _ _ ?_)))
                      obtain ⟨g6442, hF, hK6444⟩ := bindO_some hF
                      refine WP_seqS [3, 65, 66, 67, 68, 69] (fun (g : Unit) => [(3, .int .i64 g6442)]) (fun g wl => Hd O w wl S [.fz (.sl rFleetRow v1 p0), .blk b5723 [.string (bs x5708.Key), .bool x5708.Hidden, .int .i64 x5708.Flights, v5719] 25, .fz (.sl (Rp.int .i64) v5719 x5708.Events)]) ?_ ?_
                      · skip
                        refine WP_seq_k fun K6445 hK6445 => ?_
                        refine WP_region ?_
                        refine RL_do rfl rfl (Do_move (v := .int .i64 g5061) rfl) ?_
                        obtain ⟨x6446, e6447, hF⟩ := letO_some hF
                        refine RL_do rfl rfl (Do_as (Do_lss (a := g5061) (b := 0) rfl rfl) (congrArg Value.bool e6447)) ?_
                        refine (RL_nil (thenQ_n (hK6445 _ _ ?_)))
                        refine WP_ifb (b := x6446) rfl (fun c6448 => ?_) (fun c6448 => ?_)
                        · have hF := iteB_t c6448 hF
                          refine WP_region ?_
                          refine RL_do rfl rfl (fa25_3 rfl) ?_
                          refine RL_do rfl rfl (Do_load one23 rfl (Cells.get (Blk.cells (H.item (i := 1) rfl)) (i := 3) rfl)) ?_
                          obtain ⟨x6449, e6450, hF⟩ := letO_some hF
                          obtain ⟨a6451, c6452, q6453⟩ := SlF.len ((H.item (i := 2) rfl))
                          refine RL_do rfl rfl (Do_as (Do_len u23 q6453) (congrArg (Value.int .i64) e6450)) ?_
                          refine RL_do rfl rfl (Do_assign (v := .int .i64 x6449) rfl) ?_
                          have hR := Option.some.inj hF
                          subst hR
                          refine (RL_nil (thenQ_n (And.intro ?_ ?_)))
                          · repeat' (first | with_reducible exact Fr_refl | refine Fr_upd rfl ?_ | refine Fr_over rfl rfl ?_)
                          · exact ⟨(), (Sl_cons rfl Sl_nil), H.pick [0, 1, 2] (by decide)⟩
                        · have hF := iteB_f c6448 hF
                          have hR := Option.some.inj hF
                          subst hR
                          refine (WP_skip (thenQ_n (And.intro ?_ ?_)))
                          · repeat' (first | with_reducible exact Fr_refl | refine Fr_upd rfl ?_ | refine Fr_over rfl rfl ?_)
                          · exact ⟨(), (Sl_cons rfl Sl_nil), H.pick [0, 1, 2] (by decide)⟩
                      · rintro _ ρ w6443 H
                        have hF := hK6444
                        refine WP_seq_k fun K6454 hK6454 => ?_
                        refine WP_region ?_
                        refine RL_do rfl rfl (fa25_3 rfl) ?_
                        refine RL_do rfl rfl (Do_load one23 rfl (Cells.get (Blk.cells (H.item (i := 1) rfl)) (i := 3) rfl)) ?_
                        obtain ⟨x6455, e6456, hF⟩ := letO_some hF
                        obtain ⟨a6457, c6458, q6459⟩ := SlF.len ((H.item (i := 2) rfl))
                        refine RL_do rfl rfl (Do_as (Do_len u23 q6459) (congrArg (Value.int .i64) e6456)) ?_
                        refine RL_do rfl rfl (Do_move (v := .int .i64 g6442) rfl) ?_
                        obtain ⟨x6460, e6461, hF⟩ := letO_some hF
                        refine RL_do rfl rfl (Do_as (Do_neq (a := x6455) (b := g6442) rfl rfl) (congrArg Value.bool e6461)) ?_
                        refine (RL_nil (thenQ_n (hK6454 _ _ ?_)))
                        refine WP_ifb (b := x6460) rfl (fun c6462 => ?_) (fun c6462 => ?_)
                        · have hF := iteB_t c6462 hF
                          refine WP_seq_k fun K6463 hK6463 => ?_
                          refine WP_region ?_
                          refine RL_do rfl rfl (Do_assign (v := .int .i64 2) rfl) ?_
                          refine (RL_nil (thenQ_n (hK6463 _ _ ?_)))
                          have hR := Option.some.inj hF
                          subst hR
                          refine (WP_ret (blockQ_r (thenQ_r (thenQ_r (blockQ_r (thenQ_r (post1 (v1 := .int .i64 2) rfl rfl ?_)))))))
                          exact ⟨rfl, H.pick [] (by decide)⟩
                        · have hF := iteB_f c6462 hF
                          refine (WP_skip (blockQ_n (thenQ_n (And.intro ?_ ?_))))
                          · repeat' (first | with_reducible exact Fr_refl | refine Fr_upd rfl ?_ | refine Fr_over rfl rfl ?_)
                          · exact ⟨g6442, (Sl_cons rfl Sl_nil), ⟨H.pick [0] (by decide), hF⟩⟩
        · rintro g5703 ρ w5704 ⟨H, hF⟩
          have hF := join_body ek5706 hF
          refine WP_region ?_
          refine RL_do rfl rfl (Do_move (v := .int .i64 g5062) rfl) ?_
          obtain ⟨x6464, e6465, hF⟩ := letO_some hF
          refine RL_do rfl rfl (Do_add (a := g5062) (b := 1) rfl rfl e6465) ?_
          refine RL_do rfl rfl (Do_assign (v := .int .i64 x6464) rfl) ?_
          refine (RL_nil (thenQ_n (And.intro ?_ ?_)))
          · repeat' (first | with_reducible exact Fr_refl | refine Fr_upd rfl ?_ | refine Fr_over rfl rfl ?_)
          · exact ⟨(n5068, g5703, x6464), (Sl_cons rfl (Sl_cons rfl Sl_nil)), ⟨H.pick [0] (by decide), hF⟩, Nat.lt_succ_self _⟩
      · have hF := iteB_f c5087 hF
        refine (WP_exit (thenQ_x (thenQ_x (blockQ_eq (thenQ_n (And.intro ?_ ?_))))))
        · repeat' (first | with_reducible exact Fr_refl | refine Fr_upd rfl ?_ | refine Fr_over rfl rfl ?_)
        · exact ⟨(), Sl_nil, ⟨H.pick [] (by decide), hF⟩⟩
    · rintro _ ρ w2545 ⟨H, hF⟩
      have hF := join_body ek2547 hF
      refine WP_seq_k fun K6466 hK6466 => ?_
      refine WP_region ?_
      refine RL_do rfl rfl (Do_assign (v := .int .i64 0) rfl) ?_
      refine (RL_nil (thenQ_n (hK6466 _ _ ?_)))
      have hR := Option.some.inj hF
      subst hR
      refine (WP_ret (post1 (v1 := .int .i64 0) rfl rfl ?_))
      exact ⟨rfl, H.pick [] (by decide)⟩
end Go.Proofs.YtbjhondbheijiaaDoor.L
namespace Go.Proofs.YtbjhondbheijiaaDoor.L
open Go.RowKit Go.OB Go.Lf
/- orangebox/orangeboxref9.Total -/
set_option maxHeartbeats 4000000 in
theorem F_ref9_Total_w (p0 : List FleetRow) (v1 : Value) (r : FleetRow × Int) (hF : F_ref9_Total p0 = some r) (O S : List Nat) (w : World) (H : Hd O w w S [.fz (.sl rFleetRow v1 p0)]) :
    Calls Tryd.prog 6 ([v1] : List Value).toArray w fun e w' => ∃ u3, e = .returned (.tuple #[.agg [.string (bs r.1.Key), .bool r.1.Hidden, .int .i64 r.1.Flights, u3].toArray, .int .i64 r.2]) ∧ Hd O w w' S [.fz (.sl (Rp.int .i64) u3 r.1.Events)] := by
  unfold F_ref9_Total at hF
  refine calls_of_WP 74 Tryd.func6 rfl rfl rfl ?_
  refine WP_seq_k fun K4 hK4 => ?_
  refine WP_region ?_
  refine RL_ex rfl rfl (Lx_alloc zero25 H) ?_
  rintro _ w7 ⟨b5, rfl, H⟩
  refine RL_do rfl rfl (Do_assign (v := .int .i64 0) rfl) ?_
  refine (RL_nil (thenQ_n (hK4 _ _ ?_)))
  refine WP_seq_k fun K20 hK20 => ?_
  refine WP_seq_k fun K21 hK21 => ?_
  refine WP_region ?_
  refine RL_do rfl rfl (Do_move (v := v1) rfl) ?_
  have H22 := H
  obtain ⟨x23, e24, hF⟩ := bindO_some hF
  refine RL_call rfl rfl (DoC_func en8 rfl) (F_ref9_CheckTable_w p0 v1 _ e24 _ _ _ (H.enter [] [0] (by decide) rfl)) ?_
  rintro _ w25 ⟨rfl, G26⟩
  have H := H22.step (G26.only : Only [] _ _)
  refine ⟨_, rfl, ?_⟩
  refine RL_do rfl rfl (Do_assign (v := .int .i64 x23) rfl) ?_
  refine (RL_nil (thenQ_n (hK21 _ _ ?_)))
  refine WP_seq_k fun K27 hK27 => ?_
  refine WP_region ?_
  refine RL_do rfl rfl (Do_move (v := .int .i64 x23) rfl) ?_
  obtain ⟨x28, e29, hF⟩ := letO_some hF
  refine RL_do rfl rfl (Do_as (Do_neq (a := x23) (b := 0) rfl rfl) (congrArg Value.bool e29)) ?_
  refine (RL_nil (thenQ_n (hK27 _ _ ?_)))
  refine WP_ifb (b := x28) rfl (fun c30 => ?_) (fun c30 => ?_)
  · have hF := iteB_t c30 hF
    refine WP_seq_k fun K31 hK31 => ?_
    refine WP_region ?_
    refine RL_do rfl rfl (Do_build (cs := [.string (bs []), .bool false, .int .i64 0, .slice none 0 0]) bz25) ?_
    refine RL_do rfl rfl (Do_move (v := .int .i64 x23) rfl) ?_
    refine RL_exU rfl (Lx_storeN (vs := [.string (bs []), .bool false, .int .i64 0, .slice none 0 0]) H 1 rfl sz25 rfl rfl rfl ⟨rfl, rfl, rfl, rfl, trivial⟩ rfl) ?_
    rintro w32 H
    refine RL_do rfl rfl (Do_assign (v := .int .i64 x23) rfl) ?_
    refine (RL_nil (thenQ_n (hK31 _ _ ?_)))
    have H := H.fz (.sl (Rp.int .i64) (.slice none 0 0) []) SlF.nil
    have hR := Option.some.inj hF
    subst hR
    refine (WP_ret (thenQ_r (postc1 (v1 := .int .i64 x23) rfl rfl (run_loadVar_agg agg25 sz25 rfl (Blk.cells (H.item (i := 1) rfl))) rfl ?_)))
    exact ⟨.slice none 0 0, rfl, H.pick [2] (by decide)⟩
  · have hF := iteB_f c30 hF
    refine (WP_skip (thenQ_n (hK20 _ _ ?_)))
    refine WP_seq_k fun K34 hK34 => ?_
    refine WP_region ?_
    refine RL_do rfl rfl (Do_build (cs := [.string (bs []), .bool false, .int .i64 0, .slice none 0 0]) bz25) ?_
    refine RL_ex rfl rfl (Lx_alloc zero25 H) ?_
    rintro _ w37 ⟨b35, rfl, H⟩
    refine RL_exU rfl (Lx_storeN (vs := [.string (bs []), .bool false, .int .i64 0, .slice none 0 0]) H 2 rfl sz25 rfl rfl rfl ⟨rfl, rfl, rfl, rfl, trivial⟩ rfl) ?_
    rintro w38 H
    refine (RL_nil (thenQ_n (hK34 _ _ ?_)))
    obtain ⟨j1103, hF, hK1102⟩ := bindO_some hF
    refine WP_seqS [6, 7, 15, 16, 17, 18, 19, 20, 21, 22, 23, 24, 25, 26, 27, 28, 29, 30, 31, 32, 33, 34, 35, 36, 37, 38, 39, 40, 41, 42, 43, 44, 45, 46, 47, 48, 49, 50, 51, 52, 53, 54, 55, 56, 57, 58, 59, 60, 61, 62, 63, 64, 65, 66, 67, 68, 69, 70, 71, 72] (fun (g : Value) => []) (fun g wl => Hd O w wl S [.blk b5 [.string (bs []), .bool false, .int .i64 0, .slice none 0 0] 25, .blk b35 [.string (bs []), .bool false, .int .i64 j1103.1, g] 25, .own (Rp.int .i64) g 3 j1103.2]) ?_ ?_
    · skip
      refine WP_seq_k fun K1104 hK1104 => ?_
      refine WP_region ?_
      refine RL_do rfl rfl (Do_assign (v := .int .i64 0) rfl) ?_
      refine (RL_nil (thenQ_n (hK1104 _ _ ?_)))
      refine WP_block ?_
      have H := own_nil H (Rp.int .i64) 3
      unfold F_ref9_Total_L1 at hF
      obtain ⟨B2161, n2162, eB2163, hF⟩ := loopO_some hF
      refine WP_loopS [6, 7, 15, 16, 17, 18, 19, 20, 21, 22, 23, 24, 25, 26, 27, 28, 29, 30, 31, 32, 33, 34, 35, 36, 37, 38, 39, 40, 41, 42, 43, 44, 45, 46, 47, 48, 49, 50, 51, 52, 53, 54, 55, 56, 57, 58, 59, 60, 61, 62, 63, 64, 65, 66, 67, 68, 69, 70, 71, 72] (fun (g : Nat × Int × Int × (List Int) × Value) => [(6, .int .i64 g.2.1)]) (fun g wl => Hd O w wl S [.fz (.sl rFleetRow v1 p0), .blk b5 [.string (bs []), .bool false, .int .i64 0, .slice none 0 0] 25, .blk b35 [.string (bs []), .bool false, .int .i64 g.2.2.1, g.2.2.2.2] 25, .own (Rp.int .i64) g.2.2.2.2 3 g.2.2.2.1] ∧ loopN B2161 g.1 (g.2.1, g.2.2.1, g.2.2.2.1) = some j1103) (fun g => g.1) (n2162, 0, 0, [], .slice none 0 0) (Sl_cons rfl Sl_nil) ⟨H.pick [0, 1, 2, 3] (by decide), hF⟩ ?_
      clear H hF
      rintro ⟨n2162, g2155, g2156, g2158, v2159⟩ ρ w2165 ⟨H, hF⟩
      obtain ⟨n2166, rfl, hF⟩ := loopN_pos hF
      have hF := loop_body eB2163 hF
      refine WP_seq_k fun K2176 hK2176 => ?_
      refine WP_seq_k fun K2177 hK2177 => ?_
      refine WP_region ?_
      refine RL_do rfl rfl (Do_move (v := .int .i64 g2155) rfl) ?_
      refine RL_do rfl rfl (Do_move (v := v1) rfl) ?_
      obtain ⟨x2178, e2179, hF⟩ := letO_some hF
      obtain ⟨a2180, c2181, q2182⟩ := SlF.len ((H.item (i := 0) rfl))
      refine RL_do rfl rfl (Do_as (Do_len u22 q2182) (congrArg (Value.int .i64) e2179)) ?_
      obtain ⟨x2183, e2184, hF⟩ := letO_some hF
      refine RL_do rfl rfl (Do_as (Do_lss (a := g2155) (b := x2178) rfl rfl) (congrArg Value.bool e2184)) ?_
      refine (RL_nil (thenQ_n (hK2177 _ _ ?_)))
      refine WP_ifb (b := x2183) rfl (fun c2185 => ?_) (fun c2185 => ?_)
      · have hF := iteB_t c2185 hF
        refine (WP_skip (thenQ_n (hK2176 _ _ ?_)))
        obtain ⟨j2682, hF, hK2681⟩ := bindO_some hF
        refine WP_seqS [7, 21, 22, 23, 24, 25, 26, 27, 28, 29, 30, 31, 32, 33, 34, 35, 36, 37, 38, 39, 40, 41, 42, 43, 44, 45, 46, 47, 48, 49, 50, 51, 52, 53, 54, 55, 56, 57, 58, 59, 60, 61, 62, 63, 64, 65, 66, 67, 68, 69, 70, 71, 72] (fun (g : Value) => []) (fun g wl => Hd O w wl S [.fz (.sl rFleetRow v1 p0), .blk b5 [.string (bs []), .bool false, .int .i64 0, .slice none 0 0] 25, .blk b35 [.string (bs []), .bool false, .int .i64 j2682.1, g] 25, .own (Rp.int .i64) g 3 j2682.2]) ?_ ?_
        · skip
          refine WP_block ?_
          refine WP_seq_k fun K2700 hK2700 => ?_
          refine WP_seq_k fun K2701 hK2701 => ?_
          refine WP_region ?_
          refine RL_do rfl rfl (Do_move (v := v1) rfl) ?_
          refine RL_do rfl rfl (Do_move (v := .int .i64 g2155) rfl) ?_
          obtain ⟨x2702, e2703, hF⟩ := bindO_some hF
          obtain ⟨b2704, o2705, c2706, cs2707, q2708, h2711, h2709, h2710, h2712⟩ := rd_at (H.item (i := 0) rfl) e2703
          obtain ⟨v2713, rfl, h2714⟩ := rFleetRow_open h2711
          have H := H.fzs [.at b2704 (o2705 + g2155.toNat * 4) _, .sl (Rp.int .i64) v2713 x2702.Events] ⟨⟨h2709, h2710, h2712⟩, h2714, trivial⟩
          refine RL_do rfl rfl (Do_idx u22 sz25 q2708 rfl (at_some e2703).1 (at_some e2703).2.1 rfl rfl) ?_
          refine RL_do rfl rfl (fa25_1 rfl) ?_
          refine RL_do rfl rfl (Do_load one4 rfl (Cells.get (H.item (i := 4) rfl).2.2 (i := 1) rfl)) ?_
          refine (RL_nil (thenQ_n (hK2701 _ _ ?_)))
          refine WP_ifb (b := x2702.Hidden) rfl (fun c2717 => ?_) (fun c2717 => ?_)
          · have hF := iteB_t c2717 hF
            have hR := Option.some.inj hF
            subst hR
            refine (WP_exit (thenQ_x (blockQ_eq (thenQ_n (And.intro ?_ ?_)))))
            · repeat' (first | with_reducible exact Fr_refl | refine Fr_upd rfl ?_ | refine Fr_over rfl rfl ?_)
            · exact ⟨v2159, Sl_nil, H.pick [0, 1, 2, 3] (by decide)⟩
          · have hF := iteB_f c2717 hF
            refine (WP_skip (thenQ_n (hK2700 _ _ ?_)))
            refine WP_seq_k fun K2718 hK2718 => ?_
            have H2719 := H
            have H := H.rebase
            have H2720 := H
            refine WP_mix0 H [0, 1, 2, 3, 4, 5, 6, 7, 8, 9] [.pure, .read, .pure, .pure, .pure, .pure, .read, .pure, .pure, .eff] mixed (by kernel_rfl) (by kernel_rfl) (by kernel_rfl) rfl ?_
            refine Mx.XL_pure rfl rfl rfl (fun w' hw' => fa25_2 rfl) ?_
            refine Mx.XL_read oS rfl rfl rfl (fun w' hw' => Do_load one3 rfl (Cells.get (Blk.cells ((H.sees hw').item (i := 2) rfl)) (i := 2) rfl)) ?_
            refine Mx.XL_pure rfl rfl rfl (fun w' hw' => Do_move (v := v1) rfl) ?_
            refine Mx.XL_pure rfl rfl rfl (fun w' hw' => Do_move (v := .int .i64 g2155) rfl) ?_
            obtain ⟨x2721, e2722, hF⟩ := bindO_some hF
            obtain ⟨b2723, o2724, c2725, cs2726, q2727, h2730, h2728, h2729, h2731⟩ := rd_at (H.item (i := 0) rfl) e2722
            obtain ⟨v2732, rfl, h2733⟩ := rFleetRow_open h2730
            have H := H.fzs [.at b2723 (o2724 + g2155.toNat * 4) _, .sl (Rp.int .i64) v2732 x2721.Events] ⟨⟨h2728, h2729, h2731⟩, h2733, trivial⟩
            refine Mx.XL_pure rfl rfl rfl (fun w' hw' => Do_idx u22 sz25 q2727 rfl (at_some e2722).1 (at_some e2722).2.1 rfl rfl) ?_
            refine Mx.XL_pure rfl rfl rfl (fun w' hw' => fa25_2 rfl) ?_
            refine Mx.XL_read oS rfl rfl rfl (fun w' hw' => Do_load one3 rfl (Cells.get ((H.sees hw').item (i := 6) rfl).2.2 (i := 2) rfl)) ?_
            obtain ⟨x2736, e2737, hF⟩ := letO_some hF
            refine Mx.XL_pure rfl rfl rfl (fun w' hw' => Do_add (a := g2156) (b := x2721.Flights) rfl rfl e2737) ?_
            refine Mx.XL_pure rfl rfl rfl (fun w' hw' => fa25_2 rfl) ?_
            refine Mx.XL_exU oS rfl rfl (fun w' hw' => Lx_store1 (H.sees hw') 2 rfl sz3 rfl (v := .int .i64 x2736) rfl rfl rfl) ?_
            rintro w' w2738 hw' H
            refine ⟨H.only, ?_⟩
            refine Mx.XL_nil fun w2739 hS => ?_
            have H := H.sees hS
            have H := H2719.rejoin H
            refine (thenQ_n (hK2718 _ _ ?_))
            refine WP_seq_k fun K2740 hK2740 => ?_
            refine WP_region ?_
            refine RL_do rfl rfl (Do_assign (v := .int .i64 0) rfl) ?_
            refine (RL_nil (thenQ_n (hK2740 _ _ ?_)))
            refine WP_block ?_
            unfold F_ref9_Total_L2 at hF
            obtain ⟨B3171, n3172, eB3173, hF⟩ := loopO_some hF
            refine WP_loopS [7, 35, 36, 37, 38, 39, 40, 41, 42, 43, 44, 45, 46, 47, 48, 49, 50, 51, 52, 53, 54, 55, 56, 57, 58, 59, 60, 61, 62, 63, 64, 65, 66, 67, 68, 69, 70, 71, 72] (fun (g : Nat × Int × (List Int) × Value) => [(7, .int .i64 g.2.1)]) (fun g wl => Hd O w wl S [.fz (.sl rFleetRow v1 p0), .blk b5 [.string (bs []), .bool false, .int .i64 0, .slice none 0 0] 25, .blk b35 [.string (bs []), .bool false, .int .i64 x2736, g.2.2.2] 25, .own (Rp.int .i64) g.2.2.2 3 g.2.2.1] ∧ loopN B3171 g.1 (g.2.1, g.2.2.1) = some j2682) (fun g => g.1) (n3172, 0, g2158, v2159) (Sl_cons rfl Sl_nil) ⟨H.pick [0, 1, 2, 3] (by decide), hF⟩ ?_
            clear H hF
            rintro ⟨n3172, g3168, g3169, v3170⟩ ρ w3175 ⟨H, hF⟩
            obtain ⟨n3176, rfl, hF⟩ := loopN_pos hF
            have hF := loop_body eB3173 hF
            refine WP_seq_k fun K3201 hK3201 => ?_
            refine WP_seq_k fun K3202 hK3202 => ?_
            refine WP_region ?_
            refine RL_do rfl rfl (Do_move (v := .int .i64 g3168) rfl) ?_
            refine RL_do rfl rfl (Do_move (v := v1) rfl) ?_
            refine RL_do rfl rfl (Do_move (v := .int .i64 g2155) rfl) ?_
            obtain ⟨x3203, e3204, hF⟩ := bindO_some hF
            obtain ⟨b3205, o3206, c3207, cs3208, q3209, h3212, h3210, h3211, h3213⟩ := rd_at (H.item (i := 0) rfl) e3204
            obtain ⟨v3214, rfl, h3215⟩ := rFleetRow_open h3212
            have H := H.fzs [.at b3205 (o3206 + g2155.toNat * 4) _, .sl (Rp.int .i64) v3214 x3203.Events] ⟨⟨h3210, h3211, h3213⟩, h3215, trivial⟩
            refine RL_do rfl rfl (Do_idx u22 sz25 q3209 rfl (at_some e3204).1 (at_some e3204).2.1 rfl rfl) ?_
            refine RL_do rfl rfl (fa25_3 rfl) ?_
            refine RL_do rfl rfl (Do_load one23 rfl (Cells.get (H.item (i := 4) rfl).2.2 (i := 3) rfl)) ?_
            obtain ⟨x3218, e3219, hF⟩ := letO_some hF
            obtain ⟨a3220, c3221, q3222⟩ := SlF.len ((H.item (i := 5) rfl))
            refine RL_do rfl rfl (Do_as (Do_len u23 q3222) (congrArg (Value.int .i64) e3219)) ?_
            obtain ⟨x3223, e3224, hF⟩ := letO_some hF
            refine RL_do rfl rfl (Do_as (Do_lss (a := g3168) (b := x3218) rfl rfl) (congrArg Value.bool e3224)) ?_
            refine (RL_nil (thenQ_n (hK3202 _ _ ?_)))
            refine WP_ifb (b := x3223) rfl (fun c3225 => ?_) (fun c3225 => ?_)
            · have hF := iteB_t c3225 hF
              refine (WP_skip (thenQ_n (hK3201 _ _ ?_)))
              refine WP_seq_k fun K3306 hK3306 => ?_
              refine WP_block ?_
              obtain ⟨g3326, hF, hK3329⟩ := bindO_some hF
              refine WP_seqS [45, 46, 47, 48, 49, 50, 51, 52, 53, 54] (fun (g : Value) => []) (fun g wl => Hd O w wl S [.fz (.sl rFleetRow v1 p0), .blk b5 [.string (bs []), .bool false, .int .i64 0, .slice none 0 0] 25, .blk b35 [.string (bs []), .bool false, .int .i64 x2736, g] 25, .own (Rp.int .i64) g 3 g3326]) ?_ ?_
              · skip
                refine WP_seq_k fun K3330 hK3330 => ?_
                refine WP_region ?_
                refine RL_do rfl rfl (Do_move (v := .int .i64 g3168) rfl) ?_
                refine RL_do rfl rfl (fa25_3 rfl) ?_
                refine RL_do rfl rfl (Do_load one23 rfl (Cells.get (Blk.cells (H.item (i := 2) rfl)) (i := 3) rfl)) ?_
                obtain ⟨x3331, e3332, hF⟩ := letO_some hF
                obtain ⟨a3333, c3334, q3335⟩ := Sr.len (Sr.of_own (H.item (i := 3) rfl))
                refine RL_do rfl rfl (Do_as (Do_len u23 q3335) (congrArg (Value.int .i64) e3332)) ?_
                obtain ⟨x3336, e3337, hF⟩ := letO_some hF
                refine RL_do rfl rfl (Do_as (Do_eql (a := g3168) (b := x3331) rfl rfl) (congrArg Value.bool e3337)) ?_
                refine (RL_nil (thenQ_n (hK3330 _ _ ?_)))
                refine WP_ifb (b := x3336) rfl (fun c3338 => ?_) (fun c3338 => ?_)
                · have hF := iteB_t c3338 hF
                  refine WP_region ?_
                  refine RL_do rfl rfl (fa25_3 rfl) ?_
                  refine RL_do rfl rfl (Do_load one23 rfl (Cells.get (Blk.cells (H.item (i := 2) rfl)) (i := 3) rfl)) ?_
                  obtain ⟨x3339, e3340, hF⟩ := letO_some hF
                  subst e3340
                  refine RL_ex rfl rfl (Lx_bs (r := (Rp.int .i64)) (xl := [0]) (cs := [.int .i64 0]) u23 el3 (by decide) (by decide) rfl (fillB_parts (vs := [.int .i64 0]) (by decide) rfl rfl ⟨rfl, trivial⟩ rfl) H ⟨[.int .i64 0], [], rfl, rfl, rfl⟩) ?_
                  rintro v3342 w3343 H
                  obtain ⟨x3344, e3345, hF⟩ := bindO_some hF
                  refine RL_ex rfl rfl (Lx_app H (i := 3) rfl u23 el3 rfl rfl (Sr.of_own (H.item (i := 6) rfl)) e3345) ?_
                  rintro v3346 w3347 H
                  refine RL_do rfl rfl (fa25_3 rfl) ?_
                  refine RL_exU rfl (Lx_store1 H 2 rfl sz23 rfl (v := v3346) rfl (own_one (H.item (i := 3) rfl)) rfl) ?_
                  rintro w3348 H
                  have hR := Option.some.inj hF
                  subst hR
                  refine (RL_nil (thenQ_n (And.intro ?_ ?_)))
                  · repeat' (first | with_reducible exact Fr_refl | refine Fr_upd rfl ?_ | refine Fr_over rfl rfl ?_)
                  · exact ⟨v3346, Sl_nil, H.pick [0, 1, 2, 3] (by decide)⟩
                · have hF := iteB_f c3338 hF
                  have hR := Option.some.inj hF
                  subst hR
                  refine (WP_skip (thenQ_n (And.intro ?_ ?_)))
                  · repeat' (first | with_reducible exact Fr_refl | refine Fr_upd rfl ?_ | refine Fr_over rfl rfl ?_)
                  · exact ⟨v3170, Sl_nil, H.pick [0, 1, 2, 3] (by decide)⟩
              · rintro v3327 ρ w3328 H
                have hF := hK3329
                have H3349 := H
                have H := H.rebase
                have H3350 := H
                refine WP_mix0 H [0, 1, 2, 3, 4, 5, 6, 7, 8, 9, 10, 11, 12, 13, 14, 15, 16, 17, 18] [.pure, .read, .pure, .pure, .read, .pure, .pure, .read, .pure, .pure, .pure, .pure, .read, .pure, .pure, .read, .pure, .pure, .eff] mixed (by kernel_rfl) (by kernel_rfl) (by kernel_rfl) rfl ?_
                refine Mx.XL_pure rfl rfl rfl (fun w' hw' => fa25_3 rfl) ?_
                refine Mx.XL_read oS rfl rfl rfl (fun w' hw' => Do_load one23 rfl (Cells.get (Blk.cells ((H.sees hw').item (i := 2) rfl)) (i := 3) rfl)) ?_
                refine Mx.XL_pure rfl rfl rfl (fun w' hw' => Do_move (v := .int .i64 g3168) rfl) ?_
                refine Mx.XL_pure rfl rfl rfl (fun w' hw' => fa25_3 rfl) ?_
                refine Mx.XL_read oS rfl rfl rfl (fun w' hw' => Do_load one23 rfl (Cells.get (Blk.cells ((H.sees hw').item (i := 2) rfl)) (i := 3) rfl)) ?_
                refine Mx.XL_pure rfl rfl rfl (fun w' hw' => Do_move (v := .int .i64 g3168) rfl) ?_
                obtain ⟨x3351, e3352, hF⟩ := bindO_some hF
                obtain ⟨b3353, c3355, cs3356, q3357, h3360, h3361⟩ := own_at (H.item (i := 3) rfl) e3352
                obtain rfl : cs3356 = [.int .i64 x3351] := h3360
                refine Mx.XL_pure rfl rfl rfl (fun w' hw' => Do_idx u23 sz3 q3357 rfl (at_some e3352).1 (at_some e3352).2.1 rfl rfl) ?_
                refine Mx.XL_read oS rfl rfl rfl (fun w' hw' => Do_load one3 rfl (Cells.get (h3361.sees hw') (i := 0) rfl)) ?_
                refine Mx.XL_pure rfl rfl rfl (fun w' hw' => Do_move (v := v1) rfl) ?_
                refine Mx.XL_pure rfl rfl rfl (fun w' hw' => Do_move (v := .int .i64 g2155) rfl) ?_
                obtain ⟨x3362, e3363, hF⟩ := bindO_some hF
                obtain ⟨b3364, o3365, c3366, cs3367, q3368, h3371, h3369, h3370, h3372⟩ := rd_at (H.item (i := 0) rfl) e3363
                obtain ⟨v3373, rfl, h3374⟩ := rFleetRow_open h3371
                have H := H.fzs [.at b3364 (o3365 + g2155.toNat * 4) _, .sl (Rp.int .i64) v3373 x3362.Events] ⟨⟨h3369, h3370, h3372⟩, h3374, trivial⟩
                refine Mx.XL_pure rfl rfl rfl (fun w' hw' => Do_idx u22 sz25 q3368 rfl (at_some e3363).1 (at_some e3363).2.1 rfl rfl) ?_
                refine Mx.XL_pure rfl rfl rfl (fun w' hw' => fa25_3 rfl) ?_
                refine Mx.XL_read oS rfl rfl rfl (fun w' hw' => Do_load one23 rfl (Cells.get ((H.sees hw').item (i := 4) rfl).2.2 (i := 3) rfl)) ?_
                refine Mx.XL_pure rfl rfl rfl (fun w' hw' => Do_move (v := .int .i64 g3168) rfl) ?_
                obtain ⟨x3377, e3378, hF⟩ := bindO_some hF
                obtain ⟨b3379, o3380, c3381, cs3382, q3383, h3386, h3384, h3385, h3387⟩ := rd_at (H.item (i := 5) rfl) e3378
                obtain rfl : cs3382 = [.int .i64 x3377] := h3386
                have H := H.fz (.at b3379 (o3380 + g3168.toNat * 1) _) ⟨h3384, h3385, h3387⟩
                refine Mx.XL_pure rfl rfl rfl (fun w' hw' => Do_idx u23 sz3 q3383 rfl (at_some e3378).1 (at_some e3378).2.1 rfl rfl) ?_
                refine Mx.XL_read oS rfl rfl rfl (fun w' hw' => Do_load one3 rfl (Cells.get ((H.sees hw').item (i := 6) rfl).2.2 (i := 0) rfl)) ?_
                obtain ⟨x3389, e3390, hF⟩ := letO_some hF
                refine Mx.XL_pure rfl rfl rfl (fun w' hw' => Do_add (a := x3351) (b := x3377) rfl rfl e3390) ?_
                obtain ⟨x3391, e3392, hF⟩ := bindO_some hF
                obtain ⟨b3393, c3395, cs3396, q3397, h3400, h3401⟩ := own_at (H.item (i := 3) rfl) e3392
                obtain rfl : cs3396 = [.int .i64 x3391] := h3400
                refine Mx.XL_pure rfl rfl rfl (fun w' hw' => Do_idx u23 sz3 q3397 rfl (at_some e3392).1 (at_some e3392).2.1 rfl rfl) ?_
                obtain ⟨x3402, e3403, hF⟩ := bindO_some hF
                refine Mx.XL_exU oS rfl rfl (fun w' hw' => Lx_own_store (vs := [.int .i64 x3389]) (off := 0) (H.sees hw') 3 rfl q3397 (h3401.sees hw') rfl sz3 rfl rfl rfl (allone_mem ⟨rfl, trivial⟩) e3403 (by decide) rfl rfl) ?_
                rintro w' w3404 hw' H
                refine ⟨H.only, ?_⟩
                refine Mx.XL_nil fun w3405 hS => ?_
                have H := H.sees hS
                have H := H3349.rejoin H
                refine (blockQ_n (thenQ_n (hK3306 _ _ ?_)))
                refine WP_region ?_
                refine RL_do rfl rfl (Do_move (v := .int .i64 g3168) rfl) ?_
                obtain ⟨x3406, e3407, hF⟩ := letO_some hF
                refine RL_do rfl rfl (Do_add (a := g3168) (b := 1) rfl rfl e3407) ?_
                refine RL_do rfl rfl (Do_assign (v := .int .i64 x3406) rfl) ?_
                refine (RL_nil (thenQ_n (And.intro ?_ ?_)))
                · repeat' (first | with_reducible exact Fr_refl | refine Fr_upd rfl ?_ | refine Fr_over rfl rfl ?_)
                · exact ⟨(n3176, x3406, x3402, v3327), (Sl_cons rfl Sl_nil), ⟨H.pick [0, 1, 2, 3] (by decide), hF⟩, Nat.lt_succ_self _⟩
            · have hF := iteB_f c3225 hF
              have hR := Option.some.inj hF
              subst hR
              refine (WP_exit (thenQ_x (thenQ_x (blockQ_eq (blockQ_n (thenQ_n (And.intro ?_ ?_)))))))
              · repeat' (first | with_reducible exact Fr_refl | refine Fr_upd rfl ?_ | refine Fr_over rfl rfl ?_)
              · exact ⟨v3170, Sl_nil, H.pick [0, 1, 2, 3] (by decide)⟩
        · rintro v2679 ρ w2680 H
          have hF := hK2681
          obtain ⟨g2677, g2678⟩ := j2682
          refine WP_region ?_
          refine RL_do rfl rfl (Do_move (v := .int .i64 g2155) rfl) ?_
          obtain ⟨x3408, e3409, hF⟩ := letO_some hF
          refine RL_do rfl rfl (Do_add (a := g2155) (b := 1) rfl rfl e3409) ?_
          refine RL_do rfl rfl (Do_assign (v := .int .i64 x3408) rfl) ?_
          refine (RL_nil (thenQ_n (And.intro ?_ ?_)))
          · repeat' (first | with_reducible exact Fr_refl | refine Fr_upd rfl ?_ | refine Fr_over rfl rfl ?_)
          · exact ⟨(n2166, x3408, g2677, g2678, v2679), (Sl_cons rfl Sl_nil), ⟨H.pick [0, 1, 2, 3] (by decide), hF⟩, Nat.lt_succ_self _⟩
      · have hF := iteB_f c2185 hF
        have hR := Option.some.inj hF
        subst hR
        refine (WP_exit (thenQ_x (thenQ_x (blockQ_eq (thenQ_n (And.intro ?_ ?_))))))
        · repeat' (first | with_reducible exact Fr_refl | refine Fr_upd rfl ?_ | refine Fr_over rfl rfl ?_)
        · exact ⟨v2159, Sl_nil, H.pick [1, 2, 3] (by decide)⟩
    · rintro v1100 ρ w1101 H
      have hF := hK1102
      obtain ⟨g1097, g1099⟩ := j1103
      refine WP_seq_k fun K3410 hK3410 => ?_
      refine WP_region ?_
      refine RL_do rfl rfl (Do_as (Do_loads (cs := [.string (bs []), .bool false, .int .i64 g1097, v1100]) agg25 rfl sz25 rfl (Blk.cells (H.item (i := 1) rfl))) rfl) ?_
      refine RL_exU rfl (Lx_storeN (vs := [.string (bs []), .bool false, .int .i64 g1097, v1100]) H 0 rfl sz25 rfl rfl rfl ⟨rfl, rfl, rfl, (own_one (H.item (i := 2) rfl)), trivial⟩ rfl) ?_
      rintro w3411 H
      refine RL_do rfl rfl (Do_assign (v := .int .i64 0) rfl) ?_
      refine (RL_nil (thenQ_n (hK3410 _ _ ?_)))
      have H := H.freeze (i := 2) rfl
      have hR := Option.some.inj hF
      subst hR
      refine (WP_ret (postc1 (v1 := .int .i64 0) rfl rfl (run_loadVar_agg agg25 sz25 rfl (Blk.cells (H.item (i := 0) rfl))) rfl ?_))
      exact ⟨v1100, rfl, H.pick [2] (by decide)⟩
end Go.Proofs.YtbjhondbheijiaaDoor.L
namespace Go.Proofs.YtbjhondbheijiaaDoor.L
open Go.RowKit Go.OB Go.Lf
/- internal/strconv.AppendInt -/
set_option maxHeartbeats 4000000 in
theorem F_internal_strconv_AppendInt_w (p0 : List Int) (p1 : Int) (p2 : Int) (v1 : Value) (r : (List Int)) (hF : F_internal_strconv_AppendInt p0 p1 p2 = some r) (O S : List Nat) (w : World) (H : Hd O w w S [.own (Rp.int .u8) v1 5 p0, .fz (.at 0 0 ((Fl.arr 20 (Fl.int .u64)).f G_internal_strconv_uint64pow10))]) :
    Calls Tryd.prog 76 ([v1, .int .i64 p1, .int .i64 p2] : List Value).toArray w fun e w' => ∃ u4, e = .returned (u4) ∧ Hd O w w' S [.own (Rp.int .u8) u4 5 r] := by
  unfold F_internal_strconv_AppendInt at hF
  refine calls_of_WP 21 Tryd.func76 rfl rfl rfl ?_
  refine WP_seq_k fun K5 hK5 => ?_
  refine WP_region ?_
  refine RL_do rfl rfl (Do_assign (v := .slice none 0 0) rfl) ?_
  refine (RL_nil (thenQ_n (hK5 _ _ ?_)))
  refine WP_seq_k fun K6 hK6 => ?_
  refine WP_region ?_
  refine RL_do rfl rfl (Do_move (v := .int .i64 p1) rfl) ?_
  obtain ⟨x7, e8, hF⟩ := letO_some hF
  refine RL_do rfl rfl (Do_conv u2 u119 rfl e8) ?_
  refine RL_do rfl rfl (Do_assign (v := .int .u64 x7) rfl) ?_
  refine (RL_nil (thenQ_n (hK6 _ _ ?_)))
  obtain ⟨j30, hF, hK29⟩ := bindO_some hF
  refine WP_seqS [0, 7, 10, 11, 12, 13, 14, 15, 16] (fun (g : Value) => [(0, g), (7, .int .u64 j30.2)]) (fun g wl => Hd O w wl S [.own (Rp.int .u8) g 5 j30.1, .fz (.at 0 0 ((Fl.arr 20 (Fl.int .u64)).f G_internal_strconv_uint64pow10))]) ?_ ?_
  · skip
    refine WP_seq_k fun K31 hK31 => ?_
    refine WP_region ?_
    refine RL_do rfl rfl (Do_move (v := .int .i64 p1) rfl) ?_
    obtain ⟨x32, e33, hF⟩ := letO_some hF
    refine RL_do rfl rfl (Do_as (Do_lss (a := p1) (b := 0) rfl rfl) (congrArg Value.bool e33)) ?_
    refine (RL_nil (thenQ_n (hK31 _ _ ?_)))
    refine WP_ifb (b := x32) rfl (fun c34 => ?_) (fun c34 => ?_)
    · have hF := iteB_t c34 hF
      refine WP_seq_k fun K35 hK35 => ?_
      refine WP_region ?_
      refine RL_do rfl rfl (Do_move (v := v1) rfl) ?_
      obtain ⟨x36, e37, hF⟩ := letO_some hF
      subst e37
      refine RL_ex rfl rfl (Lx_bs (r := (Rp.int .u8)) (xl := [45]) (cs := [.int .u8 45]) u32 el5 (by decide) (by decide) rfl (fillB_parts (vs := [.int .u8 45]) (by decide) rfl rfl ⟨rfl, trivial⟩ rfl) H ⟨[.int .u8 45], [], rfl, rfl, rfl⟩) ?_
      rintro v39 w40 H
      obtain ⟨x41, e42, hF⟩ := bindO_some hF
      refine RL_ex rfl rfl (Lx_app H (i := 0) rfl u32 el5 rfl rfl (Sr.of_own (H.item (i := 2) rfl)) e42) ?_
      rintro v43 w44 H
      refine RL_do rfl rfl (Do_assign (v := v43) rfl) ?_
      refine (RL_nil (thenQ_n (hK35 _ _ ?_)))
      refine WP_region ?_
      refine RL_do rfl rfl (Do_move (v := .int .u64 x7) rfl) ?_
      obtain ⟨x45, e46, hF⟩ := letO_some hF
      refine RL_do rfl rfl (Do_neg (a := x7) rfl e46) ?_
      refine RL_do rfl rfl (Do_assign (v := .int .u64 x45) rfl) ?_
      have hR := Option.some.inj hF
      subst hR
      refine (RL_nil (thenQ_n (And.intro ?_ ?_)))
      · repeat' (first | with_reducible exact Fr_refl | refine Fr_upd rfl ?_ | refine Fr_over rfl rfl ?_)
      · exact ⟨v43, (Sl_cons rfl (Sl_cons rfl Sl_nil)), H.pick [0, 1] (by decide)⟩
    · have hF := iteB_f c34 hF
      have hR := Option.some.inj hF
      subst hR
      refine (WP_skip (thenQ_n (And.intro ?_ ?_)))
      · repeat' (first | with_reducible exact Fr_refl | refine Fr_upd rfl ?_ | refine Fr_over rfl rfl ?_)
      · exact ⟨v1, (Sl_cons rfl (Sl_cons rfl Sl_nil)), H.pick [0, 1] (by decide)⟩
  · rintro v26 ρ w28 H
    have hF := hK29
    obtain ⟨g25, g27⟩ := j30
    refine WP_seq_k fun K47 hK47 => ?_
    refine WP_region ?_
    refine RL_do rfl rfl (Do_move (v := v26) rfl) ?_
    refine RL_do rfl rfl (Do_move (v := .int .u64 g27) rfl) ?_
    refine RL_do rfl rfl (Do_move (v := .int .i64 p2) rfl) ?_
    obtain ⟨x48, e49, hF⟩ := bindO_some hF
    refine RL_call rfl rfl (DoC_func en89 rfl) (E.X_AppendUint_w g25 g27 p2 v26 _ e49 _ _ _ (H.enter [0] [1] (by decide) rfl)) ?_
    rintro _ w52 ⟨v50, rfl, G53⟩
    have H : Hd O _ w52 _ [.fz (.at 0 0 ((Fl.arr 20 (Fl.int .u64)).f G_internal_strconv_uint64pow10)), .own (Rp.int .u8) v50 5 x48] := H.back [0] [1] rfl G53
    refine ⟨_, rfl, ?_⟩
    refine RL_do rfl rfl (Do_assign (v := v50) rfl) ?_
    refine (RL_nil (thenQ_n (hK47 _ _ ?_)))
    have hR := Option.some.inj hF
    subst hR
    refine (WP_ret (post1 (v1 := v50) rfl rfl ?_))
    exact ⟨v50, rfl, H.pick [1] (by decide)⟩
end Go.Proofs.YtbjhondbheijiaaDoor.L
namespace Go.Proofs.YtbjhondbheijiaaDoor.L
open Go.RowKit Go.OB Go.Lf
/- strconv.AppendInt -/
set_option maxHeartbeats 4000000 in
theorem F_strconv_AppendInt_w (p0 : List Int) (p1 : Int) (p2 : Int) (v1 : Value) (r : (List Int)) (hF : F_strconv_AppendInt p0 p1 p2 = some r) (O S : List Nat) (w : World) (H : Hd O w w S [.own (Rp.int .u8) v1 5 p0, .fz (.at 0 0 ((Fl.arr 20 (Fl.int .u64)).f G_internal_strconv_uint64pow10))]) :
    Calls Tryd.prog 56 ([v1, .int .i64 p1, .int .i64 p2] : List Value).toArray w fun e w' => ∃ u4, e = .returned (u4) ∧ Hd O w w' S [.own (Rp.int .u8) u4 5 r] := by
  unfold F_strconv_AppendInt at hF
  refine calls_of_WP 11 Tryd.func56 rfl rfl rfl ?_
  refine WP_seq_k fun K5 hK5 => ?_
  refine WP_region ?_
  refine RL_do rfl rfl (Do_assign (v := .slice none 0 0) rfl) ?_
  refine (RL_nil (thenQ_n (hK5 _ _ ?_)))
  refine WP_seq_k fun K6 hK6 => ?_
  refine WP_region ?_
  refine RL_do rfl rfl (Do_move (v := v1) rfl) ?_
  refine RL_do rfl rfl (Do_move (v := .int .i64 p1) rfl) ?_
  refine RL_do rfl rfl (Do_move (v := .int .i64 p2) rfl) ?_
  obtain ⟨x7, e8, hF⟩ := bindO_some hF
  refine RL_call rfl rfl (DoC_func en76 rfl) (F_internal_strconv_AppendInt_w p0 p1 p2 v1 _ e8 _ _ _ (H.enter [0] [1] (by decide) rfl)) ?_
  rintro _ w11 ⟨v9, rfl, G12⟩
  have H : Hd O _ w11 _ [.fz (.at 0 0 ((Fl.arr 20 (Fl.int .u64)).f G_internal_strconv_uint64pow10)), .own (Rp.int .u8) v9 5 x7] := H.back [0] [1] rfl G12
  refine ⟨_, rfl, ?_⟩
  refine RL_do rfl rfl (Do_assign (v := v9) rfl) ?_
  refine (RL_nil (thenQ_n (hK6 _ _ ?_)))
  have hR := Option.some.inj hF
  subst hR
  refine (WP_ret (post1 (v1 := v9) rfl rfl ?_))
  exact ⟨v9, rfl, H.pick [1] (by decide)⟩
end Go.Proofs.YtbjhondbheijiaaDoor.L
namespace Go.Proofs.YtbjhondbheijiaaDoor.L
open Go.RowKit Go.OB Go.Lf
/- (*orangebox/orangeboxref0.Ink).Int -/
set_option maxHeartbeats 4000000 in
theorem F_ref0_Ink_Int_w (p0 : Orangeboxref0Ink) (p1 : Int) (b1 : Nat) (v2 : Value) (r : Orangeboxref0Ink) (hF : F_ref0_Ink_Int p0 p1 = some r) (O S : List Nat) (w : World) (H : Hd O w w S [.own (Rp.int .u8) v2 5 p0.out, .blk b1 [v2] 34, .fz (.at 0 0 ((Fl.arr 20 (Fl.int .u64)).f G_internal_strconv_uint64pow10))]) :
    Calls Tryd.prog 35 ([.pointer (some ⟨b1, 0, none⟩), .int .i64 p1] : List Value).toArray w fun e w' => ∃ u6, e = .returned (.tuple #[]) ∧ Hd O w w' S [.own (Rp.int .u8) u6 5 r.out, .blk b1 [u6] 34] := by
  unfold F_ref0_Ink_Int at hF
  refine calls_of_WP 22 Tryd.func35 rfl rfl rfl ?_
  refine WP_seq_k fun K7 hK7 => ?_
  refine WP_region ?_
  refine RL_do rfl rfl (Do_move (v := .pointer (some ⟨b1, 0, none⟩)) rfl) ?_
  refine RL_do rfl rfl (Do_move (v := .pointer (some ⟨b1, 0, none⟩)) rfl) ?_
  refine RL_do rfl rfl (Do_nilCheck rfl) ?_
  refine RL_do rfl rfl (fa34_0 rfl) ?_
  refine RL_do rfl rfl (Do_load one32 rfl (Cells.get (Blk.cells (H.item (i := 1) rfl)) (i := 0) rfl)) ?_
  refine RL_do rfl rfl (Do_move (v := .int .i64 p1) rfl) ?_
  obtain ⟨x8, e9, hF⟩ := bindO_some hF
  refine RL_call rfl rfl (DoC_func en56 rfl) (F_strconv_AppendInt_w p0.out p1 10 v2 _ e9 _ _ _ (H.enter [0] [2] (by decide) rfl)) ?_
  rintro _ w12 ⟨v10, rfl, G13⟩
  have H : Hd O _ w12 _ [.blk b1 [v2] 34, .fz (.at 0 0 ((Fl.arr 20 (Fl.int .u64)).f G_internal_strconv_uint64pow10)), .own (Rp.int .u8) v10 5 x8] := H.back [0] [2] rfl G13
  refine ⟨_, rfl, ?_⟩
  refine RL_do rfl rfl (Do_nilCheck rfl) ?_
  refine RL_do rfl rfl (fa34_0 rfl) ?_
  refine RL_exU rfl (Lx_store1 H 0 rfl sz32 rfl (v := v10) rfl (own_one (H.item (i := 2) rfl)) rfl) ?_
  rintro w14 H
  refine (RL_nil (thenQ_n (hK7 _ _ ?_)))
  refine WP_region ?_
  refine RL_do rfl rfl (Do_move (v := .pointer (some ⟨b1, 0, none⟩)) rfl) ?_
  refine RL_do rfl rfl (Do_move (v := .pointer (some ⟨b1, 0, none⟩)) rfl) ?_
  refine RL_do rfl rfl (Do_nilCheck rfl) ?_
  refine RL_do rfl rfl (fa34_0 rfl) ?_
  refine RL_do rfl rfl (Do_load one32 rfl (Cells.get (Blk.cells (H.item (i := 0) rfl)) (i := 0) rfl)) ?_
  obtain ⟨x15, e16, hF⟩ := letO_some hF
  subst e16
  refine RL_ex rfl rfl (Lx_bs (r := (Rp.int .u8)) (xl := [32]) (cs := [.int .u8 32]) u32 el5 (by decide) (by decide) rfl (fillB_parts (vs := [.int .u8 32]) (by decide) rfl rfl ⟨rfl, trivial⟩ rfl) H ⟨[.int .u8 32], [], rfl, rfl, rfl⟩) ?_
  rintro v18 w19 H
  obtain ⟨x20, e21, hF⟩ := bindO_some hF
  refine RL_ex rfl rfl (Lx_app H (i := 2) rfl u32 el5 rfl rfl (Sr.of_own (H.item (i := 3) rfl)) e21) ?_
  rintro v22 w23 H
  refine RL_do rfl rfl (Do_nilCheck rfl) ?_
  refine RL_do rfl rfl (fa34_0 rfl) ?_
  refine RL_exU rfl (Lx_store1 H 0 rfl sz32 rfl (v := v22) rfl (own_one (H.item (i := 2) rfl)) rfl) ?_
  rintro w24 H
  have hR := Option.some.inj hF
  subst hR
  refine (RL_nil (post0n rfl ?_))
  exact ⟨v22, rfl, H.pick [2, 0] (by decide)⟩
end Go.Proofs.YtbjhondbheijiaaDoor.L
namespace Go.Proofs.YtbjhondbheijiaaDoor.L
open Go.RowKit Go.OB Go.Lf
/- (*orangebox/orangeboxref0.Ink).Errno -/
set_option maxHeartbeats 4000000 in
theorem F_ref0_Ink_Errno_w (p0 : Orangeboxref0Ink) (p1 : Int) (b1 : Nat) (v2 : Value) (r : Orangeboxref0Ink) (hF : F_ref0_Ink_Errno p0 p1 = some r) (O S : List Nat) (w : World) (H : Hd O w w S [.own (Rp.int .u8) v2 5 p0.out, .blk b1 [v2] 34, .fz (.at 0 0 ((Fl.arr 20 (Fl.int .u64)).f G_internal_strconv_uint64pow10))]) :
    Calls Tryd.prog 13 ([.pointer (some ⟨b1, 0, none⟩), .int .i64 p1] : List Value).toArray w fun e w' => ∃ u6, e = .returned (.tuple #[]) ∧ Hd O w w' S [.own (Rp.int .u8) u6 5 r.out, .blk b1 [u6] 34] := by
  unfold F_ref0_Ink_Errno at hF
  refine calls_of_WP 7 Tryd.func13 rfl rfl rfl ?_
  refine WP_region ?_
  refine RL_do rfl rfl (Do_move (v := .pointer (some ⟨b1, 0, none⟩)) rfl) ?_
  refine RL_do rfl rfl (Do_move (v := .int .i64 p1) rfl) ?_
  obtain ⟨x7, e8, hF⟩ := bindO_some hF
  refine RL_call rfl rfl (DoC_func en35 rfl) (F_ref0_Ink_Int_w p0 p1 b1 v2 _ e8 _ _ _ (H.enter [0, 1] [2] (by decide) rfl)) ?_
  rintro _ w11 ⟨v9, rfl, G12⟩
  have H : Hd O _ w11 _ [.fz (.at 0 0 ((Fl.arr 20 (Fl.int .u64)).f G_internal_strconv_uint64pow10)), .own (Rp.int .u8) v9 5 x7.out, .blk b1 [v9] 34] := H.back [0, 1] [2] rfl G12
  refine ⟨_, rfl, ?_⟩
  have hR := Option.some.inj hF
  subst hR
  refine (RL_nil (post0n rfl ?_))
  exact ⟨v9, rfl, H.pick [1, 2] (by decide)⟩
end Go.Proofs.YtbjhondbheijiaaDoor.L
namespace Go.Proofs.YtbjhondbheijiaaDoor.L
open Go.RowKit Go.OB Go.Lf
/- (*orangebox/orangeboxref0.Ink).Told -/
set_option maxHeartbeats 4000000 in
theorem F_ref0_Ink_Told_w (p0 : Option Orangeboxref0Ink) (v1 : Option Addr) (r : Str) (hF : F_ref0_Ink_Told p0 = some r) (O S : List Nat) (w : World) (H : Hd O w w S [.fz (.pt rOrangeboxref0Ink v1 p0)]) :
    Calls Tryd.prog 16 ([.pointer v1] : List Value).toArray w fun e w' => e = .returned (.string (bs r)) ∧ Hd O w w' S [] := by
  unfold F_ref0_Ink_Told at hF
  refine calls_of_WP 8 Tryd.func16 rfl rfl rfl ?_
  refine WP_seq_k fun K3 hK3 => ?_
  refine WP_region ?_
  refine RL_do rfl rfl (Do_assign (v := .string (bs [])) rfl) ?_
  refine (RL_nil (thenQ_n (hK3 _ _ ?_)))
  refine WP_seq_k fun K4 hK4 => ?_
  refine WP_region ?_
  refine RL_do rfl rfl (Do_move (v := .pointer v1) rfl) ?_
  obtain ⟨x5, e6, hF⟩ := bindO_some hF
  obtain ⟨b7, o8, cs9, q10, h11, h12, h13, h14⟩ := ptf_some ((H.item (i := 0) rfl) : PtF _ _ _ _ _) e6
  obtain ⟨v15, rfl, h16⟩ := rOrangeboxref0Ink_open h13
  have H := H.fzs [.at b7 o8 _, .sl (Rp.int .u8) v15 x5.out] ⟨⟨h11, h12, h14⟩, h16, trivial⟩
  refine RL_do rfl rfl (Do_nilCheck (ad := ⟨b7, o8, none⟩) (congrArg Value.pointer q10)) ?_
  refine RL_do rfl rfl (fa34_0 rfl) ?_
  refine RL_do rfl rfl (Do_load one32 rfl (Cells.get (H.item (i := 1) rfl).2.2 (i := 0) rfl)) ?_
  obtain ⟨x19, e20, hF⟩ := letO_some hF
  refine RL_do rfl rfl (Do_as (Do_bytestr (xl := x5.out) u32 u5 u9 rfl (Sr.of_rd (H.item (i := 2) rfl))) (congrArg (fun s => Value.string (bs s)) e20)) ?_
  refine RL_do rfl rfl (Do_assign (v := .string (bs x19)) rfl) ?_
  refine (RL_nil (thenQ_n (hK4 _ _ ?_)))
  have hR := Option.some.inj hF
  subst hR
  refine (WP_ret (post1 (v1 := .string (bs x19)) rfl rfl ?_))
  exact ⟨rfl, H.pick [] (by decide)⟩
end Go.Proofs.YtbjhondbheijiaaDoor.L
namespace Go.Proofs.YtbjhondbheijiaaDoor.L
open Go.RowKit Go.OB Go.Lf
/- (*orangebox/orangeboxref0.Ink).Text -/
set_option maxHeartbeats 4000000 in
theorem F_ref0_Ink_Text_w (p0 : Orangeboxref0Ink) (p1 : Str) (b1 : Nat) (v2 : Value) (r : Orangeboxref0Ink) (hF : F_ref0_Ink_Text p0 p1 = some r) (O S : List Nat) (w : World) (H : Hd O w w S [.own (Rp.int .u8) v2 5 p0.out, .blk b1 [v2] 34, .fz (.at 0 0 ((Fl.arr 20 (Fl.int .u64)).f G_internal_strconv_uint64pow10))]) :
    Calls Tryd.prog 36 ([.pointer (some ⟨b1, 0, none⟩), .string (bs p1)] : List Value).toArray w fun e w' => ∃ u6, e = .returned (.tuple #[]) ∧ Hd O w w' S [.own (Rp.int .u8) u6 5 r.out, .blk b1 [u6] 34] := by
  unfold F_ref0_Ink_Text at hF
  refine calls_of_WP 17 Tryd.func36 rfl rfl rfl ?_
  refine WP_seq_k fun K7 hK7 => ?_
  refine WP_region ?_
  refine RL_do rfl rfl (Do_move (v := .pointer (some ⟨b1, 0, none⟩)) rfl) ?_
  refine RL_do rfl rfl (Do_move (v := .string (bs p1)) rfl) ?_
  obtain ⟨x8, e9, hF⟩ := letO_some hF
  refine RL_do rfl rfl (Do_as (Do_slen (s1 := p1) u9 rfl) (congrArg (Value.int .i64) e9)) ?_
  obtain ⟨x10, e11, hF⟩ := bindO_some hF
  refine RL_call rfl rfl (DoC_func en35 rfl) (F_ref0_Ink_Int_w p0 x8 b1 v2 _ e11 _ _ _ (H.enter [0, 1] [2] (by decide) rfl)) ?_
  rintro _ w14 ⟨v12, rfl, G15⟩
  have H : Hd O _ w14 _ [.fz (.at 0 0 ((Fl.arr 20 (Fl.int .u64)).f G_internal_strconv_uint64pow10)), .own (Rp.int .u8) v12 5 x10.out, .blk b1 [v12] 34] := H.back [0, 1] [2] rfl G15
  refine ⟨_, rfl, ?_⟩
  refine (RL_nil (thenQ_n (hK7 _ _ ?_)))
  refine WP_region ?_
  refine RL_do rfl rfl (Do_move (v := .pointer (some ⟨b1, 0, none⟩)) rfl) ?_
  refine RL_do rfl rfl (Do_move (v := .pointer (some ⟨b1, 0, none⟩)) rfl) ?_
  refine RL_do rfl rfl (Do_nilCheck rfl) ?_
  refine RL_do rfl rfl (fa34_0 rfl) ?_
  refine RL_do rfl rfl (Do_load one32 rfl (Cells.get (Blk.cells (H.item (i := 2) rfl)) (i := 0) rfl)) ?_
  refine RL_do rfl rfl (Do_move (v := .string (bs p1)) rfl) ?_
  obtain ⟨x16, e17, hF⟩ := bindO_some hF
  refine RL_ex rfl rfl (Lx_appstr H (i := 1) rfl u32 u9 z8_5 rfl rfl e17) ?_
  rintro v18 w19 H
  refine RL_do rfl rfl (Do_nilCheck rfl) ?_
  refine RL_do rfl rfl (fa34_0 rfl) ?_
  refine RL_exU rfl (Lx_store1 H 2 rfl sz32 rfl (v := v18) rfl (own_one (H.item (i := 1) rfl)) rfl) ?_
  rintro w20 H
  have hR := Option.some.inj hF
  subst hR
  refine (RL_nil (post0n rfl ?_))
  exact ⟨v18, rfl, H.pick [1, 2] (by decide)⟩
end Go.Proofs.YtbjhondbheijiaaDoor.L
namespace Go.Proofs.YtbjhondbheijiaaDoor.L
open Go.RowKit Go.OB Go.Lf
/- internal/strconv.AppendBool -/
set_option maxHeartbeats 4000000 in
theorem F_internal_strconv_AppendBool_w (p0 : List Int) (p1 : Bool) (v1 : Value) (r : (List Int)) (hF : F_internal_strconv_AppendBool p0 p1 = some r) (O S : List Nat) (w : World) (H : Hd O w w S [.own (Rp.int .u8) v1 5 p0]) :
    Calls Tryd.prog 99 ([v1, .bool p1] : List Value).toArray w fun e w' => ∃ u3, e = .returned (u3) ∧ Hd O w w' S [.own (Rp.int .u8) u3 5 r] := by
  unfold F_internal_strconv_AppendBool at hF
  refine calls_of_WP 10 Tryd.func99 rfl rfl rfl ?_
  refine WP_seq_k fun K4 hK4 => ?_
  refine WP_region ?_
  refine RL_do rfl rfl (Do_assign (v := .slice none 0 0) rfl) ?_
  refine (RL_nil (thenQ_n (hK4 _ _ ?_)))
  refine WP_seq_k fun K12 hK12 => ?_
  refine WP_seq_k fun K13 hK13 => ?_
  refine WP_region ?_
  refine RL_do rfl rfl (Do_move (v := .bool p1) rfl) ?_
  refine (RL_nil (thenQ_n (hK13 _ _ ?_)))
  refine WP_ifb (b := p1) rfl (fun c14 => ?_) (fun c14 => ?_)
  · have hF := iteB_t c14 hF
    refine WP_seq_k fun K15 hK15 => ?_
    refine WP_region ?_
    refine RL_do rfl rfl (Do_move (v := v1) rfl) ?_
    obtain ⟨x16, e17, hF⟩ := bindO_some hF
    refine RL_ex rfl rfl (Lx_appstr H (i := 0) rfl u32 u9 z8_5 rfl rfl e17) ?_
    rintro v18 w19 H
    refine RL_do rfl rfl (Do_assign (v := v18) rfl) ?_
    refine (RL_nil (thenQ_n (hK15 _ _ ?_)))
    have hR := Option.some.inj hF
    subst hR
    refine (WP_ret (thenQ_r (post1 (v1 := v18) rfl rfl ?_)))
    exact ⟨v18, rfl, H.pick [0] (by decide)⟩
  · have hF := iteB_f c14 hF
    refine (WP_skip (thenQ_n (hK12 _ _ ?_)))
    refine WP_seq_k fun K20 hK20 => ?_
    refine WP_region ?_
    refine RL_do rfl rfl (Do_move (v := v1) rfl) ?_
    obtain ⟨x21, e22, hF⟩ := bindO_some hF
    refine RL_ex rfl rfl (Lx_appstr H (i := 0) rfl u32 u9 z8_5 rfl rfl e22) ?_
    rintro v23 w24 H
    refine RL_do rfl rfl (Do_assign (v := v23) rfl) ?_
    refine (RL_nil (thenQ_n (hK20 _ _ ?_)))
    have hR := Option.some.inj hF
    subst hR
    refine (WP_ret (post1 (v1 := v23) rfl rfl ?_))
    exact ⟨v23, rfl, H.pick [0] (by decide)⟩
end Go.Proofs.YtbjhondbheijiaaDoor.L
namespace Go.Proofs.YtbjhondbheijiaaDoor.L
open Go.RowKit Go.OB Go.Lf
/- strconv.AppendBool -/
set_option maxHeartbeats 4000000 in
theorem F_strconv_AppendBool_w (p0 : List Int) (p1 : Bool) (v1 : Value) (r : (List Int)) (hF : F_strconv_AppendBool p0 p1 = some r) (O S : List Nat) (w : World) (H : Hd O w w S [.own (Rp.int .u8) v1 5 p0]) :
    Calls Tryd.prog 88 ([v1, .bool p1] : List Value).toArray w fun e w' => ∃ u3, e = .returned (u3) ∧ Hd O w w' S [.own (Rp.int .u8) u3 5 r] := by
  unfold F_strconv_AppendBool at hF
  refine calls_of_WP 8 Tryd.func88 rfl rfl rfl ?_
  refine WP_seq_k fun K4 hK4 => ?_
  refine WP_region ?_
  refine RL_do rfl rfl (Do_assign (v := .slice none 0 0) rfl) ?_
  refine (RL_nil (thenQ_n (hK4 _ _ ?_)))
  refine WP_seq_k fun K5 hK5 => ?_
  refine WP_region ?_
  refine RL_do rfl rfl (Do_move (v := v1) rfl) ?_
  refine RL_do rfl rfl (Do_move (v := .bool p1) rfl) ?_
  obtain ⟨x6, e7, hF⟩ := bindO_some hF
  refine RL_call rfl rfl (DoC_func en99 rfl) (F_internal_strconv_AppendBool_w p0 p1 v1 _ e7 _ _ _ (H.enter [0] [] (by decide) rfl)) ?_
  rintro _ w10 ⟨v8, rfl, G11⟩
  have H : Hd O _ w10 _ [.own (Rp.int .u8) v8 5 x6] := H.back [0] [] rfl G11
  refine ⟨_, rfl, ?_⟩
  refine RL_do rfl rfl (Do_assign (v := v8) rfl) ?_
  refine (RL_nil (thenQ_n (hK5 _ _ ?_)))
  have hR := Option.some.inj hF
  subst hR
  refine (WP_ret (post1 (v1 := v8) rfl rfl ?_))
  exact ⟨v8, rfl, H.pick [0] (by decide)⟩
end Go.Proofs.YtbjhondbheijiaaDoor.L
namespace Go.Proofs.YtbjhondbheijiaaDoor.L
open Go.RowKit Go.OB Go.Lf
/- (*orangebox/orangeboxref0.Ink).Bool -/
set_option maxHeartbeats 4000000 in
theorem F_ref0_Ink_Bool_w (p0 : Orangeboxref0Ink) (p1 : Bool) (b1 : Nat) (v2 : Value) (r : Orangeboxref0Ink) (hF : F_ref0_Ink_Bool p0 p1 = some r) (O S : List Nat) (w : World) (H : Hd O w w S [.own (Rp.int .u8) v2 5 p0.out, .blk b1 [v2] 34]) :
    Calls Tryd.prog 75 ([.pointer (some ⟨b1, 0, none⟩), .bool p1] : List Value).toArray w fun e w' => ∃ u5, e = .returned (.tuple #[]) ∧ Hd O w w' S [.own (Rp.int .u8) u5 5 r.out, .blk b1 [u5] 34] := by
  unfold F_ref0_Ink_Bool at hF
  refine calls_of_WP 13 Tryd.func75 rfl rfl rfl ?_
  refine WP_region ?_
  refine RL_do rfl rfl (Do_move (v := .pointer (some ⟨b1, 0, none⟩)) rfl) ?_
  refine RL_do rfl rfl (Do_move (v := .pointer (some ⟨b1, 0, none⟩)) rfl) ?_
  refine RL_do rfl rfl (Do_nilCheck rfl) ?_
  refine RL_do rfl rfl (fa34_0 rfl) ?_
  refine RL_do rfl rfl (Do_load one32 rfl (Cells.get (Blk.cells (H.item (i := 1) rfl)) (i := 0) rfl)) ?_
  refine RL_do rfl rfl (Do_move (v := .bool p1) rfl) ?_
  obtain ⟨x6, e7, hF⟩ := bindO_some hF
  refine RL_call rfl rfl (DoC_func en88 rfl) (F_strconv_AppendBool_w p0.out p1 v2 _ e7 _ _ _ (H.enter [0] [] (by decide) rfl)) ?_
  rintro _ w10 ⟨v8, rfl, G11⟩
  have H : Hd O _ w10 _ [.blk b1 [v2] 34, .own (Rp.int .u8) v8 5 x6] := H.back [0] [] rfl G11
  refine ⟨_, rfl, ?_⟩
  refine RL_do rfl rfl (Do_nilCheck rfl) ?_
  refine RL_do rfl rfl (fa34_0 rfl) ?_
  refine RL_exU rfl (Lx_store1 H 0 rfl sz32 rfl (v := v8) rfl (own_one (H.item (i := 1) rfl)) rfl) ?_
  rintro w12 H
  have hR := Option.some.inj hF
  subst hR
  refine (RL_nil (post0n rfl ?_))
  exact ⟨v8, rfl, H.pick [1, 0] (by decide)⟩
end Go.Proofs.YtbjhondbheijiaaDoor.L
namespace Go.Proofs.YtbjhondbheijiaaDoor.L
open Go.RowKit Go.OB Go.Lf
/- (*orangebox/orangeboxref0.Ink).Ints -/
set_option maxHeartbeats 4000000 in
theorem F_ref0_Ink_Ints_w (p0 : Orangeboxref0Ink) (p1 : List Int) (b1 : Nat) (v2 : Value) (v5 : Value) (r : Orangeboxref0Ink) (hF : F_ref0_Ink_Ints p0 p1 = some r) (O S : List Nat) (w : World) (H : Hd O w w S [.own (Rp.int .u8) v2 5 p0.out, .blk b1 [v2] 34, .fz (.sl (Rp.int .i64) v5 p1), .fz (.at 0 0 ((Fl.arr 20 (Fl.int .u64)).f G_internal_strconv_uint64pow10))]) :
    Calls Tryd.prog 72 ([.pointer (some ⟨b1, 0, none⟩), v5] : List Value).toArray w fun e w' => ∃ u8, e = .returned (.tuple #[]) ∧ Hd O w w' S [.own (Rp.int .u8) u8 5 r.out, .blk b1 [u8] 34] := by
  unfold F_ref0_Ink_Ints at hF
  refine calls_of_WP 21 Tryd.func72 rfl rfl rfl ?_
  refine WP_seq_k fun K9 hK9 => ?_
  refine WP_region ?_
  refine RL_do rfl rfl (Do_move (v := .pointer (some ⟨b1, 0, none⟩)) rfl) ?_
  refine RL_do rfl rfl (Do_move (v := v5) rfl) ?_
  obtain ⟨x10, e11, hF⟩ := letO_some hF
  obtain ⟨a12, c13, q14⟩ := SlF.len ((H.item (i := 2) rfl))
  refine RL_do rfl rfl (Do_as (Do_len u23 q14) (congrArg (Value.int .i64) e11)) ?_
  obtain ⟨x15, e16, hF⟩ := bindO_some hF
  refine RL_call rfl rfl (DoC_func en35 rfl) (F_ref0_Ink_Int_w p0 x10 b1 v2 _ e16 _ _ _ (H.enter [0, 1] [3] (by decide) rfl)) ?_
  rintro _ w19 ⟨v17, rfl, G20⟩
  have H : Hd O _ w19 _ [.fz (.sl (Rp.int .i64) v5 p1), .fz (.at 0 0 ((Fl.arr 20 (Fl.int .u64)).f G_internal_strconv_uint64pow10)), .own (Rp.int .u8) v17 5 x15.out, .blk b1 [v17] 34] := H.back [0, 1] [3] rfl G20
  refine ⟨_, rfl, ?_⟩
  refine (RL_nil (thenQ_n (hK9 _ _ ?_)))
  refine WP_seq_k fun K21 hK21 => ?_
  refine WP_region ?_
  refine RL_do rfl rfl (Do_assign (v := .int .i64 0) rfl) ?_
  refine (RL_nil (thenQ_n (hK21 _ _ ?_)))
  refine WP_block ?_
  unfold F_ref0_Ink_Ints_L1 at hF
  obtain ⟨B146, n147, eB148, hF⟩ := loopO_some hF
  refine WP_loopS [4, 9, 10, 11, 12, 13, 14, 15, 16, 17, 18, 19, 20] (fun (g : Nat × Int × (List Int) × Value) => [(4, .int .i64 g.2.1)]) (fun g wl => Hd O w wl S [.fz (.sl (Rp.int .i64) v5 p1), .fz (.at 0 0 ((Fl.arr 20 (Fl.int .u64)).f G_internal_strconv_uint64pow10)), .blk b1 [g.2.2.2] 34, .own (Rp.int .u8) g.2.2.2 5 g.2.2.1] ∧ loopN B146 g.1 (g.2.1, g.2.2.1) = some r) (fun g => g.1) (n147, 0, x15.out, v17) (Sl_cons rfl Sl_nil) ⟨H.pick [0, 1, 3, 2] (by decide), hF⟩ ?_
  clear H hF
  rintro ⟨n147, g142, g144, v145⟩ ρ w150 ⟨H, hF⟩
  obtain ⟨n151, rfl, hF⟩ := loopN_pos hF
  have hF := loop_body eB148 hF
  refine WP_seq_k fun K161 hK161 => ?_
  refine WP_seq_k fun K162 hK162 => ?_
  refine WP_region ?_
  refine RL_do rfl rfl (Do_move (v := .int .i64 g142) rfl) ?_
  refine RL_do rfl rfl (Do_move (v := v5) rfl) ?_
  obtain ⟨x163, e164, hF⟩ := letO_some hF
  obtain ⟨a165, c166, q167⟩ := SlF.len ((H.item (i := 0) rfl))
  refine RL_do rfl rfl (Do_as (Do_len u23 q167) (congrArg (Value.int .i64) e164)) ?_
  obtain ⟨x168, e169, hF⟩ := letO_some hF
  refine RL_do rfl rfl (Do_as (Do_lss (a := g142) (b := x163) rfl rfl) (congrArg Value.bool e169)) ?_
  refine (RL_nil (thenQ_n (hK162 _ _ ?_)))
  refine WP_ifb (b := x168) rfl (fun c170 => ?_) (fun c170 => ?_)
  · have hF := iteB_t c170 hF
    refine (WP_skip (thenQ_n (hK161 _ _ ?_)))
    refine WP_seq_k fun K189 hK189 => ?_
    refine WP_block ?_
    refine WP_region ?_
    refine RL_do rfl rfl (Do_move (v := .pointer (some ⟨b1, 0, none⟩)) rfl) ?_
    refine RL_do rfl rfl (Do_move (v := v5) rfl) ?_
    refine RL_do rfl rfl (Do_move (v := .int .i64 g142) rfl) ?_
    obtain ⟨x190, e191, hF⟩ := bindO_some hF
    obtain ⟨b192, o193, c194, cs195, q196, h199, h197, h198, h200⟩ := rd_at (H.item (i := 0) rfl) e191
    obtain rfl : cs195 = [.int .i64 x190] := h199
    have H := H.fz (.at b192 (o193 + g142.toNat * 1) _) ⟨h197, h198, h200⟩
    refine RL_do rfl rfl (Do_idx u23 sz3 q196 rfl (at_some e191).1 (at_some e191).2.1 rfl rfl) ?_
    refine RL_do rfl rfl (Do_load one3 rfl (Cells.get (H.item (i := 4) rfl).2.2 (i := 0) rfl)) ?_
    obtain ⟨x202, e203, hF⟩ := bindO_some hF
    refine RL_call rfl rfl (DoC_func en35 rfl) (F_ref0_Ink_Int_w (Orangeboxref0Ink.mk g144) x190 b1 v145 _ e203 _ _ _ (H.enter [3, 2] [1] (by decide) rfl)) ?_
    rintro _ w206 ⟨v204, rfl, G207⟩
    have H : Hd O _ w206 _ [.fz (.sl (Rp.int .i64) v5 p1), .fz (.at 0 0 ((Fl.arr 20 (Fl.int .u64)).f G_internal_strconv_uint64pow10)), .fz (.at b192 (o193 + g142.toNat * 1) [.int .i64 x190]), .own (Rp.int .u8) v204 5 x202.out, .blk b1 [v204] 34] := H.back [3, 2] [1] rfl G207
    refine ⟨_, rfl, ?_⟩
    refine (RL_nil (blockQ_n (thenQ_n (hK189 _ _ ?_))))
    refine WP_region ?_
    refine RL_do rfl rfl (Do_move (v := .int .i64 g142) rfl) ?_
    obtain ⟨x208, e209, hF⟩ := letO_some hF
    refine RL_do rfl rfl (Do_add (a := g142) (b := 1) rfl rfl e209) ?_
    refine RL_do rfl rfl (Do_assign (v := .int .i64 x208) rfl) ?_
    refine (RL_nil (thenQ_n (And.intro ?_ ?_)))
    · repeat' (first | with_reducible exact Fr_refl | refine Fr_upd rfl ?_ | refine Fr_over rfl rfl ?_)
    · exact ⟨(n151, x208, x202.out, v204), (Sl_cons rfl Sl_nil), ⟨H.pick [0, 1, 4, 3] (by decide), hF⟩, Nat.lt_succ_self _⟩
  · have hF := iteB_f c170 hF
    have hR := Option.some.inj hF
    subst hR
    refine (WP_exit (thenQ_x (thenQ_x (blockQ_eq (post0n rfl ?_)))))
    exact ⟨v145, rfl, H.pick [3, 2] (by decide)⟩
end Go.Proofs.YtbjhondbheijiaaDoor.L
namespace Go.Proofs.YtbjhondbheijiaaDoor.L
open Go.RowKit Go.OB Go.Lf
/- (*orangebox/orangeboxref0.Ink).Row -/
set_option maxHeartbeats 4000000 in
theorem F_ref0_Ink_Row_w (p0 : Orangeboxref0Ink) (p1 : FleetRow) (b1 : Nat) (v2 : Value) (v5 : Value) (r : Orangeboxref0Ink) (hF : F_ref0_Ink_Row p0 p1 = some r) (O S : List Nat) (w : World) (H : Hd O w w S [.own (Rp.int .u8) v2 5 p0.out, .blk b1 [v2] 34, .fz (.sl (Rp.int .i64) v5 p1.Events), .fz (.at 0 0 ((Fl.arr 20 (Fl.int .u64)).f G_internal_strconv_uint64pow10))]) :
    Calls Tryd.prog 55 ([.pointer (some ⟨b1, 0, none⟩), .agg [.string (bs p1.Key), .bool p1.Hidden, .int .i64 p1.Flights, v5].toArray] : List Value).toArray w fun e w' => ∃ u8, e = .returned (.tuple #[]) ∧ Hd O w w' S [.own (Rp.int .u8) u8 5 r.out, .blk b1 [u8] 34] := by
  unfold F_ref0_Ink_Row at hF
  refine calls_of_WP 20 Tryd.func55 rfl rfl rfl ?_
  refine WP_seq_k fun K9 hK9 => ?_
  refine WP_region ?_
  refine RL_ex rfl rfl (Lx_box (cs := [.string (bs p1.Key), .bool p1.Hidden, .int .i64 p1.Flights, v5]) rfl H) ?_
  rintro _ w12 ⟨b10, rfl, H⟩
  refine (RL_nil (thenQ_n (hK9 _ _ ?_)))
  refine WP_seq_k fun K13 hK13 => ?_
  refine WP_region ?_
  refine RL_do rfl rfl (Do_move (v := .pointer (some ⟨b1, 0, none⟩)) rfl) ?_
  refine RL_do rfl rfl (fa25_0 rfl) ?_
  refine RL_do rfl rfl (Do_load one9 rfl (Cells.get (Blk.cells (H.item (i := 4) rfl)) (i := 0) rfl)) ?_
  obtain ⟨x14, e15, hF⟩ := bindO_some hF
  refine RL_call rfl rfl (DoC_func en36 rfl) (F_ref0_Ink_Text_w p0 p1.Key b1 v2 _ e15 _ _ _ (H.enter [0, 1] [3] (by decide) rfl)) ?_
  rintro _ w18 ⟨v16, rfl, G19⟩
  have H : Hd O _ w18 _ [.fz (.sl (Rp.int .i64) v5 p1.Events), .fz (.at 0 0 ((Fl.arr 20 (Fl.int .u64)).f G_internal_strconv_uint64pow10)), .blk b10 [.string (bs p1.Key), .bool p1.Hidden, .int .i64 p1.Flights, v5] 25, .own (Rp.int .u8) v16 5 x14.out, .blk b1 [v16] 34] := H.back [0, 1] [3] rfl G19
  refine ⟨_, rfl, ?_⟩
  refine (RL_nil (thenQ_n (hK13 _ _ ?_)))
  refine WP_seq_k fun K20 hK20 => ?_
  refine WP_region ?_
  refine RL_do rfl rfl (Do_move (v := .pointer (some ⟨b1, 0, none⟩)) rfl) ?_
  refine RL_do rfl rfl (fa25_1 rfl) ?_
  refine RL_do rfl rfl (Do_load one4 rfl (Cells.get (Blk.cells (H.item (i := 2) rfl)) (i := 1) rfl)) ?_
  obtain ⟨x21, e22, hF⟩ := bindO_some hF
  refine RL_call rfl rfl (DoC_func en75 rfl) (F_ref0_Ink_Bool_w x14 p1.Hidden b1 v16 _ e22 _ _ _ (H.enter [3, 4] [] (by decide) rfl)) ?_
  rintro _ w25 ⟨v23, rfl, G26⟩
  have H : Hd O _ w25 _ [.fz (.sl (Rp.int .i64) v5 p1.Events), .fz (.at 0 0 ((Fl.arr 20 (Fl.int .u64)).f G_internal_strconv_uint64pow10)), .blk b10 [.string (bs p1.Key), .bool p1.Hidden, .int .i64 p1.Flights, v5] 25, .own (Rp.int .u8) v23 5 x21.out, .blk b1 [v23] 34] := H.back [3, 4] [] rfl G26
  refine ⟨_, rfl, ?_⟩
  refine (RL_nil (thenQ_n (hK20 _ _ ?_)))
  refine WP_seq_k fun K27 hK27 => ?_
  refine WP_region ?_
  refine RL_do rfl rfl (Do_move (v := .pointer (some ⟨b1, 0, none⟩)) rfl) ?_
  refine RL_do rfl rfl (fa25_2 rfl) ?_
  refine RL_do rfl rfl (Do_load one3 rfl (Cells.get (Blk.cells (H.item (i := 2) rfl)) (i := 2) rfl)) ?_
  obtain ⟨x28, e29, hF⟩ := bindO_some hF
  refine RL_call rfl rfl (DoC_func en35 rfl) (F_ref0_Ink_Int_w x21 p1.Flights b1 v23 _ e29 _ _ _ (H.enter [3, 4] [1] (by decide) rfl)) ?_
  rintro _ w32 ⟨v30, rfl, G33⟩
  have H : Hd O _ w32 _ [.fz (.sl (Rp.int .i64) v5 p1.Events), .fz (.at 0 0 ((Fl.arr 20 (Fl.int .u64)).f G_internal_strconv_uint64pow10)), .blk b10 [.string (bs p1.Key), .bool p1.Hidden, .int .i64 p1.Flights, v5] 25, .own (Rp.int .u8) v30 5 x28.out, .blk b1 [v30] 34] := H.back [3, 4] [1] rfl G33
  refine ⟨_, rfl, ?_⟩
  refine (RL_nil (thenQ_n (hK27 _ _ ?_)))
  refine WP_region ?_
  refine RL_do rfl rfl (Do_move (v := .pointer (some ⟨b1, 0, none⟩)) rfl) ?_
  refine RL_do rfl rfl (fa25_3 rfl) ?_
  refine RL_do rfl rfl (Do_load one23 rfl (Cells.get (Blk.cells (H.item (i := 2) rfl)) (i := 3) rfl)) ?_
  obtain ⟨x34, e35, hF⟩ := bindO_some hF
  refine RL_call rfl rfl (DoC_func en72 rfl) (F_ref0_Ink_Ints_w x28 p1.Events b1 v30 v5 _ e35 _ _ _ (H.enter [3, 4] [0, 1] (by decide) rfl)) ?_
  rintro _ w38 ⟨v36, rfl, G39⟩
  have H : Hd O _ w38 _ [.fz (.sl (Rp.int .i64) v5 p1.Events), .fz (.at 0 0 ((Fl.arr 20 (Fl.int .u64)).f G_internal_strconv_uint64pow10)), .blk b10 [.string (bs p1.Key), .bool p1.Hidden, .int .i64 p1.Flights, v5] 25, .own (Rp.int .u8) v36 5 x34.out, .blk b1 [v36] 34] := H.back [3, 4] [0, 1] rfl G39
  refine ⟨_, rfl, ?_⟩
  have hR := Option.some.inj hF
  subst hR
  refine (RL_nil (post0n rfl ?_))
  exact ⟨v36, rfl, H.pick [3, 4] (by decide)⟩
end Go.Proofs.YtbjhondbheijiaaDoor.L
