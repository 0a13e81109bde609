/- Walks: what each function computes, for every argument; no condition but those that stand in the statements. -/
import Derived.Test.YtbjhondbheijiaaQV0
import Derived.Test.YtbjhondbheijiaaQV4
import Derived.Test.YtbjhondbheijiaaQV1
import Derived.Test.YtbjhondbheijiaaQV3
namespace Go.Proofs.Ytbjhondbheijiaa
open Go.RowKit Go.OB Go.Lf
/- orangebox/fleet.CheckMask -/
set_option maxHeartbeats 4000000 in
theorem F_fleet_CheckMask_w (p0 : Mask) (v1 : Value) (v2 : Value) (r : Int) (hF : F_fleet_CheckMask p0 = some r) (O S : List Nat) (w : World) (H : Hd O w w S [.fz (.sl Rp.str v1 p0.Hide), .fz (.sl rGrain v2 p0.Grains)]) :
    Calls Try.prog 15 ([.agg [.bool p0.Tails, .int .i64 p0.Days, v1, v2, .int .i64 p0.Least].toArray] : List Value).toArray w fun e w' => e = .returned (.int .i64 r) ∧ Hd O w w' S [] := by
  unfold F_fleet_CheckMask at hF
  refine calls_of_WP 50 Try.func15 rfl rfl rfl ?_
  refine WP_seq_k fun K5 hK5 => ?_
  refine WP_region ?_
  refine RL_ex rfl rfl (Lx_box (cs := [.bool p0.Tails, .int .i64 p0.Days, v1, v2, .int .i64 p0.Least]) rfl H) ?_
  rintro _ w8 ⟨b6, rfl, H⟩
  refine RL_do rfl rfl (Do_assign (v := .int .i64 0) rfl) ?_
  refine (RL_nil (thenQ_n (hK5 _ _ ?_)))
  refine WP_seq_k fun K18 hK18 => ?_
  refine WP_seq_k fun K19 hK19 => ?_
  refine WP_region ?_
  refine RL_do rfl rfl (fa34_1 rfl) ?_
  refine RL_do rfl rfl (Do_load one3 rfl (Cells.get (Blk.cells (H.item (i := 2) rfl)) (i := 1) rfl)) ?_
  obtain ⟨x20, e21, hF⟩ := bindO_some hF
  refine RL_call rfl rfl (DoC_func en17 rfl) (F_fleet_within_w p0.Days 1 1000000 _ e21 _ _ _ (H.enter [] [] (by decide) rfl)) ?_
  rintro _ w22 ⟨rfl, G23⟩
  have H := H.back0 [] rfl G23
  refine ⟨_, rfl, ?_⟩
  obtain ⟨x24, e25, hF⟩ := letO_some hF
  refine RL_do rfl rfl (Do_as (Do_not (p := x20) rfl) (congrArg Value.bool e25)) ?_
  refine (RL_nil (thenQ_n (hK19 _ _ ?_)))
  refine WP_ifb (b := x24) rfl (fun c26 => ?_) (fun c26 => ?_)
  · have hF := iteB_t c26 hF
    refine WP_seq_k fun K27 hK27 => ?_
    refine WP_region ?_
    refine RL_do rfl rfl (Do_assign (v := .int .i64 9) rfl) ?_
    refine (RL_nil (thenQ_n (hK27 _ _ ?_)))
    have hR := Option.some.inj hF
    subst hR
    refine (WP_ret (thenQ_r (post1 (v1 := .int .i64 9) rfl rfl ?_)))
    exact ⟨rfl, H.pick [] (by decide)⟩
  · have hF := iteB_f c26 hF
    refine (WP_skip (thenQ_n (hK18 _ _ ?_)))
    refine WP_seq_k fun K38 hK38 => ?_
    refine WP_seq_k fun K39 hK39 => ?_
    refine WP_region ?_
    refine RL_do rfl rfl (fa34_2 rfl) ?_
    refine RL_do rfl rfl (Do_load one32 rfl (Cells.get (Blk.cells (H.item (i := 2) rfl)) (i := 2) rfl)) ?_
    obtain ⟨x40, e41, hF⟩ := bindO_some hF
    refine RL_call rfl rfl (DoC_func en25 rfl) (F_fleet_checkNames_w p0.Hide v1 _ e41 _ _ _ (H.enter [] [0] (by decide) rfl)) ?_
    rintro _ w42 ⟨rfl, G43⟩
    have H := H.back0 [0] rfl G43
    refine ⟨_, rfl, ?_⟩
    refine RL_do rfl rfl (Do_assign (v := .int .i64 x40) rfl) ?_
    refine (RL_nil (thenQ_n (hK39 _ _ ?_)))
    refine WP_seq_k fun K44 hK44 => ?_
    refine WP_region ?_
    refine RL_do rfl rfl (Do_move (v := .int .i64 x40) rfl) ?_
    obtain ⟨x45, e46, hF⟩ := letO_some hF
    refine RL_do rfl rfl (Do_as (Do_neq (a := x40) (b := 0) rfl rfl) (congrArg Value.bool e46)) ?_
    refine (RL_nil (thenQ_n (hK44 _ _ ?_)))
    refine WP_ifb (b := x45) rfl (fun c47 => ?_) (fun c47 => ?_)
    · have hF := iteB_t c47 hF
      refine WP_seq_k fun K48 hK48 => ?_
      refine WP_region ?_
      refine RL_do rfl rfl (Do_move (v := .int .i64 x40) rfl) ?_
      refine RL_do rfl rfl (Do_assign (v := .int .i64 x40) rfl) ?_
      refine (RL_nil (thenQ_n (hK48 _ _ ?_)))
      have hR := Option.some.inj hF
      subst hR
      refine (WP_ret (thenQ_r (post1 (v1 := .int .i64 x40) rfl rfl ?_)))
      exact ⟨rfl, H.pick [] (by decide)⟩
    · have hF := iteB_f c47 hF
      refine (WP_skip (thenQ_n (hK38 _ _ ?_)))
      refine WP_seq_k fun K59 hK59 => ?_
      refine WP_seq_k fun K60 hK60 => ?_
      refine WP_region ?_
      refine RL_do rfl rfl (fa34_3 rfl) ?_
      refine RL_do rfl rfl (Do_load one31 rfl (Cells.get (Blk.cells (H.item (i := 2) rfl)) (i := 3) rfl)) ?_
      obtain ⟨x61, e62, hF⟩ := letO_some hF
      obtain ⟨a63, c64, q65⟩ := SlF.len ((H.item (i := 1) rfl))
      refine RL_do rfl rfl (Do_as (Do_len u31 q65) (congrArg (Value.int .i64) e62)) ?_
      obtain ⟨x66, e67, hF⟩ := letO_some hF
      refine RL_do rfl rfl (Do_as (Do_gtr (a := x61) (b := 30) rfl rfl) (congrArg Value.bool e67)) ?_
      refine (RL_nil (thenQ_n (hK60 _ _ ?_)))
      refine WP_ifb (b := x66) rfl (fun c68 => ?_) (fun c68 => ?_)
      · have hF := iteB_t c68 hF
        refine WP_seq_k fun K69 hK69 => ?_
        refine WP_region ?_
        refine RL_do rfl rfl (Do_assign (v := .int .i64 3) rfl) ?_
        refine (RL_nil (thenQ_n (hK69 _ _ ?_)))
        have hR := Option.some.inj hF
        subst hR
        refine (WP_ret (thenQ_r (post1 (v1 := .int .i64 3) rfl rfl ?_)))
        exact ⟨rfl, H.pick [] (by decide)⟩
      · have hF := iteB_f c68 hF
        refine (WP_skip (thenQ_n (hK59 _ _ ?_)))
        obtain ⟨k394, ek395, hF⟩ := joinO_some hF
        refine WP_seqS [2, 4, 5, 20, 21, 22, 23, 24, 25, 26, 27, 28, 29, 30, 31, 32, 33, 34, 35, 36, 37, 38, 39, 40, 41, 42, 43, 44, 45] (fun (g : Unit) => []) (fun g wl => Hd O w wl S [.blk b6 [.bool p0.Tails, .int .i64 p0.Days, v1, v2, .int .i64 p0.Least] 34, .fz (.sl Rp.str v1 p0.Hide), .fz (.sl rGrain v2 p0.Grains)] ∧ k394 () = some r) ?_ ?_
        · skip
          refine WP_seq_k fun K396 hK396 => ?_
          refine WP_region ?_
          refine RL_do rfl rfl (fa34_3 rfl) ?_
          refine RL_do rfl rfl (Do_load one31 rfl (Cells.get (Blk.cells (H.item (i := 2) rfl)) (i := 3) rfl)) ?_
          obtain ⟨x397, e398, hF⟩ := letO_some hF
          obtain ⟨a399, c400, q401⟩ := SlF.len ((H.item (i := 1) rfl))
          refine RL_do rfl rfl (Do_as (Do_len u31 q401) (congrArg (Value.int .i64) e398)) ?_
          refine RL_do rfl rfl (Do_move (v := .int .i64 0) rfl) ?_
          refine (RL_nil (thenQ_n (hK396 _ _ ?_)))
          refine WP_block ?_
          unfold F_fleet_CheckMask_L1 at hF
          obtain ⟨B610, n611, eB612, hF⟩ := loopO_some hF
          refine WP_loopS [2, 4, 5, 23, 24, 25, 26, 27, 28, 29, 30, 31, 32, 33, 34, 35, 36, 37, 38, 39, 40, 41, 42, 43, 44, 45] (fun (g : Nat × Int) => [(23, .int .i64 g.2)]) (fun g wl => Hd O w wl S [.fz (.sl rGrain v2 p0.Grains), .blk b6 [.bool p0.Tails, .int .i64 p0.Days, v1, v2, .int .i64 p0.Least] 34, .fz (.sl Rp.str v1 p0.Hide)] ∧ loopN B610 g.1 g.2 = some r) (fun g => g.1) (n611, 0) (Sl_cons rfl Sl_nil) ⟨H.pick [1, 2, 0] (by decide), hF⟩ ?_
          clear H hF
          rintro ⟨n611, g609⟩ ρ w614 ⟨H, hF⟩
          obtain ⟨n615, rfl, hF⟩ := loopN_pos hF
          have hF := loop_body eB612 hF
          refine WP_seq_k fun K616 hK616 => ?_
          refine WP_region ?_
          obtain ⟨x617, e618, hF⟩ := letO_some hF
          refine RL_do rfl rfl (Do_as (Do_lss (a := g609) (b := x397) rfl rfl) (congrArg Value.bool e618)) ?_
          refine (RL_nil (thenQ_n (hK616 _ _ ?_)))
          refine WP_seq_k fun K620 hK620 => ?_
          refine WP_ifb (b := x617) rfl (fun c621 => ?_) (fun c621 => ?_)
          · have hF := iteB_t c621 hF
            refine (WP_skip (thenQ_n (hK620 _ _ ?_)))
            refine WP_seq_k fun K669 hK669 => ?_
            refine WP_block ?_
            refine WP_seq_k fun K670 hK670 => ?_
            refine WP_region ?_
            refine RL_do rfl rfl (Do_move (v := .int .i64 g609) rfl) ?_
            obtain ⟨x671, e672, hF⟩ := bindO_some hF
            obtain ⟨b673, o674, c675, cs676, q677, h680, h678, h679, h681⟩ := rd_at (H.item (i := 0) rfl) e672
            obtain rfl := rGrain_open h680
            have H := H.fz (.at b673 (o674 + g609.toNat * 2) _) ⟨h678, h679, h681⟩
            refine RL_do rfl rfl (Do_idx u31 sz30 q677 rfl (at_some e672).1 (at_some e672).2.1 rfl rfl) ?_
            refine RL_do rfl rfl (Do_as (Do_loads (cs := [.string (bs x671.Track), .int .i64 x671.N]) agg30 rfl sz30 rfl (H.item (i := 3) rfl).2.2) rfl) ?_
            refine RL_ex rfl rfl (Lx_alloc zero30 H) ?_
            rintro _ w685 ⟨b683, rfl, H⟩
            refine RL_do rfl rfl (Do_assign (v := .int .i64 g609) rfl) ?_
            refine RL_exU rfl (Lx_storeN (vs := [.string (bs x671.Track), .int .i64 x671.N]) H 4 rfl sz30 rfl rfl rfl ⟨rfl, rfl, trivial⟩ rfl) ?_
            rintro w686 H
            refine (RL_nil (thenQ_n (hK670 _ _ ?_)))
            refine WP_block ?_
            refine WP_seq_k fun K687 hK687 => ?_
            refine WP_region ?_
            refine RL_do rfl rfl (fa30_0 rfl) ?_
            refine RL_do rfl rfl (Do_load one9 rfl (Cells.get (Blk.cells (H.item (i := 4) rfl)) (i := 0) rfl)) ?_
            obtain ⟨x688, e689, hF⟩ := bindO_some hF
            refine RL_call rfl rfl (DoC_func en9 rfl) (F_event_IsName_w x671.Track _ e689 _ _ _ (H.enter [] [] (by decide) rfl)) ?_
            rintro _ w690 ⟨rfl, G691⟩
            have H := H.back0 [] rfl G691
            refine ⟨_, rfl, ?_⟩
            obtain ⟨x692, e693, hF⟩ := letO_some hF
            refine RL_do rfl rfl (Do_as (Do_not (p := x688) rfl) (congrArg Value.bool e693)) ?_
            refine RL_do rfl rfl (Do_assign (v := .bool x692) rfl) ?_
            refine (RL_nil (thenQ_n (hK687 _ _ ?_)))
            refine WP_ifb (b := x692) rfl (fun c694 => ?_) (fun c694 => ?_)
            · have hF := iteB_t c694 hF
              refine WP_seq_k fun K695 hK695 => ?_
              refine WP_region ?_
              refine RL_do rfl rfl (Do_assign (v := .int .i64 8) rfl) ?_
              refine (RL_nil (thenQ_n (hK695 _ _ ?_)))
              have hR := Option.some.inj hF
              subst hR
              refine (WP_ret (blockQ_r (blockQ_r (thenQ_r (thenQ_r (blockQ_r (thenQ_r (post1 (v1 := .int .i64 8) rfl rfl ?_))))))))
              exact ⟨rfl, H.pick [] (by decide)⟩
            · have hF := iteB_f c694 hF
              refine WP_seq_k fun K696 hK696 => ?_
              refine WP_region ?_
              refine RL_do rfl rfl (fa34_3 rfl) ?_
              refine RL_do rfl rfl (Do_load one31 rfl (Cells.get (Blk.cells (H.item (i := 1) rfl)) (i := 3) rfl)) ?_
              refine RL_do rfl rfl (Do_move (v := .int .i64 g609) rfl) ?_
              obtain ⟨x697, e698, hF⟩ := bindO_some hF
              refine RL_exP rfl rfl (Lx_slice_h u31 sz30 (H.item (i := 0) rfl) rfl rfl e698) ?_
              rintro v699 h700
              have H := H.fz (.sl rGrain v699 x697) h700
              refine RL_do rfl rfl (Do_makeFunc rfl) ?_
              obtain ⟨x702, e703, hF⟩ := bindO_some hF
              refine RL_call rfl rfl (DoC_func en26 rfl) (F_slices_ContainsFunc___api_Grain_api_Grain__fleet_CheckMask_1_w x697 x671 v699 b683 _ e703 _ _ _ (H.enter [4] [5] (by decide) rfl)) ?_
              rintro _ w704 ⟨rfl, G705⟩
              have H : Hd O w w704 S [.fz (.sl rGrain v2 p0.Grains), .blk b6 [.bool p0.Tails, .int .i64 p0.Days, v1, v2, .int .i64 p0.Least] 34, .fz (.sl Rp.str v1 p0.Hide), .fz (.at b673 (o674 + g609.toNat * 2) [.string (bs x671.Track), .int .i64 x671.N]), .fz (.sl rGrain v699 x697), .blk b683 [.string (bs x671.Track), .int .i64 x671.N] 30] := H.back [4] [5] rfl G705
              refine ⟨_, rfl, ?_⟩
              refine RL_do rfl rfl (Do_assign (v := .bool x702) rfl) ?_
              refine (RL_nil (thenQ_n (hK696 _ _ ?_)))
              refine WP_ifb (b := x702) rfl (fun c706 => ?_) (fun c706 => ?_)
              · have hF := iteB_t c706 hF
                refine WP_seq_k fun K707 hK707 => ?_
                refine WP_region ?_
                refine RL_do rfl rfl (Do_assign (v := .int .i64 5) rfl) ?_
                refine (RL_nil (thenQ_n (hK707 _ _ ?_)))
                have hR := Option.some.inj hF
                subst hR
                refine (WP_ret (blockQ_r (blockQ_r (thenQ_r (thenQ_r (blockQ_r (thenQ_r (post1 (v1 := .int .i64 5) rfl rfl ?_))))))))
                exact ⟨rfl, H.pick [] (by decide)⟩
              · have hF := iteB_f c706 hF
                refine WP_seq_k fun K708 hK708 => ?_
                refine WP_region ?_
                refine RL_do rfl rfl (fa30_1 rfl) ?_
                refine RL_do rfl rfl (Do_load one3 rfl (Cells.get (Blk.cells (H.item (i := 5) rfl)) (i := 1) rfl)) ?_
                obtain ⟨x709, e710, hF⟩ := bindO_some hF
                refine RL_call rfl rfl (DoC_func en17 rfl) (F_fleet_within_w x671.N 1 1125899906842624 _ e710 _ _ _ (H.enter [] [] (by decide) rfl)) ?_
                rintro _ w711 ⟨rfl, G712⟩
                have H := H.back0 [] rfl G712
                refine ⟨_, rfl, ?_⟩
                obtain ⟨x713, e714, hF⟩ := letO_some hF
                refine RL_do rfl rfl (Do_as (Do_not (p := x709) rfl) (congrArg Value.bool e714)) ?_
                refine RL_do rfl rfl (Do_assign (v := .bool x713) rfl) ?_
                refine (RL_nil (thenQ_n (hK708 _ _ ?_)))
                refine WP_ifb (b := x713) rfl (fun c715 => ?_) (fun c715 => ?_)
                · have hF := iteB_t c715 hF
                  refine WP_seq_k fun K716 hK716 => ?_
                  refine WP_region ?_
                  refine RL_do rfl rfl (Do_assign (v := .int .i64 9) rfl) ?_
                  refine (RL_nil (thenQ_n (hK716 _ _ ?_)))
                  have hR := Option.some.inj hF
                  subst hR
                  refine (WP_ret (blockQ_r (blockQ_r (thenQ_r (thenQ_r (blockQ_r (thenQ_r (post1 (v1 := .int .i64 9) rfl rfl ?_))))))))
                  exact ⟨rfl, H.pick [] (by decide)⟩
                · have hF := iteB_f c715 hF
                  refine (WP_skip (blockQ_n (blockQ_n (thenQ_n (hK669 _ _ ?_)))))
                  refine WP_region ?_
                  obtain ⟨x717, e718, hF⟩ := letO_some hF
                  refine RL_do rfl rfl (Do_add (a := g609) (b := 1) rfl rfl e718) ?_
                  refine RL_do rfl rfl (Do_move (v := .int .i64 x717) rfl) ?_
                  refine (RL_nil (thenQ_n (And.intro ?_ ?_)))
                  · repeat' (first | with_reducible exact Fr_refl | refine Fr_upd rfl ?_ | refine Fr_over rfl rfl ?_)
                  · exact ⟨(n615, x717), (Sl_cons rfl Sl_nil), ⟨H.pick [0, 1, 2] (by decide), hF⟩, Nat.lt_succ_self _⟩
          · have hF := iteB_f c621 hF
            refine (WP_exit (thenQ_x (thenQ_x (blockQ_eq (thenQ_n (And.intro ?_ ?_))))))
            · repeat' (first | with_reducible exact Fr_refl | refine Fr_upd rfl ?_ | refine Fr_over rfl rfl ?_)
            · exact ⟨(), Sl_nil, ⟨H.pick [1, 2, 0] (by decide), hF⟩⟩
        · rintro _ ρ w393 ⟨H, hF⟩
          have hF := join_body ek395 hF
          refine WP_seq_k fun K728 hK728 => ?_
          refine WP_seq_k fun K729 hK729 => ?_
          refine WP_region ?_
          refine RL_do rfl rfl (fa34_4 rfl) ?_
          refine RL_do rfl rfl (Do_load one3 rfl (Cells.get (Blk.cells (H.item (i := 0) rfl)) (i := 4) rfl)) ?_
          obtain ⟨x730, e731, hF⟩ := bindO_some hF
          refine RL_call rfl rfl (DoC_func en17 rfl) (F_fleet_within_w p0.Least 1 1000 _ e731 _ _ _ (H.enter [] [] (by decide) rfl)) ?_
          rintro _ w732 ⟨rfl, G733⟩
          have H := H.back0 [] rfl G733
          refine ⟨_, rfl, ?_⟩
          obtain ⟨x734, e735, hF⟩ := letO_some hF
          refine RL_do rfl rfl (Do_as (Do_not (p := x730) rfl) (congrArg Value.bool e735)) ?_
          refine (RL_nil (thenQ_n (hK729 _ _ ?_)))
          refine WP_ifb (b := x734) rfl (fun c736 => ?_) (fun c736 => ?_)
          · have hF := iteB_t c736 hF
            refine WP_seq_k fun K737 hK737 => ?_
            refine WP_region ?_
            refine RL_do rfl rfl (Do_assign (v := .int .i64 9) rfl) ?_
            refine (RL_nil (thenQ_n (hK737 _ _ ?_)))
            have hR := Option.some.inj hF
            subst hR
            refine (WP_ret (thenQ_r (post1 (v1 := .int .i64 9) rfl rfl ?_)))
            exact ⟨rfl, H.pick [] (by decide)⟩
          · have hF := iteB_f c736 hF
            refine (WP_skip (thenQ_n (hK728 _ _ ?_)))
            refine WP_seq_k fun K738 hK738 => ?_
            refine WP_region ?_
            refine RL_do rfl rfl (Do_assign (v := .int .i64 0) rfl) ?_
            refine (RL_nil (thenQ_n (hK738 _ _ ?_)))
            have hR := Option.some.inj hF
            subst hR
            refine (WP_ret (post1 (v1 := .int .i64 0) rfl rfl ?_))
            exact ⟨rfl, H.pick [] (by decide)⟩
end Go.Proofs.Ytbjhondbheijiaa
namespace Go.Proofs.Ytbjhondbheijiaa
open Go.RowKit Go.OB Go.Lf
/- slices.Clone[[]orangebox/api.Sample,orangebox/api.Sample] -/
set_option maxHeartbeats 4000000 in
theorem F_slices_Clone___api_Sample_api_Sample__w (p0 : List Sample) (v1 : Value) (r : (List Sample)) (hF : F_slices_Clone___api_Sample_api_Sample_ p0 = some r) (O S : List Nat) (w : World) (H : Hd O w w S [.fz (.sl rSample v1 p0)]) :
    Calls Try.prog 29 ([v1] : List Value).toArray w fun e w' => ∃ u3, e = .returned (u3) ∧ Hd O w w' S [.own rSample u3 62 r] := by
  unfold F_slices_Clone___api_Sample_api_Sample_ at hF
  refine calls_of_WP 8 Try.func29 rfl rfl rfl ?_
  refine WP_seq_k fun K4 hK4 => ?_
  refine WP_region ?_
  refine RL_do rfl rfl (Do_assign (v := .slice none 0 0) rfl) ?_
  refine (RL_nil (thenQ_n (hK4 _ _ ?_)))
  refine WP_seq_k fun K13 hK13 => ?_
  refine WP_seq_k fun K14 hK14 => ?_
  refine WP_region ?_
  refine RL_do rfl rfl (Do_move (v := v1) rfl) ?_
  obtain ⟨a15, c16, q17, e190⟩ := slf_nilq (H.item (i := 0) rfl)
  obtain ⟨x18, e19, hF⟩ := nilO_some hF e190
  refine RL_do rfl rfl (Do_as (Do_eqlnils u56 q17 rfl) (congrArg Value.bool e19)) ?_
  refine (RL_nil (thenQ_n (hK14 _ _ ?_)))
  refine WP_ifb (b := x18) rfl (fun c20 => ?_) (fun c20 => ?_)
  · have hF := iteB_t c20 hF
    refine WP_seq_k fun K21 hK21 => ?_
    refine WP_region ?_
    refine RL_do rfl rfl (Do_assign (v := .slice none 0 0) rfl) ?_
    refine (RL_nil (thenQ_n (hK21 _ _ ?_)))
    have H := own_nil H rSample 62
    have hR := Option.some.inj hF
    subst hR
    refine (WP_ret (thenQ_r (post1 (v1 := .slice none 0 0) rfl rfl ?_)))
    exact ⟨.slice none 0 0, rfl, H.pick [1] (by decide)⟩
  · have hF := iteB_f c20 hF
    refine (WP_skip (thenQ_n (hK13 _ _ ?_)))
    refine WP_seq_k fun K23 hK23 => ?_
    refine WP_region ?_
    refine RL_ex rfl rfl (Lx_bs0 (r := rSample) u56 el62 H) ?_
    rintro v25 w26 H
    refine RL_do rfl rfl (Do_move (v := v1) rfl) ?_
    obtain ⟨x27, e28, hF⟩ := bindO_some hF
    refine RL_ex rfl rfl (Lx_app H (i := 1) rfl u56 el62 rfl rfl (Sr.of_rd (H.item (i := 0) rfl)) e28) ?_
    rintro v29 w30 H
    refine RL_do rfl rfl (Do_assign (v := v29) rfl) ?_
    refine (RL_nil (thenQ_n (hK23 _ _ ?_)))
    have hR := Option.some.inj hF
    subst hR
    refine (WP_ret (post1 (v1 := v29) rfl rfl ?_))
    exact ⟨v29, rfl, H.pick [1] (by decide)⟩
end Go.Proofs.Ytbjhondbheijiaa
namespace Go.Proofs.Ytbjhondbheijiaa
open Go.RowKit Go.OB Go.Lf
/- orangebox/fleet.coarse -/
set_option maxHeartbeats 4000000 in
theorem F_fleet_coarse_w (p0 : Int) (p1 : Int) (r : Int) (hF : F_fleet_coarse p0 p1 = some r) (O S : List Nat) (w : World) (H : Hd O w w S []) :
    Calls Try.prog 30 ([.int .i64 p0, .int .i64 p1] : List Value).toArray w fun e w' => e = .returned (.int .i64 r) ∧ Hd O w w' S [] := by
  unfold F_fleet_coarse at hF
  refine calls_of_WP 18 Try.func30 rfl rfl rfl ?_
  refine WP_seq_k fun K1 hK1 => ?_
  refine WP_region ?_
  refine RL_do rfl rfl (Do_assign (v := .int .i64 0) rfl) ?_
  refine (RL_nil (thenQ_n (hK1 _ _ ?_)))
  refine WP_seq_k fun K2 hK2 => ?_
  refine WP_region ?_
  refine RL_do rfl rfl (Do_move (v := .int .i64 p0) rfl) ?_
  refine RL_do rfl rfl (Do_move (v := .int .i64 p1) rfl) ?_
  obtain ⟨x3, e4, hF⟩ := bindO_some hF
  refine RL_do rfl rfl (Do_rem' (j := p0) (q := p1) rfl rfl e4) ?_
  refine RL_do rfl rfl (Do_assign (v := .int .i64 x3) rfl) ?_
  refine (RL_nil (thenQ_n (hK2 _ _ ?_)))
  obtain ⟨g11, hF, hK13⟩ := bindO_some hF
  refine WP_seqS [5, 9, 10, 11, 12, 13] (fun (g : Unit) => [(5, .int .i64 g11)]) (fun g wl => Hd O w wl S []) ?_ ?_
  · skip
    refine WP_seq_k fun K14 hK14 => ?_
    refine WP_region ?_
    refine RL_do rfl rfl (Do_move (v := .int .i64 x3) rfl) ?_
    obtain ⟨x15, e16, hF⟩ := letO_some hF
    refine RL_do rfl rfl (Do_as (Do_lss (a := x3) (b := 0) rfl rfl) (congrArg Value.bool e16)) ?_
    refine (RL_nil (thenQ_n (hK14 _ _ ?_)))
    refine WP_ifb (b := x15) rfl (fun c17 => ?_) (fun c17 => ?_)
    · have hF := iteB_t c17 hF
      refine WP_region ?_
      refine RL_do rfl rfl (Do_move (v := .int .i64 x3) rfl) ?_
      refine RL_do rfl rfl (Do_move (v := .int .i64 p1) rfl) ?_
      obtain ⟨x18, e19, hF⟩ := letO_some hF
      refine RL_do rfl rfl (Do_add (a := x3) (b := p1) rfl rfl e19) ?_
      refine RL_do rfl rfl (Do_assign (v := .int .i64 x18) rfl) ?_
      have hR := Option.some.inj hF
      subst hR
      refine (RL_nil (thenQ_n (And.intro ?_ ?_)))
      · repeat' (first | with_reducible exact Fr_refl | refine Fr_upd rfl ?_ | refine Fr_over rfl rfl ?_)
      · exact ⟨(), (Sl_cons rfl Sl_nil), H.pick [] (by decide)⟩
    · have hF := iteB_f c17 hF
      have hR := Option.some.inj hF
      subst hR
      refine (WP_skip (thenQ_n (And.intro ?_ ?_)))
      · repeat' (first | with_reducible exact Fr_refl | refine Fr_upd rfl ?_ | refine Fr_over rfl rfl ?_)
      · exact ⟨(), (Sl_cons rfl Sl_nil), H.pick [] (by decide)⟩
  · rintro _ ρ w12 H
    have hF := hK13
    refine WP_seq_k fun K20 hK20 => ?_
    refine WP_region ?_
    refine RL_do rfl rfl (Do_move (v := .int .i64 p0) rfl) ?_
    refine RL_do rfl rfl (Do_move (v := .int .i64 g11) rfl) ?_
    obtain ⟨x21, e22, hF⟩ := letO_some hF
    refine RL_do rfl rfl (Do_sub (a := p0) (b := g11) rfl rfl e22) ?_
    obtain ⟨x23, e24, hF⟩ := letO_some hF
    refine RL_do rfl rfl (Do_max (j := x21) (q := (-1125899906842624)) rfl rfl e24) ?_
    refine RL_do rfl rfl (Do_assign (v := .int .i64 x23) rfl) ?_
    refine (RL_nil (thenQ_n (hK20 _ _ ?_)))
    have hR := Option.some.inj hF
    subst hR
    refine (WP_ret (post1 (v1 := .int .i64 x23) rfl rfl ?_))
    exact ⟨rfl, H.pick [] (by decide)⟩
end Go.Proofs.Ytbjhondbheijiaa
namespace Go.Proofs.Ytbjhondbheijiaa
open Go.RowKit Go.OB Go.Lf
/- orangebox/fleet.masked -/
set_option maxHeartbeats 4000000 in
theorem F_fleet_masked_w (p0 : Flight) (p1 : Mask) (v1 : Value) (v3 : Value) (v4 : Value) (r : Flight) (hF : F_fleet_masked p0 p1 = some r) (O S : List Nat) (w : World) (H : Hd O w w S [.fz (.sl rTrack v1 p0.Tracks), .fz (.sl Rp.str v3 p1.Hide), .fz (.sl rGrain v4 p1.Grains)]) :
    Calls Try.prog 16 ([.agg [.string (bs p0.Tail), .string (bs p0.Route), .int .i64 p0.Day, .int .i64 p0.From, .int .i64 p0.To, v1].toArray, .agg [.bool p1.Tails, .int .i64 p1.Days, v3, v4, .int .i64 p1.Least].toArray] : List Value).toArray w fun e w' => ∃ u7, e = .returned (.agg [.string (bs r.Tail), .string (bs r.Route), .int .i64 r.Day, .int .i64 r.From, .int .i64 r.To, u7].toArray) ∧ Hd O w w' S [.fz (.sl rTrack u7 r.Tracks)] := by
  unfold F_fleet_masked at hF
  refine calls_of_WP 87 Try.func16 rfl rfl rfl ?_
  refine WP_seq_k fun K8 hK8 => ?_
  refine WP_region ?_
  refine RL_ex rfl rfl (Lx_box (cs := [.string (bs p0.Tail), .string (bs p0.Route), .int .i64 p0.Day, .int .i64 p0.From, .int .i64 p0.To, v1]) rfl H) ?_
  rintro _ w11 ⟨b9, rfl, H⟩
  refine RL_ex rfl rfl (Lx_box (cs := [.bool p1.Tails, .int .i64 p1.Days, v3, v4, .int .i64 p1.Least]) rfl H) ?_
  rintro _ w14 ⟨b12, rfl, H⟩
  refine RL_ex rfl rfl (Lx_alloc zero24 H) ?_
  rintro _ w17 ⟨b15, rfl, H⟩
  refine (RL_nil (thenQ_n (hK8 _ _ ?_)))
  obtain ⟨g21, hF, hK23⟩ := bindO_some hF
  refine WP_seqS [12, 13, 14] (fun (g : Unit) => []) (fun g wl => Hd O w wl S [.blk b9 [.string (bs g21), .string (bs p0.Route), .int .i64 p0.Day, .int .i64 p0.From, .int .i64 p0.To, v1] 24, .fz (.sl rTrack v1 p0.Tracks), .blk b12 [.bool p1.Tails, .int .i64 p1.Days, v3, v4, .int .i64 p1.Least] 34, .fz (.sl Rp.str v3 p1.Hide), .fz (.sl rGrain v4 p1.Grains), .blk b15 [.string (bs []), .string (bs []), .int .i64 0, .int .i64 0, .int .i64 0, .slice none 0 0] 24]) ?_ ?_
  · skip
    refine WP_seq_k fun K24 hK24 => ?_
    refine WP_region ?_
    refine RL_do rfl rfl (fa34_0 rfl) ?_
    refine RL_do rfl rfl (Do_load one4 rfl (Cells.get (Blk.cells (H.item (i := 4) rfl)) (i := 0) rfl)) ?_
    refine (RL_nil (thenQ_n (hK24 _ _ ?_)))
    refine WP_ifb (b := p1.Tails) rfl (fun c25 => ?_) (fun c25 => ?_)
    · have hF := iteB_t c25 hF
      refine WP_region ?_
      refine RL_do rfl rfl (fa24_0 rfl) ?_
      refine RL_exU rfl (Lx_store1 H 3 rfl sz9 rfl (v := .string (bs [])) rfl rfl rfl) ?_
      rintro w26 H
      have hR := Option.some.inj hF
      subst hR
      refine (RL_nil (thenQ_n (And.intro ?_ ?_)))
      · repeat' (first | with_reducible exact Fr_refl | refine Fr_upd rfl ?_ | refine Fr_over rfl rfl ?_)
      · exact ⟨(), Sl_nil, H.pick [3, 0, 4, 1, 2, 5] (by decide)⟩
    · have hF := iteB_f c25 hF
      have hR := Option.some.inj hF
      subst hR
      refine (WP_skip (thenQ_n (And.intro ?_ ?_)))
      · repeat' (first | with_reducible exact Fr_refl | refine Fr_upd rfl ?_ | refine Fr_over rfl rfl ?_)
      · exact ⟨(), Sl_nil, H.pick [3, 0, 4, 1, 2, 5] (by decide)⟩
  · rintro _ ρ w22 H
    have hF := hK23
    refine WP_seq_k fun K27 hK27 => ?_
    refine WP_mix [.pure, .read, .pure, .read, .pure, .read, .pure, .pure, .pure, .eff] mixed (by kernel_rfl) (by kernel_rfl) (by kernel_rfl) ?_
    refine XL_pure rfl rfl rfl (fun w' => fa24_2 rfl) ?_
    refine XL_read rfl rfl rfl (fun w' hw' => Do_load one3 rfl (Cells.get (Blk.cells ((H.sees hw').item (i := 0) rfl)) (i := 2) rfl)) ?_
    refine XL_pure rfl rfl rfl (fun w' => fa24_2 rfl) ?_
    refine XL_read rfl rfl rfl (fun w' hw' => Do_load one3 rfl (Cells.get (Blk.cells ((H.sees hw').item (i := 0) rfl)) (i := 2) rfl)) ?_
    refine XL_pure rfl rfl rfl (fun w' => fa34_1 rfl) ?_
    refine XL_read rfl rfl rfl (fun w' hw' => Do_load one3 rfl (Cells.get (Blk.cells ((H.sees hw').item (i := 2) rfl)) (i := 1) rfl)) ?_
    obtain ⟨x28, e29, hF⟩ := bindO_some hF
    refine XL_pure rfl rfl rfl (fun w' => Do_rem' (j := p0.Day) (q := p1.Days) rfl rfl e29) ?_
    obtain ⟨x30, e31, hF⟩ := letO_some hF
    refine XL_pure rfl rfl rfl (fun w' => Do_sub (a := p0.Day) (b := x28) rfl rfl e31) ?_
    refine XL_pure rfl rfl rfl (fun w' => fa24_2 rfl) ?_
    refine XL_exU rfl rfl (fun w' hw' => Lx_store1 (H.sees hw') 0 rfl sz3 rfl (v := .int .i64 x30) rfl rfl rfl) ?_
    rintro w' w32 hw' H
    refine XL_nil fun w33 hS => ?_
    have H := H.sees hS
    refine (thenQ_n (hK27 _ _ ?_))
    refine WP_seq_k fun K34 hK34 => ?_
    refine WP_region ?_
    refine RL_do rfl rfl (Do_assign (v := .slice none 0 0) rfl) ?_
    refine (RL_nil (thenQ_n (hK34 _ _ ?_)))
    obtain ⟨g22387, hF, hK22390⟩ := bindO_some hF
    refine WP_seqS [5, 7, 9, 10, 11, 24, 25, 26, 27, 28, 29, 30, 31, 32, 33, 34, 35, 36, 37, 38, 39, 40, 41, 42, 43, 44, 45, 46, 47, 48, 49, 50, 51, 52, 53, 54, 55, 56, 57, 58, 59, 60, 61, 62, 63, 64, 65, 66, 67, 68, 69, 70, 71, 72, 73, 74, 75, 76, 77, 78, 79, 80, 81, 82, 83] (fun (g : Value) => [(5, g)]) (fun g wl => Hd O w wl S [.own rTrack g 60 g22387, .blk b9 [.string (bs g21), .string (bs p0.Route), .int .i64 x30, .int .i64 p0.From, .int .i64 p0.To, v1] 24, .fz (.sl rTrack v1 p0.Tracks), .blk b15 [.string (bs []), .string (bs []), .int .i64 0, .int .i64 0, .int .i64 0, .slice none 0 0] 24]) ?_ ?_
    · skip
      refine WP_seq_k fun K22391 hK22391 => ?_
      refine WP_region ?_
      refine RL_do rfl rfl (fa24_5 rfl) ?_
      refine RL_do rfl rfl (Do_load one22 rfl (Cells.get (Blk.cells (H.item (i := 0) rfl)) (i := 5) rfl)) ?_
      obtain ⟨x22392, e22393, hF⟩ := letO_some hF
      obtain ⟨a22394, c22395, q22396⟩ := SlF.len ((H.item (i := 1) rfl))
      refine RL_do rfl rfl (Do_as (Do_len u22 q22396) (congrArg (Value.int .i64) e22393)) ?_
      refine RL_do rfl rfl (Do_move (v := .int .i64 0) rfl) ?_
      refine (RL_nil (thenQ_n (hK22391 _ _ ?_)))
      refine WP_block ?_
      have H := own_nil H rTrack 60
      unfold F_fleet_masked_L1 at hF
      obtain ⟨B37294, n37295, eB37296, hF⟩ := loopO_some hF
      refine WP_loopS [5, 7, 9, 10, 11, 27, 28, 29, 30, 31, 32, 33, 34, 35, 36, 37, 38, 39, 40, 41, 42, 43, 44, 45, 46, 47, 48, 49, 50, 51, 52, 53, 54, 55, 56, 57, 58, 59, 60, 61, 62, 63, 64, 65, 66, 67, 68, 69, 70, 71, 72, 73, 74, 75, 76, 77, 78, 79, 80, 81, 82, 83] (fun (g : Nat × (List Track) × Int × Value) => [(5, g.2.2.2), (27, .int .i64 g.2.2.1)]) (fun g wl => Hd O w wl S [.own rTrack g.2.2.2 60 g.2.1, .blk b9 [.string (bs g21), .string (bs p0.Route), .int .i64 x30, .int .i64 p0.From, .int .i64 p0.To, v1] 24, .fz (.sl rTrack v1 p0.Tracks), .blk b12 [.bool p1.Tails, .int .i64 p1.Days, v3, v4, .int .i64 p1.Least] 34, .fz (.sl Rp.str v3 p1.Hide), .fz (.sl rGrain v4 p1.Grains), .blk b15 [.string (bs []), .string (bs []), .int .i64 0, .int .i64 0, .int .i64 0, .slice none 0 0] 24] ∧ loopN B37294 g.1 (g.2.1, g.2.2.1) = some g22387) (fun g => g.1) (n37295, [], 0, .slice none 0 0) (Sl_cons rfl (Sl_cons rfl Sl_nil)) ⟨H.pick [6, 0, 1, 2, 3, 4, 5] (by decide), hF⟩ ?_
      clear H hF
      rintro ⟨n37295, g37290, g37292, v37291⟩ ρ w37298 ⟨H, hF⟩
      obtain ⟨n37299, rfl, hF⟩ := loopN_pos hF
      have hF := loop_body eB37296 hF
      refine WP_seq_k fun K37300 hK37300 => ?_
      refine WP_region ?_
      obtain ⟨x37301, e37302, hF⟩ := letO_some hF
      refine RL_do rfl rfl (Do_as (Do_lss (a := g37292) (b := x22392) rfl rfl) (congrArg Value.bool e37302)) ?_
      refine (RL_nil (thenQ_n (hK37300 _ _ ?_)))
      refine WP_seq_k fun K37304 hK37304 => ?_
      refine WP_ifb (b := x37301) rfl (fun c37305 => ?_) (fun c37305 => ?_)
      · have hF := iteB_t c37305 hF
        refine (WP_skip (thenQ_n (hK37304 _ _ ?_)))
        obtain ⟨g41021, hF, hK41024⟩ := bindO_some hF
        refine WP_seqS [5, 7, 9, 10, 11, 29, 30, 31, 32, 33, 34, 35, 36, 37, 38, 39, 40, 41, 42, 43, 44, 45, 46, 47, 48, 49, 50, 51, 52, 53, 54, 55, 56, 57, 58, 59, 60, 61, 62, 63, 64, 65, 66, 67, 68, 69, 70, 71, 72, 73, 74, 75, 76, 77, 78, 79, 80, 81, 82] (fun (g : Value) => [(5, g)]) (fun g wl => Hd O w wl S [.own rTrack g 60 g41021, .blk b9 [.string (bs g21), .string (bs p0.Route), .int .i64 x30, .int .i64 p0.From, .int .i64 p0.To, v1] 24, .fz (.sl rTrack v1 p0.Tracks), .blk b12 [.bool p1.Tails, .int .i64 p1.Days, v3, v4, .int .i64 p1.Least] 34, .fz (.sl Rp.str v3 p1.Hide), .fz (.sl rGrain v4 p1.Grains), .blk b15 [.string (bs []), .string (bs []), .int .i64 0, .int .i64 0, .int .i64 0, .slice none 0 0] 24]) ?_ ?_
        · skip
          refine WP_block ?_
          refine WP_seq_k fun K41025 hK41025 => ?_
          refine WP_region ?_
          obtain ⟨x41026, e41027, hF⟩ := bindO_some hF
          obtain ⟨b41028, o41029, c41030, cs41031, q41032, h41035, h41033, h41034, h41036⟩ := rd_at (H.item (i := 2) rfl) e41027
          obtain ⟨v41037, rfl, h41038⟩ := rTrack_open h41035
          have H := H.fzs [.at b41028 (o41029 + g37292.toNat * 4) _, .sl rSample v41037 x41026.Series.Samples] ⟨⟨h41033, h41034, h41036⟩, h41038, trivial⟩
          refine RL_do rfl rfl (Do_idx u22 sz60 q41032 rfl (at_some e41027).1 (at_some e41027).2.1 rfl rfl) ?_
          refine RL_do rfl rfl (Do_as (Do_loads (cs := [.string (bs x41026.Name), .int .i64 x41026.Series.Den, v41037, .int .i64 x41026.Long]) agg60 rfl sz60 rfl (H.item (i := 7) rfl).2.2) rfl) ?_
          refine RL_ex rfl rfl (Lx_alloc zero60 H) ?_
          rintro _ w41043 ⟨b41041, rfl, H⟩
          refine RL_exU rfl (Lx_storeN (vs := [.string (bs x41026.Name), .int .i64 x41026.Series.Den, v41037, .int .i64 x41026.Long]) H 9 rfl sz60 rfl rfl rfl ⟨rfl, rfl, (slf_one (H.item (i := 8) rfl)), rfl, trivial⟩ rfl) ?_
          rintro w41044 H
          refine (RL_nil (thenQ_n (hK41025 _ _ ?_)))
          refine WP_seq_k fun K41051 hK41051 => ?_
          refine WP_seq_k fun K41052 hK41052 => ?_
          refine WP_region ?_
          refine RL_do rfl rfl (fa34_2 rfl) ?_
          refine RL_do rfl rfl (Do_load one32 rfl (Cells.get (Blk.cells (H.item (i := 3) rfl)) (i := 2) rfl)) ?_
          refine RL_do rfl rfl (fa60_0 rfl) ?_
          refine RL_do rfl rfl (Do_load one9 rfl (Cells.get (Blk.cells (H.item (i := 9) rfl)) (i := 0) rfl)) ?_
          obtain ⟨x41053, e41054, hF⟩ := bindO_some hF
          refine RL_call rfl rfl (DoC_func en28 rfl) (F_slices_Contains___string_string__w p1.Hide x41026.Name v3 _ e41054 _ _ _ (H.enter [] [4] (by decide) rfl)) ?_
          rintro _ w41055 ⟨rfl, G41056⟩
          have H := H.back0 [4] rfl G41056
          refine ⟨_, rfl, ?_⟩
          refine (RL_nil (thenQ_n (hK41052 _ _ ?_)))
          refine WP_ifb (b := x41053) rfl (fun c41057 => ?_) (fun c41057 => ?_)
          · have hF := iteB_t c41057 hF
            have hR := Option.some.inj hF
            subst hR
            refine (WP_exit (thenQ_x (blockQ_eq (thenQ_n (And.intro ?_ ?_)))))
            · repeat' (first | with_reducible exact Fr_refl | refine Fr_upd rfl ?_ | refine Fr_over rfl rfl ?_)
            · exact ⟨v37291, (Sl_cons rfl Sl_nil), H.pick [0, 1, 2, 3, 4, 5, 6] (by decide)⟩
          · have hF := iteB_f c41057 hF
            refine (WP_skip (thenQ_n (hK41051 _ _ ?_)))
            refine WP_seq_k fun K41058 hK41058 => ?_
            refine WP_region ?_
            refine RL_do rfl rfl (fa60_1 rfl) ?_
            refine RL_do rfl rfl (fa58_1 rfl) ?_
            refine RL_do rfl rfl (Do_load one56 rfl (Cells.get (Blk.cells (H.item (i := 9) rfl)) (i := 2) rfl)) ?_
            obtain ⟨x41059, e41060, hF⟩ := bindO_some hF
            refine RL_call rfl rfl (DoC_func en29 rfl) (F_slices_Clone___api_Sample_api_Sample__w x41026.Series.Samples v41037 _ e41060 _ _ _ (H.enter [] [8] (by decide) rfl)) ?_
            rintro _ w41063 ⟨v41061, rfl, G41064⟩
            have H := H.back1 [8] rfl G41064
            refine ⟨_, rfl, ?_⟩
            refine RL_do rfl rfl (fa60_1 rfl) ?_
            refine RL_do rfl rfl (fa58_1 rfl) ?_
            refine RL_exU rfl (Lx_store1 H 9 rfl sz56 rfl (v := v41061) rfl (own_one (H.item (i := 10) rfl)) rfl) ?_
            rintro w41065 H
            refine (RL_nil (thenQ_n (hK41058 _ _ ?_)))
            obtain ⟨g42897, hF, hK42899⟩ := bindO_some hF
            refine WP_seqS [9, 10, 11, 42, 43, 44, 45, 46, 47, 48, 49, 50, 51, 52, 53, 54, 55, 56, 57, 58, 59, 60, 61, 62, 63, 64, 65, 66, 67, 68, 69, 70, 71, 72, 73, 74, 75, 76, 77, 78] (fun (g : Unit) => []) (fun g wl => Hd O w wl S [.own rTrack v37291 60 g37290, .blk b9 [.string (bs g21), .string (bs p0.Route), .int .i64 x30, .int .i64 p0.From, .int .i64 p0.To, v1] 24, .fz (.sl rTrack v1 p0.Tracks), .blk b12 [.bool p1.Tails, .int .i64 p1.Days, v3, v4, .int .i64 p1.Least] 34, .fz (.sl Rp.str v3 p1.Hide), .fz (.sl rGrain v4 p1.Grains), .blk b15 [.string (bs []), .string (bs []), .int .i64 0, .int .i64 0, .int .i64 0, .slice none 0 0] 24, .blk b41041 [.string (bs x41026.Name), .int .i64 x41026.Series.Den, v41061, .int .i64 x41026.Long] 60, .own rSample v41061 62 g42897]) ?_ ?_
            · skip
              refine WP_seq_k fun K42900 hK42900 => ?_
              refine WP_region ?_
              refine RL_do rfl rfl (fa34_3 rfl) ?_
              refine RL_do rfl rfl (Do_load one31 rfl (Cells.get (Blk.cells (H.item (i := 3) rfl)) (i := 3) rfl)) ?_
              obtain ⟨x42901, e42902, hF⟩ := letO_some hF
              obtain ⟨a42903, c42904, q42905⟩ := SlF.len ((H.item (i := 5) rfl))
              refine RL_do rfl rfl (Do_as (Do_len u31 q42905) (congrArg (Value.int .i64) e42902)) ?_
              refine RL_do rfl rfl (Do_move (v := .int .i64 0) rfl) ?_
              refine (RL_nil (thenQ_n (hK42900 _ _ ?_)))
              refine WP_block ?_
              unfold F_fleet_masked_L2 at hF
              obtain ⟨B44120, n44121, eB44122, hF⟩ := loopO_some hF
              refine WP_loopS [9, 10, 11, 45, 46, 47, 48, 49, 50, 51, 52, 53, 54, 55, 56, 57, 58, 59, 60, 61, 62, 63, 64, 65, 66, 67, 68, 69, 70, 71, 72, 73, 74, 75, 76, 77, 78] (fun (g : Nat × Int × (List Sample)) => [(45, .int .i64 g.2.1)]) (fun g wl => Hd O w wl S [.own rTrack v37291 60 g37290, .blk b9 [.string (bs g21), .string (bs p0.Route), .int .i64 x30, .int .i64 p0.From, .int .i64 p0.To, v1] 24, .fz (.sl rTrack v1 p0.Tracks), .blk b12 [.bool p1.Tails, .int .i64 p1.Days, v3, v4, .int .i64 p1.Least] 34, .fz (.sl Rp.str v3 p1.Hide), .fz (.sl rGrain v4 p1.Grains), .blk b15 [.string (bs []), .string (bs []), .int .i64 0, .int .i64 0, .int .i64 0, .slice none 0 0] 24, .blk b41041 [.string (bs x41026.Name), .int .i64 x41026.Series.Den, v41061, .int .i64 x41026.Long] 60, .own rSample v41061 62 g.2.2] ∧ loopN B44120 g.1 (g.2.1, g.2.2) = some g42897) (fun g => g.1) (n44121, 0, x41059) (Sl_cons rfl Sl_nil) ⟨H.pick [0, 1, 2, 3, 4, 5, 6, 9, 10] (by decide), hF⟩ ?_
              clear H hF
              rintro ⟨n44121, g44118, g44119⟩ ρ w44124 ⟨H, hF⟩
              obtain ⟨n44125, rfl, hF⟩ := loopN_pos hF
              have hF := loop_body eB44122 hF
              refine WP_seq_k fun K44126 hK44126 => ?_
              refine WP_region ?_
              obtain ⟨x44127, e44128, hF⟩ := letO_some hF
              refine RL_do rfl rfl (Do_as (Do_lss (a := g44118) (b := x42901) rfl rfl) (congrArg Value.bool e44128)) ?_
              refine (RL_nil (thenQ_n (hK44126 _ _ ?_)))
              refine WP_seq_k fun K44130 hK44130 => ?_
              refine WP_ifb (b := x44127) rfl (fun c44131 => ?_) (fun c44131 => ?_)
              · have hF := iteB_t c44131 hF
                refine (WP_skip (thenQ_n (hK44130 _ _ ?_)))
                obtain ⟨g44429, hF, hK44431⟩ := bindO_some hF
                refine WP_seqS [9, 10, 11, 47, 48, 49, 50, 51, 52, 53, 54, 55, 56, 57, 58, 59, 60, 61, 62, 63, 64, 65, 66, 67, 68, 69, 70, 71, 72, 73, 74, 75, 76, 77] (fun (g : Unit) => []) (fun g wl => Hd O w wl S [.own rTrack v37291 60 g37290, .blk b9 [.string (bs g21), .string (bs p0.Route), .int .i64 x30, .int .i64 p0.From, .int .i64 p0.To, v1] 24, .fz (.sl rTrack v1 p0.Tracks), .blk b12 [.bool p1.Tails, .int .i64 p1.Days, v3, v4, .int .i64 p1.Least] 34, .fz (.sl Rp.str v3 p1.Hide), .fz (.sl rGrain v4 p1.Grains), .blk b15 [.string (bs []), .string (bs []), .int .i64 0, .int .i64 0, .int .i64 0, .slice none 0 0] 24, .blk b41041 [.string (bs x41026.Name), .int .i64 x41026.Series.Den, v41061, .int .i64 x41026.Long] 60, .own rSample v41061 62 g44429]) ?_ ?_
                · skip
                  refine WP_block ?_
                  refine WP_seq_k fun K44432 hK44432 => ?_
                  refine WP_region ?_
                  obtain ⟨x44433, e44434, hF⟩ := bindO_some hF
                  obtain ⟨b44435, o44436, c44437, cs44438, q44439, h44442, h44440, h44441, h44443⟩ := rd_at (H.item (i := 5) rfl) e44434
                  obtain rfl := rGrain_open h44442
                  have H := H.fz (.at b44435 (o44436 + g44118.toNat * 2) _) ⟨h44440, h44441, h44443⟩
                  refine RL_do rfl rfl (Do_idx u31 sz30 q44439 rfl (at_some e44434).1 (at_some e44434).2.1 rfl rfl) ?_
                  refine RL_do rfl rfl (Do_as (Do_loads (cs := [.string (bs x44433.Track), .int .i64 x44433.N]) agg30 rfl sz30 rfl (H.item (i := 9) rfl).2.2) rfl) ?_
                  refine RL_ex rfl rfl (Lx_alloc zero30 H) ?_
                  rintro _ w44447 ⟨b44445, rfl, H⟩
                  refine RL_exU rfl (Lx_storeN (vs := [.string (bs x44433.Track), .int .i64 x44433.N]) H 10 rfl sz30 rfl rfl rfl ⟨rfl, rfl, trivial⟩ rfl) ?_
                  rintro w44448 H
                  refine (RL_nil (thenQ_n (hK44432 _ _ ?_)))
                  refine WP_seq_k fun K44453 hK44453 => ?_
                  refine WP_seq_k fun K44454 hK44454 => ?_
                  refine WP_region ?_
                  refine RL_do rfl rfl (fa30_0 rfl) ?_
                  refine RL_do rfl rfl (Do_load one9 rfl (Cells.get (Blk.cells (H.item (i := 10) rfl)) (i := 0) rfl)) ?_
                  refine RL_do rfl rfl (fa60_0 rfl) ?_
                  refine RL_do rfl rfl (Do_load one9 rfl (Cells.get (Blk.cells (H.item (i := 7) rfl)) (i := 0) rfl)) ?_
                  obtain ⟨x44455, e44456, hF⟩ := letO_some hF
                  refine RL_do rfl rfl (Do_as (Do_neqs (s1 := x44433.Track) (s2 := x41026.Name) rfl rfl) (congrArg Value.bool e44456)) ?_
                  refine (RL_nil (thenQ_n (hK44454 _ _ ?_)))
                  refine WP_ifb (b := x44455) rfl (fun c44457 => ?_) (fun c44457 => ?_)
                  · have hF := iteB_t c44457 hF
                    have hR := Option.some.inj hF
                    subst hR
                    refine (WP_exit (thenQ_x (blockQ_eq (thenQ_n (And.intro ?_ ?_)))))
                    · repeat' (first | with_reducible exact Fr_refl | refine Fr_upd rfl ?_ | refine Fr_over rfl rfl ?_)
                    · exact ⟨(), Sl_nil, H.pick [0, 1, 2, 3, 4, 5, 6, 7, 8] (by decide)⟩
                  · have hF := iteB_f c44457 hF
                    refine (WP_skip (thenQ_n (hK44453 _ _ ?_)))
                    refine WP_seq_k fun K44458 hK44458 => ?_
                    refine WP_region ?_
                    refine RL_do rfl rfl (fa60_1 rfl) ?_
                    refine RL_do rfl rfl (fa58_1 rfl) ?_
                    refine RL_do rfl rfl (Do_load one56 rfl (Cells.get (Blk.cells (H.item (i := 7) rfl)) (i := 2) rfl)) ?_
                    obtain ⟨x44459, e44460, hF⟩ := letO_some hF
                    obtain ⟨a44461, c44462, q44463⟩ := Sr.len (Sr.of_own (H.item (i := 8) rfl))
                    refine RL_do rfl rfl (Do_as (Do_len u56 q44463) (congrArg (Value.int .i64) e44460)) ?_
                    refine RL_do rfl rfl (Do_move (v := .int .i64 0) rfl) ?_
                    refine (RL_nil (thenQ_n (hK44458 _ _ ?_)))
                    refine WP_block ?_
                    unfold F_fleet_masked_L3 at hF
                    obtain ⟨B44638, n44639, eB44640, hF⟩ := loopO_some hF
                    refine WP_loopS [10, 11, 58, 59, 60, 61, 62, 63, 64, 65, 66, 67, 68, 69, 70, 71, 72, 73, 74, 75, 76, 77] (fun (g : Nat × Int × (List Sample)) => [(58, .int .i64 g.2.1)]) (fun g wl => Hd O w wl S [.own rTrack v37291 60 g37290, .blk b9 [.string (bs g21), .string (bs p0.Route), .int .i64 x30, .int .i64 p0.From, .int .i64 p0.To, v1] 24, .fz (.sl rTrack v1 p0.Tracks), .blk b12 [.bool p1.Tails, .int .i64 p1.Days, v3, v4, .int .i64 p1.Least] 34, .fz (.sl Rp.str v3 p1.Hide), .fz (.sl rGrain v4 p1.Grains), .blk b15 [.string (bs []), .string (bs []), .int .i64 0, .int .i64 0, .int .i64 0, .slice none 0 0] 24, .blk b41041 [.string (bs x41026.Name), .int .i64 x41026.Series.Den, v41061, .int .i64 x41026.Long] 60, .own rSample v41061 62 g.2.2, .blk b44445 [.string (bs x44433.Track), .int .i64 x44433.N] 30] ∧ loopN B44638 g.1 (g.2.1, g.2.2) = some g44429) (fun g => g.1) (n44639, 0, g44119) (Sl_cons rfl Sl_nil) ⟨H.pick [0, 1, 2, 3, 4, 5, 6, 7, 8, 10] (by decide), hF⟩ ?_
                    clear H hF
                    rintro ⟨n44639, g44636, g44637⟩ ρ w44642 ⟨H, hF⟩
                    obtain ⟨n44643, rfl, hF⟩ := loopN_pos hF
                    have hF := loop_body eB44640 hF
                    refine WP_seq_k fun K44644 hK44644 => ?_
                    refine WP_region ?_
                    obtain ⟨x44645, e44646, hF⟩ := letO_some hF
                    refine RL_do rfl rfl (Do_as (Do_lss (a := g44636) (b := x44459) rfl rfl) (congrArg Value.bool e44646)) ?_
                    refine (RL_nil (thenQ_n (hK44644 _ _ ?_)))
                    refine WP_seq_k fun K44648 hK44648 => ?_
                    refine WP_ifb (b := x44645) rfl (fun c44649 => ?_) (fun c44649 => ?_)
                    · have hF := iteB_t c44649 hF
                      refine (WP_skip (thenQ_n (hK44648 _ _ ?_)))
                      obtain ⟨g44687, hF, hK44689⟩ := bindO_some hF
                      refine WP_seqS [10, 11, 60, 61, 62, 63, 64, 65, 66, 67, 68, 69, 70, 71, 72, 73, 74, 75, 76] (fun (g : Unit) => []) (fun g wl => Hd O w wl S [.own rTrack v37291 60 g37290, .blk b9 [.string (bs g21), .string (bs p0.Route), .int .i64 x30, .int .i64 p0.From, .int .i64 p0.To, v1] 24, .fz (.sl rTrack v1 p0.Tracks), .blk b12 [.bool p1.Tails, .int .i64 p1.Days, v3, v4, .int .i64 p1.Least] 34, .fz (.sl Rp.str v3 p1.Hide), .fz (.sl rGrain v4 p1.Grains), .blk b15 [.string (bs []), .string (bs []), .int .i64 0, .int .i64 0, .int .i64 0, .slice none 0 0] 24, .blk b41041 [.string (bs x41026.Name), .int .i64 x41026.Series.Den, v41061, .int .i64 x41026.Long] 60, .own rSample v41061 62 g44687, .blk b44445 [.string (bs x44433.Track), .int .i64 x44433.N] 30]) ?_ ?_
                      · skip
                        refine WP_block ?_
                        refine WP_seq_k fun K44690 hK44690 => ?_
                        refine WP_region ?_
                        refine RL_do rfl rfl (Do_move (v := .int .i64 g44636) rfl) ?_
                        obtain ⟨x44691, e44692, hF⟩ := bindO_some hF
                        obtain ⟨b44693, c44695, cs44696, q44697, h44700, h44701⟩ := own_at (H.item (i := 8) rfl) e44692
                        obtain rfl := rSample_open h44700
                        refine RL_do rfl rfl (Do_idx u56 sz62 q44697 rfl (at_some e44692).1 (at_some e44692).2.1 rfl rfl) ?_
                        refine RL_do rfl rfl (Do_as (Do_loads (cs := [.int .i64 x44691.At, .int .i64 x44691.N, .int .i64 x44691.Mark]) agg62 rfl sz62 rfl h44701) rfl) ?_
                        refine RL_ex rfl rfl (Lx_alloc zero62 H) ?_
                        rintro _ w44704 ⟨b44702, rfl, H⟩
                        refine RL_do rfl rfl (Do_assign (v := .int .i64 g44636) rfl) ?_
                        refine RL_exU rfl (Lx_storeN (vs := [.int .i64 x44691.At, .int .i64 x44691.N, .int .i64 x44691.Mark]) H 10 rfl sz62 rfl rfl rfl ⟨rfl, rfl, rfl, trivial⟩ rfl) ?_
                        rintro w44705 H
                        refine (RL_nil (thenQ_n (hK44690 _ _ ?_)))
                        refine WP_seq_k fun K44706 hK44706 => ?_
                        refine WP_region ?_
                        refine RL_do rfl rfl (fa62_2 rfl) ?_
                        refine RL_do rfl rfl (Do_load one3 rfl (Cells.get (Blk.cells (H.item (i := 10) rfl)) (i := 2) rfl)) ?_
                        obtain ⟨x44707, e44708, hF⟩ := letO_some hF
                        refine RL_do rfl rfl (Do_as (Do_geq (a := x44691.Mark) (b := 2) rfl rfl) (congrArg Value.bool e44708)) ?_
                        refine (RL_nil (thenQ_n (hK44706 _ _ ?_)))
                        refine WP_ifb (b := x44707) rfl (fun c44709 => ?_) (fun c44709 => ?_)
                        · have hF := iteB_t c44709 hF
                          refine WP_mix [.pure, .pure, .read, .pure, .pure, .read, .pure, .read, .read, .pure, .pure, .eff] mixed (by kernel_rfl) (by kernel_rfl) (by kernel_rfl) ?_
                          refine XL_pure rfl rfl rfl (fun w' => fa60_1 rfl) ?_
                          refine XL_pure rfl rfl rfl (fun w' => fa58_1 rfl) ?_
                          refine XL_read rfl rfl rfl (fun w' hw' => Do_load one56 rfl (Cells.get (Blk.cells ((H.sees hw').item (i := 7) rfl)) (i := 2) rfl)) ?_
                          refine XL_pure rfl rfl rfl (fun w' => Do_move (v := .int .i64 g44636) rfl) ?_
                          refine XL_pure rfl rfl rfl (fun w' => fa62_1 rfl) ?_
                          refine XL_read rfl rfl rfl (fun w' hw' => Do_load one3 rfl (Cells.get (Blk.cells ((H.sees hw').item (i := 10) rfl)) (i := 1) rfl)) ?_
                          refine XL_pure rfl rfl rfl (fun w' => fa30_1 rfl) ?_
                          refine XL_read rfl rfl rfl (fun w' hw' => Do_load one3 rfl (Cells.get (Blk.cells ((H.sees hw').item (i := 9) rfl)) (i := 1) rfl)) ?_
                          obtain ⟨x44710, e44711, hF⟩ := bindO_some hF
                          refine XL_call rfl rfl rfl (v := .int .i64 x44710) (fun w' hw' => DoC_func en30 rfl) (fun w' hw' => call_read (F_fleet_coarse_w x44691.N x44433.N _ e44711 _ _ _ ((H.sees hw').enter [] [] (by decide) rfl))) ?_
                          obtain ⟨x44712, e44713, hF⟩ := bindO_some hF
                          obtain ⟨b44714, c44716, cs44717, q44718, h44721, h44722⟩ := own_at (H.item (i := 8) rfl) e44713
                          obtain rfl := rSample_open h44721
                          refine XL_pure rfl rfl rfl (fun w' => Do_idx u56 sz62 q44718 rfl (at_some e44713).1 (at_some e44713).2.1 rfl rfl) ?_
                          refine XL_pure rfl rfl rfl (fun w' => fa62_1 rfl) ?_
                          obtain ⟨x44723, e44724, hF⟩ := bindO_some hF
                          refine XL_exU rfl rfl (fun w' hw' => Lx_own_store (vs := [.int .i64 x44710]) (off := 1) (H.sees hw') 8 rfl q44718 (h44722.sees hw') rfl sz3 rfl rfl rfl (allone_mem ⟨rfl, trivial⟩) e44724 (by decide) rfl (rSample_mk (x := Sample.mk x44712.At x44710 x44712.Mark))) ?_
                          rintro w' w44725 hw' H
                          refine XL_nil fun w44726 hS => ?_
                          have H := H.sees hS
                          have hR := Option.some.inj hF
                          subst hR
                          refine (blockQ_n (thenQ_n (And.intro ?_ ?_)))
                          · repeat' (first | with_reducible exact Fr_refl | refine Fr_upd rfl ?_ | refine Fr_over rfl rfl ?_)
                          · exact ⟨(), Sl_nil, H.pick [0, 1, 2, 3, 4, 5, 6, 7, 8, 9] (by decide)⟩
                        · have hF := iteB_f c44709 hF
                          have hR := Option.some.inj hF
                          subst hR
                          refine (WP_skip (blockQ_n (thenQ_n (And.intro ?_ ?_))))
                          · repeat' (first | with_reducible exact Fr_refl | refine Fr_upd rfl ?_ | refine Fr_over rfl rfl ?_)
                          · exact ⟨(), Sl_nil, H.pick [0, 1, 2, 3, 4, 5, 6, 7, 8, 9] (by decide)⟩
                      · rintro _ ρ w44688 H
                        have hF := hK44689
                        refine WP_region ?_
                        obtain ⟨x44727, e44728, hF⟩ := letO_some hF
                        refine RL_do rfl rfl (Do_add (a := g44636) (b := 1) rfl rfl e44728) ?_
                        refine RL_do rfl rfl (Do_move (v := .int .i64 x44727) rfl) ?_
                        refine (RL_nil (thenQ_n (And.intro ?_ ?_)))
                        · repeat' (first | with_reducible exact Fr_refl | refine Fr_upd rfl ?_ | refine Fr_over rfl rfl ?_)
                        · exact ⟨(n44643, x44727, g44687), (Sl_cons rfl Sl_nil), ⟨H.pick [0, 1, 2, 3, 4, 5, 6, 7, 8, 9] (by decide), hF⟩, Nat.lt_succ_self _⟩
                    · have hF := iteB_f c44649 hF
                      have hR := Option.some.inj hF
                      subst hR
                      refine (WP_exit (thenQ_x (thenQ_x (blockQ_eq (blockQ_n (thenQ_n (And.intro ?_ ?_)))))))
                      · repeat' (first | with_reducible exact Fr_refl | refine Fr_upd rfl ?_ | refine Fr_over rfl rfl ?_)
                      · exact ⟨(), Sl_nil, H.pick [0, 1, 2, 3, 4, 5, 6, 7, 8] (by decide)⟩
                · rintro _ ρ w44430 H
                  have hF := hK44431
                  refine WP_region ?_
                  obtain ⟨x44729, e44730, hF⟩ := letO_some hF
                  refine RL_do rfl rfl (Do_add (a := g44118) (b := 1) rfl rfl e44730) ?_
                  refine RL_do rfl rfl (Do_move (v := .int .i64 x44729) rfl) ?_
                  refine (RL_nil (thenQ_n (And.intro ?_ ?_)))
                  · repeat' (first | with_reducible exact Fr_refl | refine Fr_upd rfl ?_ | refine Fr_over rfl rfl ?_)
                  · exact ⟨(n44125, x44729, g44429), (Sl_cons rfl Sl_nil), ⟨H.pick [0, 1, 2, 3, 4, 5, 6, 7, 8] (by decide), hF⟩, Nat.lt_succ_self _⟩
              · have hF := iteB_f c44131 hF
                have hR := Option.some.inj hF
                subst hR
                refine (WP_exit (thenQ_x (thenQ_x (blockQ_eq (thenQ_n (And.intro ?_ ?_))))))
                · repeat' (first | with_reducible exact Fr_refl | refine Fr_upd rfl ?_ | refine Fr_over rfl rfl ?_)
                · exact ⟨(), Sl_nil, H.pick [0, 1, 2, 3, 4, 5, 6, 7, 8] (by decide)⟩
            · rintro _ ρ w42898 H
              have hF := hK42899
              refine WP_region ?_
              refine RL_do rfl rfl (Do_move (v := v37291) rfl) ?_
              refine RL_do rfl rfl (Do_as (Do_loads (cs := [.string (bs x41026.Name), .int .i64 x41026.Series.Den, v41061, .int .i64 x41026.Long]) agg60 rfl sz60 rfl (Blk.cells (H.item (i := 7) rfl))) rfl) ?_
              have H := H.freeze (i := 8) rfl
              obtain ⟨x44731, e44732, hF⟩ := letO_some hF
              subst e44732
              refine RL_ex rfl rfl (Lx_bs (r := rTrack) (xl := [Track.mk x41026.Name (Series.mk x41026.Series.Den g42897) x41026.Long]) (cs := [.string (bs x41026.Name), .int .i64 x41026.Series.Den, v41061, .int .i64 x41026.Long]) u22 el60 (by decide) (by decide) rfl (fillB_parts (vs := [.agg [.string (bs x41026.Name), .int .i64 x41026.Series.Den, v41061, .int .i64 x41026.Long].toArray]) (by decide) rfl rfl ⟨rfl, trivial⟩ rfl) H ⟨[.string (bs x41026.Name), .int .i64 x41026.Series.Den, v41061, .int .i64 x41026.Long], [], rfl, (rTrack_mk (x := Track.mk x41026.Name (Series.mk x41026.Series.Den g42897) x41026.Long) (H.item (i := 8) rfl)), rfl⟩) ?_
              rintro v44734 w44735 H
              obtain ⟨x44736, e44737, hF⟩ := bindO_some hF
              refine RL_ex rfl rfl (Lx_app H (i := 0) rfl u22 el60 rfl rfl (Sr.of_own (H.item (i := 9) rfl)) e44737) ?_
              rintro v44738 w44739 H
              refine RL_do rfl rfl (Do_assign (v := v44738) rfl) ?_
              have hR := Option.some.inj hF
              subst hR
              refine (RL_nil (blockQ_n (thenQ_n (And.intro ?_ ?_))))
              · repeat' (first | with_reducible exact Fr_refl | refine Fr_upd rfl ?_ | refine Fr_over rfl rfl ?_)
              · exact ⟨v44738, (Sl_cons rfl Sl_nil), H.pick [0, 1, 2, 3, 4, 5, 6] (by decide)⟩
        · rintro v41022 ρ w41023 H
          have hF := hK41024
          refine WP_region ?_
          obtain ⟨x44740, e44741, hF⟩ := letO_some hF
          refine RL_do rfl rfl (Do_add (a := g37292) (b := 1) rfl rfl e44741) ?_
          refine RL_do rfl rfl (Do_move (v := .int .i64 x44740) rfl) ?_
          refine (RL_nil (thenQ_n (And.intro ?_ ?_)))
          · repeat' (first | with_reducible exact Fr_refl | refine Fr_upd rfl ?_ | refine Fr_over rfl rfl ?_)
          · exact ⟨(n37299, g41021, x44740, v41022), (Sl_cons rfl (Sl_cons rfl Sl_nil)), ⟨H.pick [0, 1, 2, 3, 4, 5, 6] (by decide), hF⟩, Nat.lt_succ_self _⟩
      · have hF := iteB_f c37305 hF
        have hR := Option.some.inj hF
        subst hR
        refine (WP_exit (thenQ_x (thenQ_x (blockQ_eq (thenQ_n (And.intro ?_ ?_))))))
        · repeat' (first | with_reducible exact Fr_refl | refine Fr_upd rfl ?_ | refine Fr_over rfl rfl ?_)
        · exact ⟨v37291, (Sl_cons rfl Sl_nil), H.pick [0, 1, 2, 6] (by decide)⟩
    · rintro v22388 ρ w22389 H
      have hF := hK22390
      refine WP_seq_k fun K44742 hK44742 => ?_
      refine WP_region ?_
      refine RL_do rfl rfl (Do_move (v := v22388) rfl) ?_
      refine RL_do rfl rfl (fa24_5 rfl) ?_
      refine RL_exU rfl (Lx_store1 H 1 rfl sz22 rfl (v := v22388) rfl (own_one (H.item (i := 0) rfl)) rfl) ?_
      rintro w44743 H
      refine (RL_nil (thenQ_n (hK44742 _ _ ?_)))
      refine WP_seq_k fun K44744 hK44744 => ?_
      refine WP_region ?_
      refine RL_do rfl rfl (Do_as (Do_loads (cs := [.string (bs g21), .string (bs p0.Route), .int .i64 x30, .int .i64 p0.From, .int .i64 p0.To, v22388]) agg24 rfl sz24 rfl (Blk.cells (H.item (i := 1) rfl))) rfl) ?_
      refine RL_exU rfl (Lx_storeN (vs := [.string (bs g21), .string (bs p0.Route), .int .i64 x30, .int .i64 p0.From, .int .i64 p0.To, v22388]) H 3 rfl sz24 rfl rfl rfl ⟨rfl, rfl, rfl, rfl, rfl, (own_one (H.item (i := 0) rfl)), trivial⟩ rfl) ?_
      rintro w44745 H
      refine (RL_nil (thenQ_n (hK44744 _ _ ?_)))
      have H := H.freeze (i := 0) rfl
      have hR := Option.some.inj hF
      subst hR
      refine (WP_ret (postc  rfl rfl (run_loadVar_agg agg24 sz24 rfl (Blk.cells (H.item (i := 3) rfl))) ?_))
      exact ⟨v22388, rfl, H.pick [0] (by decide)⟩
end Go.Proofs.Ytbjhondbheijiaa
namespace Go.Proofs.Ytbjhondbheijiaa
open Go.RowKit Go.OB Go.Lf
/- orangebox/fleet.Masked -/
set_option maxHeartbeats 4000000 in
theorem F_fleet_Masked_w (p0 : Flight) (p1 : Mask) (v1 : Value) (v3 : Value) (v4 : Value) (r : Flight × Int) (hF : F_fleet_Masked p0 p1 = some r) (O S : List Nat) (w : World) (H : Hd O w w S [.fz (.sl rTrack v1 p0.Tracks), .fz (.sl Rp.str v3 p1.Hide), .fz (.sl rGrain v4 p1.Grains)]) :
    Calls Try.prog 7 ([.agg [.string (bs p0.Tail), .string (bs p0.Route), .int .i64 p0.Day, .int .i64 p0.From, .int .i64 p0.To, v1].toArray, .agg [.bool p1.Tails, .int .i64 p1.Days, v3, v4, .int .i64 p1.Least].toArray] : List Value).toArray w fun e w' => ∃ u7, e = .returned (.tuple #[.agg [.string (bs r.1.Tail), .string (bs r.1.Route), .int .i64 r.1.Day, .int .i64 r.1.From, .int .i64 r.1.To, u7].toArray, .int .i64 r.2]) ∧ Hd O w w' S [.fz (.sl rTrack u7 r.1.Tracks)] := by
  unfold F_fleet_Masked at hF
  refine calls_of_WP 23 Try.func7 rfl rfl rfl ?_
  refine WP_seq_k fun K8 hK8 => ?_
  refine WP_region ?_
  refine RL_ex rfl rfl (Lx_box (cs := [.string (bs p0.Tail), .string (bs p0.Route), .int .i64 p0.Day, .int .i64 p0.From, .int .i64 p0.To, v1]) rfl H) ?_
  rintro _ w11 ⟨b9, rfl, H⟩
  refine RL_ex rfl rfl (Lx_box (cs := [.bool p1.Tails, .int .i64 p1.Days, v3, v4, .int .i64 p1.Least]) rfl H) ?_
  rintro _ w14 ⟨b12, rfl, H⟩
  refine RL_ex rfl rfl (Lx_alloc zero24 H) ?_
  rintro _ w17 ⟨b15, rfl, H⟩
  refine RL_do rfl rfl (Do_assign (v := .int .i64 0) rfl) ?_
  refine (RL_nil (thenQ_n (hK8 _ _ ?_)))
  refine WP_seq_k fun K29 hK29 => ?_
  refine WP_seq_k fun K30 hK30 => ?_
  refine WP_region ?_
  refine RL_do rfl rfl (Do_as (Do_loads (cs := [.string (bs p0.Tail), .string (bs p0.Route), .int .i64 p0.Day, .int .i64 p0.From, .int .i64 p0.To, v1]) agg24 rfl sz24 rfl (Blk.cells (H.item (i := 3) rfl))) rfl) ?_
  obtain ⟨x31, e32, hF⟩ := bindO_some hF
  refine RL_call rfl rfl (DoC_func en8 rfl) (F_fleet_CheckFlight_w p0 v1 _ e32 _ _ _ (H.enter [] [0] (by decide) rfl)) ?_
  rintro _ w33 ⟨rfl, G34⟩
  have H := H.back0 [0] rfl G34
  refine ⟨_, rfl, ?_⟩
  refine RL_do rfl rfl (Do_assign (v := .int .i64 x31) rfl) ?_
  refine (RL_nil (thenQ_n (hK30 _ _ ?_)))
  refine WP_seq_k fun K35 hK35 => ?_
  refine WP_region ?_
  refine RL_do rfl rfl (Do_move (v := .int .i64 x31) rfl) ?_
  obtain ⟨x36, e37, hF⟩ := letO_some hF
  refine RL_do rfl rfl (Do_as (Do_neq (a := x31) (b := 0) rfl rfl) (congrArg Value.bool e37)) ?_
  refine (RL_nil (thenQ_n (hK35 _ _ ?_)))
  refine WP_ifb (b := x36) rfl (fun c38 => ?_) (fun c38 => ?_)
  · have hF := iteB_t c38 hF
    refine WP_seq_k fun K39 hK39 => ?_
    refine WP_region ?_
    refine RL_do rfl rfl (Do_build (cs := [.string (bs []), .string (bs []), .int .i64 0, .int .i64 0, .int .i64 0, .slice none 0 0]) bz24) ?_
    refine RL_do rfl rfl (Do_move (v := .int .i64 x31) rfl) ?_
    refine RL_exU rfl (Lx_storeN (vs := [.string (bs []), .string (bs []), .int .i64 0, .int .i64 0, .int .i64 0, .slice none 0 0]) H 5 rfl sz24 rfl rfl rfl ⟨rfl, rfl, rfl, rfl, rfl, rfl, trivial⟩ rfl) ?_
    rintro w40 H
    refine RL_do rfl rfl (Do_assign (v := .int .i64 x31) rfl) ?_
    refine (RL_nil (thenQ_n (hK39 _ _ ?_)))
    have H := H.fz (.sl rTrack (.slice none 0 0) []) SlF.nil
    have hR := Option.some.inj hF
    subst hR
    refine (WP_ret (thenQ_r (postc1 (v1 := .int .i64 x31) rfl rfl (run_loadVar_agg agg24 sz24 rfl (Blk.cells (H.item (i := 5) rfl))) rfl ?_)))
    exact ⟨.slice none 0 0, rfl, H.pick [6] (by decide)⟩
  · have hF := iteB_f c38 hF
    refine (WP_skip (thenQ_n (hK29 _ _ ?_)))
    refine WP_seq_k fun K53 hK53 => ?_
    refine WP_seq_k fun K54 hK54 => ?_
    refine WP_region ?_
    refine RL_do rfl rfl (Do_as (Do_loads (cs := [.bool p1.Tails, .int .i64 p1.Days, v3, v4, .int .i64 p1.Least]) agg34 rfl sz34 rfl (Blk.cells (H.item (i := 4) rfl))) rfl) ?_
    obtain ⟨x55, e56, hF⟩ := bindO_some hF
    refine RL_call rfl rfl (DoC_func en15 rfl) (F_fleet_CheckMask_w p1 v3 v4 _ e56 _ _ _ (H.enter [] [1, 2] (by decide) rfl)) ?_
    rintro _ w57 ⟨rfl, G58⟩
    have H := H.back0 [1, 2] rfl G58
    refine ⟨_, rfl, ?_⟩
    refine RL_do rfl rfl (Do_assign (v := .int .i64 x55) rfl) ?_
    refine (RL_nil (thenQ_n (hK54 _ _ ?_)))
    refine WP_seq_k fun K59 hK59 => ?_
    refine WP_region ?_
    refine RL_do rfl rfl (Do_move (v := .int .i64 x55) rfl) ?_
    obtain ⟨x60, e61, hF⟩ := letO_some hF
    refine RL_do rfl rfl (Do_as (Do_neq (a := x55) (b := 0) rfl rfl) (congrArg Value.bool e61)) ?_
    refine (RL_nil (thenQ_n (hK59 _ _ ?_)))
    refine WP_ifb (b := x60) rfl (fun c62 => ?_) (fun c62 => ?_)
    · have hF := iteB_t c62 hF
      refine WP_seq_k fun K63 hK63 => ?_
      refine WP_region ?_
      refine RL_do rfl rfl (Do_build (cs := [.string (bs []), .string (bs []), .int .i64 0, .int .i64 0, .int .i64 0, .slice none 0 0]) bz24) ?_
      refine RL_do rfl rfl (Do_move (v := .int .i64 x55) rfl) ?_
      refine RL_exU rfl (Lx_storeN (vs := [.string (bs []), .string (bs []), .int .i64 0, .int .i64 0, .int .i64 0, .slice none 0 0]) H 5 rfl sz24 rfl rfl rfl ⟨rfl, rfl, rfl, rfl, rfl, rfl, trivial⟩ rfl) ?_
      rintro w64 H
      refine RL_do rfl rfl (Do_assign (v := .int .i64 x55) rfl) ?_
      refine (RL_nil (thenQ_n (hK63 _ _ ?_)))
      have H := H.fz (.sl rTrack (.slice none 0 0) []) SlF.nil
      have hR := Option.some.inj hF
      subst hR
      refine (WP_ret (thenQ_r (postc1 (v1 := .int .i64 x55) rfl rfl (run_loadVar_agg agg24 sz24 rfl (Blk.cells (H.item (i := 5) rfl))) rfl ?_)))
      exact ⟨.slice none 0 0, rfl, H.pick [6] (by decide)⟩
    · have hF := iteB_f c62 hF
      refine (WP_skip (thenQ_n (hK53 _ _ ?_)))
      refine WP_seq_k fun K66 hK66 => ?_
      refine WP_region ?_
      refine RL_do rfl rfl (Do_as (Do_loads (cs := [.string (bs p0.Tail), .string (bs p0.Route), .int .i64 p0.Day, .int .i64 p0.From, .int .i64 p0.To, v1]) agg24 rfl sz24 rfl (Blk.cells (H.item (i := 3) rfl))) rfl) ?_
      refine RL_do rfl rfl (Do_as (Do_loads (cs := [.bool p1.Tails, .int .i64 p1.Days, v3, v4, .int .i64 p1.Least]) agg34 rfl sz34 rfl (Blk.cells (H.item (i := 4) rfl))) rfl) ?_
      obtain ⟨x67, e68, hF⟩ := bindO_some hF
      refine RL_call rfl rfl (DoC_func en16 rfl) (F_fleet_masked_w p0 p1 v1 v3 v4 _ e68 _ _ _ (H.enter [] [0, 1, 2] (by decide) rfl)) ?_
      rintro _ w71 ⟨v69, rfl, G72⟩
      have H := H.back1 [0, 1, 2] rfl G72
      refine ⟨_, rfl, ?_⟩
      refine RL_exU rfl (Lx_storeN (vs := [.string (bs x67.Tail), .string (bs x67.Route), .int .i64 x67.Day, .int .i64 x67.From, .int .i64 x67.To, v69]) H 5 rfl sz24 rfl rfl rfl ⟨rfl, rfl, rfl, rfl, rfl, (slf_one (H.item (i := 6) rfl)), trivial⟩ rfl) ?_
      rintro w73 H
      refine RL_do rfl rfl (Do_assign (v := .int .i64 0) rfl) ?_
      refine (RL_nil (thenQ_n (hK66 _ _ ?_)))
      have hR := Option.some.inj hF
      subst hR
      refine (WP_ret (postc1 (v1 := .int .i64 0) rfl rfl (run_loadVar_agg agg24 sz24 rfl (Blk.cells (H.item (i := 5) rfl))) rfl ?_))
      exact ⟨v69, rfl, H.pick [6] (by decide)⟩
end Go.Proofs.Ytbjhondbheijiaa
namespace Go.Proofs.Ytbjhondbheijiaa
open Go.RowKit Go.OB Go.Lf
/- orangebox/orangeboxlaw9.FleetPeakMatchesSpec -/
set_option maxHeartbeats 4000000 in
theorem F_law9_FleetPeakMatchesSpec_w (p0 : Flight) (p1 : Str) (p2 : Int) (v1 : Value) (r : Bool) (hF : F_law9_FleetPeakMatchesSpec p0 p1 p2 = some r) (O S : List Nat) (w : World) (H : Hd O w w S [.fz (.sl rTrack v1 p0.Tracks)]) :
    Calls Try.prog 3 ([.agg [.string (bs p0.Tail), .string (bs p0.Route), .int .i64 p0.Day, .int .i64 p0.From, .int .i64 p0.To, v1].toArray, .string (bs p1), .int .i64 p2] : List Value).toArray w fun e w' => e = .returned (.bool r) ∧ Hd O w w' S [] := by
  unfold F_law9_FleetPeakMatchesSpec at hF
  refine calls_of_WP 105 Try.func3 rfl rfl rfl ?_
  refine WP_seq_k fun K3 hK3 => ?_
  refine WP_region ?_
  refine RL_ex rfl rfl (Lx_box (cs := [.string (bs p0.Tail), .string (bs p0.Route), .int .i64 p0.Day, .int .i64 p0.From, .int .i64 p0.To, v1]) rfl H) ?_
  rintro _ w6 ⟨b4, rfl, H⟩
  refine RL_do rfl rfl (Do_assign (v := .bool false) rfl) ?_
  refine (RL_nil (thenQ_n (hK3 _ _ ?_)))
  refine WP_seq_k fun K7 hK7 => ?_
  refine WP_region ?_
  refine RL_do rfl rfl (Do_as (Do_loads (cs := [.string (bs p0.Tail), .string (bs p0.Route), .int .i64 p0.Day, .int .i64 p0.From, .int .i64 p0.To, v1]) agg24 rfl sz24 rfl (Blk.cells (H.item (i := 1) rfl))) rfl) ?_
  refine RL_do rfl rfl (Do_move (v := .string (bs p1)) rfl) ?_
  obtain ⟨⟨x8, x9, x10⟩, e11, hF⟩ := bindO_some hF
  refine RL_call rfl rfl (DoC_func en4 rfl) (F_fleet_Peak_w p0 p1 v1 _ e11 _ _ _ (H.enter [] [0] (by decide) rfl)) ?_
  rintro _ w12 ⟨rfl, G13⟩
  have H := H.back0 [0] rfl G13
  refine ⟨_, rfl, ?_⟩
  refine RL_do rfl rfl (Do_move (v := .tuple #[.int .i64 x8, .bool x9, .int .i64 x10]) rfl) ?_
  refine RL_do rfl rfl (Do_extract (v := .int .i64 x8) rfl rfl) ?_
  refine RL_do rfl rfl (Do_extract (v := .bool x9) rfl rfl) ?_
  refine RL_do rfl rfl (Do_extract (v := .int .i64 x10) rfl rfl) ?_
  refine RL_do rfl rfl (Do_assign (v := .int .i64 x8) rfl) ?_
  refine RL_do rfl rfl (Do_assign (v := .bool x9) rfl) ?_
  refine RL_do rfl rfl (Do_assign (v := .int .i64 x10) rfl) ?_
  refine (RL_nil (thenQ_n (hK7 _ _ ?_)))
  refine WP_seq_k fun K14 hK14 => ?_
  refine WP_region ?_
  refine RL_do rfl rfl (Do_as (Do_loads (cs := [.string (bs p0.Tail), .string (bs p0.Route), .int .i64 p0.Day, .int .i64 p0.From, .int .i64 p0.To, v1]) agg24 rfl sz24 rfl (Blk.cells (H.item (i := 1) rfl))) rfl) ?_
  refine RL_do rfl rfl (Do_move (v := .string (bs p1)) rfl) ?_
  obtain ⟨⟨x15, x16, x17⟩, e18, hF⟩ := bindO_some hF
  refine RL_call rfl rfl (DoC_func en5 rfl) (F_ref9_Peak_w p0 p1 v1 _ e18 _ _ _ (H.enter [] [0] (by decide) rfl)) ?_
  rintro _ w19 ⟨rfl, G20⟩
  have H := H.back0 [0] rfl G20
  refine ⟨_, rfl, ?_⟩
  refine RL_do rfl rfl (Do_move (v := .tuple #[.int .i64 x15, .bool x16, .int .i64 x17]) rfl) ?_
  refine RL_do rfl rfl (Do_extract (v := .int .i64 x15) rfl rfl) ?_
  refine RL_do rfl rfl (Do_extract (v := .bool x16) rfl rfl) ?_
  refine RL_do rfl rfl (Do_extract (v := .int .i64 x17) rfl rfl) ?_
  refine RL_do rfl rfl (Do_assign (v := .int .i64 x15) rfl) ?_
  refine RL_do rfl rfl (Do_assign (v := .bool x16) rfl) ?_
  refine RL_do rfl rfl (Do_assign (v := .int .i64 x17) rfl) ?_
  refine (RL_nil (thenQ_n (hK14 _ _ ?_)))
  refine WP_seq_k fun K42 hK42 => ?_
  obtain ⟨g51, hF, hK53⟩ := bindO_some hF
  refine WP_seqS [32, 33, 34, 35, 36, 37, 38, 39, 40, 41, 42, 43, 44] (fun (g : Unit) => [(44, .bool g51)]) (fun g wl => Hd O w wl S [.blk b4 [.string (bs p0.Tail), .string (bs p0.Route), .int .i64 p0.Day, .int .i64 p0.From, .int .i64 p0.To, v1] 24, .fz (.sl rTrack v1 p0.Tracks)]) ?_ ?_
  · skip
    refine WP_region ?_
    refine RL_do rfl rfl (Do_move (v := .int .i64 x8) rfl) ?_
    refine RL_do rfl rfl (Do_move (v := .int .i64 x15) rfl) ?_
    obtain ⟨x54, e55, hF⟩ := letO_some hF
    refine RL_do rfl rfl (Do_as (Do_neq (a := x8) (b := x15) rfl rfl) (congrArg Value.bool e55)) ?_
    refine RL_splitb (b := x54) rfl rfl rfl (fun c56 => ?_) (fun c56 => ?_)
    · have hF := iteB_t c56 hF
      refine RL_off rfl rfl ?_
      refine RL_off rfl rfl ?_
      refine RL_off rfl rfl ?_
      refine RL_do rfl rfl (Do_pick_t (v := .bool true) rfl rfl) ?_
      refine RL_do rfl rfl (Do_move (v := .bool true) rfl) ?_
      refine RL_off rfl rfl ?_
      refine RL_off rfl rfl ?_
      refine RL_off rfl rfl ?_
      refine RL_do rfl rfl (Do_pick_t (v := .bool true) rfl rfl) ?_
      have hR := Option.some.inj hF
      subst hR
      refine (RL_nil (thenQ_n (And.intro ?_ ?_)))
      · repeat' (first | with_reducible exact Fr_refl | refine Fr_upd rfl ?_ | refine Fr_over rfl rfl ?_)
      · exact ⟨(), (Sl_cons rfl Sl_nil), H.pick [1, 0] (by decide)⟩
    · have hF := iteB_f c56 hF
      refine RL_do rfl rfl (Do_move (v := .bool x9) rfl) ?_
      refine RL_do rfl rfl (Do_move (v := .bool x16) rfl) ?_
      obtain ⟨x57, e58, hF⟩ := letO_some hF
      refine RL_do rfl rfl (Do_as (Do_neqb (p := x9) (q := x16) u4 rfl rfl) (congrArg Value.bool e58)) ?_
      refine RL_do rfl rfl (Do_pick_f (v := .bool x57) rfl rfl) ?_
      refine RL_splitb (b := x57) rfl rfl rfl (fun c59 => ?_) (fun c59 => ?_)
      · have hF := iteB_t c59 hF
        refine RL_off rfl rfl ?_
        refine RL_off rfl rfl ?_
        refine RL_off rfl rfl ?_
        refine RL_do rfl rfl (Do_pick_t (v := .bool true) rfl rfl) ?_
        have hR := Option.some.inj hF
        subst hR
        refine (RL_nil (thenQ_n (And.intro ?_ ?_)))
        · repeat' (first | with_reducible exact Fr_refl | refine Fr_upd rfl ?_ | refine Fr_over rfl rfl ?_)
        · exact ⟨(), (Sl_cons rfl Sl_nil), H.pick [1, 0] (by decide)⟩
      · have hF := iteB_f c59 hF
        refine RL_do rfl rfl (Do_move (v := .int .i64 x10) rfl) ?_
        refine RL_do rfl rfl (Do_move (v := .int .i64 x17) rfl) ?_
        obtain ⟨x60, e61, hF⟩ := letO_some hF
        refine RL_do rfl rfl (Do_as (Do_neq (a := x10) (b := x17) rfl rfl) (congrArg Value.bool e61)) ?_
        refine RL_do rfl rfl (Do_pick_f (v := .bool x60) rfl rfl) ?_
        have hR := Option.some.inj hF
        subst hR
        refine (RL_nil (thenQ_n (And.intro ?_ ?_)))
        · repeat' (first | with_reducible exact Fr_refl | refine Fr_upd rfl ?_ | refine Fr_over rfl rfl ?_)
        · exact ⟨(), (Sl_cons rfl Sl_nil), H.pick [1, 0] (by decide)⟩
  · rintro _ ρ w52 H
    have hF := hK53
    refine WP_ifb (b := g51) rfl (fun c62 => ?_) (fun c62 => ?_)
    · have hF := iteB_t c62 hF
      refine WP_seq_k fun K63 hK63 => ?_
      refine WP_region ?_
      refine RL_do rfl rfl (Do_assign (v := .bool false) rfl) ?_
      refine (RL_nil (thenQ_n (hK63 _ _ ?_)))
      have hR := Option.some.inj hF
      subst hR
      refine (WP_ret (thenQ_r (post1 (v1 := .bool false) rfl rfl ?_)))
      exact ⟨rfl, H.pick [] (by decide)⟩
    · have hF := iteB_f c62 hF
      refine (WP_skip (thenQ_n (hK42 _ _ ?_)))
      refine WP_seq_k fun K73 hK73 => ?_
      refine WP_seq_k fun K74 hK74 => ?_
      refine WP_region ?_
      refine RL_do rfl rfl (Do_move (v := .int .i64 p2) rfl) ?_
      obtain ⟨x75, e76, hF⟩ := letO_some hF
      refine RL_do rfl rfl (Do_as (Do_lss (a := p2) (b := 1) rfl rfl) (congrArg Value.bool e76)) ?_
      refine (RL_nil (thenQ_n (hK74 _ _ ?_)))
      refine WP_ifb (b := x75) rfl (fun c77 => ?_) (fun c77 => ?_)
      · have hF := iteB_t c77 hF
        refine WP_seq_k fun K78 hK78 => ?_
        refine WP_region ?_
        obtain ⟨x79, e80, hF⟩ := bindO_some hF
        refine RL_call rfl rfl (DoC_func en6 rfl) (F_law9_totals_w _ e80 _ _ _ (H.enter [] [] (by decide) rfl)) ?_
        rintro _ w81 ⟨rfl, G82⟩
        have H := H.back0 [] rfl G82
        refine ⟨_, rfl, ?_⟩
        refine RL_do rfl rfl (Do_assign (v := .bool x79) rfl) ?_
        refine (RL_nil (thenQ_n (hK78 _ _ ?_)))
        have hR := Option.some.inj hF
        subst hR
        refine (WP_ret (thenQ_r (post1 (v1 := .bool x79) rfl rfl ?_)))
        exact ⟨rfl, H.pick [] (by decide)⟩
      · have hF := iteB_f c77 hF
        refine (WP_skip (thenQ_n (hK73 _ _ ?_)))
        refine WP_seq_k fun K83 hK83 => ?_
        refine WP_region ?_
        refine RL_do rfl rfl (Do_move (v := .string (bs p1)) rfl) ?_
        refine RL_do rfl rfl (Do_move (v := .int .i64 p2) rfl) ?_
        refine RL_do rfl rfl (Do_build (cs := [.string (bs p1), .int .i64 p2]) (bt30_0_1 _ _)) ?_
        obtain ⟨x84, e85, hF⟩ := letO_some hF
        subst e85
        refine RL_ex rfl rfl (Lx_bs (r := rGrain) (xl := [Grain.mk p1 p2]) (cs := [.string (bs p1), .int .i64 p2]) u31 el30 (by decide) (by decide) rfl (fillB_parts (vs := [.agg [.string (bs p1), .int .i64 p2].toArray]) (by decide) rfl rfl ⟨rfl, trivial⟩ rfl) H ⟨[.string (bs p1), .int .i64 p2], [], rfl, (rGrain_mk (x := Grain.mk p1 p2)), rfl⟩) ?_
        rintro v87 w88 H
        obtain ⟨a89, c90, q91⟩ := Sr.len (Sr.of_own (H.item (i := 2) rfl))
        refine RL_do rfl rfl (Do_build (cs := [.bool false, .int .i64 1, .slice none 0 0, v87, .int .i64 1]) (by rw [q91]; exact bt34_1_3_4 _ a89 _ c90 _)) ?_
        refine RL_ex rfl rfl (Lx_alloc zero34 H) ?_
        rintro _ w94 ⟨b92, rfl, H⟩
        refine RL_exU rfl (Lx_storeN (vs := [.bool false, .int .i64 1, .slice none 0 0, v87, .int .i64 1]) H 3 rfl sz34 rfl rfl rfl ⟨rfl, rfl, rfl, (own_one (H.item (i := 2) rfl)), rfl, trivial⟩ rfl) ?_
        rintro w95 H
        refine (RL_nil (thenQ_n (hK83 _ _ ?_)))
        refine WP_seq_k fun K96 hK96 => ?_
        refine WP_region ?_
        refine RL_do rfl rfl (Do_as (Do_loads (cs := [.string (bs p0.Tail), .string (bs p0.Route), .int .i64 p0.Day, .int .i64 p0.From, .int .i64 p0.To, v1]) agg24 rfl sz24 rfl (Blk.cells (H.item (i := 0) rfl))) rfl) ?_
        refine RL_do rfl rfl (Do_as (Do_loads (cs := [.bool false, .int .i64 1, .slice none 0 0, v87, .int .i64 1]) agg34 rfl sz34 rfl (Blk.cells (H.item (i := 3) rfl))) rfl) ?_
        have H := H.fz (.sl Rp.str (.slice none 0 0) []) SlF.nil
        have H := H.freeze (i := 2) rfl
        obtain ⟨⟨x98, x99⟩, e100, hF⟩ := bindO_some hF
        refine RL_call rfl rfl (DoC_func en7 rfl) (F_fleet_Masked_w p0 (Mask.mk false 1 [] ([Grain.mk p1 p2] : List Grain) 1) v1 (.slice none 0 0) v87 _ e100 _ _ _ (H.enter [] [1, 4, 2] (by decide) rfl)) ?_
        rintro _ w103 ⟨v101, rfl, G104⟩
        have H := H.back1 [1, 4, 2] rfl G104
        refine ⟨_, rfl, ?_⟩
        refine RL_do rfl rfl (Do_move (v := .tuple #[.agg [.string (bs x98.Tail), .string (bs x98.Route), .int .i64 x98.Day, .int .i64 x98.From, .int .i64 x98.To, v101].toArray, .int .i64 x99]) rfl) ?_
        refine RL_do rfl rfl (Do_extract (v := .agg [.string (bs x98.Tail), .string (bs x98.Route), .int .i64 x98.Day, .int .i64 x98.From, .int .i64 x98.To, v101].toArray) rfl rfl) ?_
        refine RL_do rfl rfl (Do_extract (v := .int .i64 x99) rfl rfl) ?_
        refine RL_ex rfl rfl (Lx_alloc zero24 H) ?_
        rintro _ w107 ⟨b105, rfl, H⟩
        refine RL_exU rfl (Lx_storeN (vs := [.string (bs x98.Tail), .string (bs x98.Route), .int .i64 x98.Day, .int .i64 x98.From, .int .i64 x98.To, v101]) H 6 rfl sz24 rfl rfl rfl ⟨rfl, rfl, rfl, rfl, rfl, (slf_one (H.item (i := 5) rfl)), trivial⟩ rfl) ?_
        rintro w108 H
        refine RL_do rfl rfl (Do_assign (v := .int .i64 x99) rfl) ?_
        refine (RL_nil (thenQ_n (hK96 _ _ ?_)))
        refine WP_seq_k fun K128 hK128 => ?_
        obtain ⟨g134, hF, hK136⟩ := bindO_some hF
        refine WP_seqS [59, 60, 61, 62, 63, 64] (fun (g : Unit) => [(64, .bool g134)]) (fun g wl => Hd O w wl S [.blk b105 [.string (bs x98.Tail), .string (bs x98.Route), .int .i64 x98.Day, .int .i64 x98.From, .int .i64 x98.To, v101] 24, .fz (.sl rTrack v101 x98.Tracks)]) ?_ ?_
        · skip
          refine WP_region ?_
          refine RL_do rfl rfl (Do_move (v := .int .i64 x10) rfl) ?_
          obtain ⟨x137, e138, hF⟩ := letO_some hF
          refine RL_do rfl rfl (Do_as (Do_neq (a := x10) (b := 0) rfl rfl) (congrArg Value.bool e138)) ?_
          refine RL_splitb (b := x137) rfl rfl rfl (fun c139 => ?_) (fun c139 => ?_)
          · have hF := iteB_t c139 hF
            refine RL_off rfl rfl ?_
            refine RL_off rfl rfl ?_
            refine RL_do rfl rfl (Do_pick_t (v := .bool true) rfl rfl) ?_
            have hR := Option.some.inj hF
            subst hR
            refine (RL_nil (thenQ_n (And.intro ?_ ?_)))
            · repeat' (first | with_reducible exact Fr_refl | refine Fr_upd rfl ?_ | refine Fr_over rfl rfl ?_)
            · exact ⟨(), (Sl_cons rfl Sl_nil), H.pick [6, 5] (by decide)⟩
          · have hF := iteB_f c139 hF
            refine RL_do rfl rfl (Do_move (v := .int .i64 x99) rfl) ?_
            obtain ⟨x140, e141, hF⟩ := letO_some hF
            refine RL_do rfl rfl (Do_as (Do_neq (a := x99) (b := 0) rfl rfl) (congrArg Value.bool e141)) ?_
            refine RL_do rfl rfl (Do_pick_f (v := .bool x140) rfl rfl) ?_
            have hR := Option.some.inj hF
            subst hR
            refine (RL_nil (thenQ_n (And.intro ?_ ?_)))
            · repeat' (first | with_reducible exact Fr_refl | refine Fr_upd rfl ?_ | refine Fr_over rfl rfl ?_)
            · exact ⟨(), (Sl_cons rfl Sl_nil), H.pick [6, 5] (by decide)⟩
        · rintro _ ρ w135 H
          have hF := hK136
          refine WP_ifb (b := g134) rfl (fun c142 => ?_) (fun c142 => ?_)
          · have hF := iteB_t c142 hF
            refine WP_seq_k fun K143 hK143 => ?_
            refine WP_region ?_
            obtain ⟨x144, e145, hF⟩ := bindO_some hF
            refine RL_call rfl rfl (DoC_func en6 rfl) (F_law9_totals_w _ e145 _ _ _ (H.enter [] [] (by decide) rfl)) ?_
            rintro _ w146 ⟨rfl, G147⟩
            have H := H.back0 [] rfl G147
            refine ⟨_, rfl, ?_⟩
            refine RL_do rfl rfl (Do_assign (v := .bool x144) rfl) ?_
            refine (RL_nil (thenQ_n (hK143 _ _ ?_)))
            have hR := Option.some.inj hF
            subst hR
            refine (WP_ret (thenQ_r (post1 (v1 := .bool x144) rfl rfl ?_)))
            exact ⟨rfl, H.pick [] (by decide)⟩
          · have hF := iteB_f c142 hF
            refine (WP_skip (thenQ_n (hK128 _ _ ?_)))
            refine WP_seq_k fun K148 hK148 => ?_
            refine WP_region ?_
            refine RL_do rfl rfl (Do_as (Do_loads (cs := [.string (bs x98.Tail), .string (bs x98.Route), .int .i64 x98.Day, .int .i64 x98.From, .int .i64 x98.To, v101]) agg24 rfl sz24 rfl (Blk.cells (H.item (i := 0) rfl))) rfl) ?_
            refine RL_do rfl rfl (Do_move (v := .string (bs p1)) rfl) ?_
            obtain ⟨⟨x149, x150, x151⟩, e152, hF⟩ := bindO_some hF
            refine RL_call rfl rfl (DoC_func en4 rfl) (F_fleet_Peak_w x98 p1 v101 _ e152 _ _ _ (H.enter [] [1] (by decide) rfl)) ?_
            rintro _ w153 ⟨rfl, G154⟩
            have H := H.back0 [1] rfl G154
            refine ⟨_, rfl, ?_⟩
            refine RL_do rfl rfl (Do_move (v := .tuple #[.int .i64 x149, .bool x150, .int .i64 x151]) rfl) ?_
            refine RL_do rfl rfl (Do_extract (v := .int .i64 x149) rfl rfl) ?_
            refine RL_do rfl rfl (Do_extract (v := .bool x150) rfl rfl) ?_
            refine RL_do rfl rfl (Do_extract (v := .int .i64 x151) rfl rfl) ?_
            refine RL_do rfl rfl (Do_assign (v := .int .i64 x149) rfl) ?_
            refine RL_do rfl rfl (Do_assign (v := .bool x150) rfl) ?_
            refine RL_do rfl rfl (Do_assign (v := .int .i64 x151) rfl) ?_
            refine (RL_nil (thenQ_n (hK148 _ _ ?_)))
            refine WP_seq_k fun K155 hK155 => ?_
            refine WP_region ?_
            refine RL_do rfl rfl (Do_move (v := .int .i64 x8) rfl) ?_
            refine RL_do rfl rfl (Do_move (v := .int .i64 x8) rfl) ?_
            refine RL_do rfl rfl (Do_move (v := .int .i64 p2) rfl) ?_
            obtain ⟨x156, e157, hF⟩ := bindO_some hF
            refine RL_do rfl rfl (Do_rem' (j := x8) (q := p2) rfl rfl e157) ?_
            obtain ⟨x158, e159, hF⟩ := letO_some hF
            refine RL_do rfl rfl (Do_sub (a := x8) (b := x156) rfl rfl e159) ?_
            refine RL_do rfl rfl (Do_assign (v := .int .i64 x158) rfl) ?_
            refine (RL_nil (thenQ_n (hK155 _ _ ?_)))
            obtain ⟨g168, hF, hK170⟩ := bindO_some hF
            refine WP_seqS [17, 78, 79, 80, 81, 82, 83, 84] (fun (g : Unit) => [(17, .int .i64 g168)]) (fun g wl => Hd O w wl S []) ?_ ?_
            · skip
              refine WP_seq_k fun K171 hK171 => ?_
              refine WP_region ?_
              refine RL_do rfl rfl (Do_move (v := .int .i64 x8) rfl) ?_
              refine RL_do rfl rfl (Do_move (v := .int .i64 p2) rfl) ?_
              obtain ⟨x172, e173, hF⟩ := bindO_some hF
              refine RL_do rfl rfl (Do_rem' (j := x8) (q := p2) rfl rfl e173) ?_
              obtain ⟨x174, e175, hF⟩ := letO_some hF
              refine RL_do rfl rfl (Do_as (Do_lss (a := x172) (b := 0) rfl rfl) (congrArg Value.bool e175)) ?_
              refine (RL_nil (thenQ_n (hK171 _ _ ?_)))
              refine WP_ifb (b := x174) rfl (fun c176 => ?_) (fun c176 => ?_)
              · have hF := iteB_t c176 hF
                refine WP_region ?_
                refine RL_do rfl rfl (Do_move (v := .int .i64 x158) rfl) ?_
                refine RL_do rfl rfl (Do_move (v := .int .i64 p2) rfl) ?_
                obtain ⟨x177, e178, hF⟩ := letO_some hF
                refine RL_do rfl rfl (Do_sub (a := x158) (b := p2) rfl rfl e178) ?_
                refine RL_do rfl rfl (Do_assign (v := .int .i64 x177) rfl) ?_
                have hR := Option.some.inj hF
                subst hR
                refine (RL_nil (thenQ_n (And.intro ?_ ?_)))
                · repeat' (first | with_reducible exact Fr_refl | refine Fr_upd rfl ?_ | refine Fr_over rfl rfl ?_)
                · exact ⟨(), (Sl_cons rfl Sl_nil), H.pick [] (by decide)⟩
              · have hF := iteB_f c176 hF
                have hR := Option.some.inj hF
                subst hR
                refine (WP_skip (thenQ_n (And.intro ?_ ?_)))
                · repeat' (first | with_reducible exact Fr_refl | refine Fr_upd rfl ?_ | refine Fr_over rfl rfl ?_)
                · exact ⟨(), (Sl_cons rfl Sl_nil), H.pick [] (by decide)⟩
            · rintro _ ρ w169 H
              have hF := hK170
              obtain ⟨g201, hF, hK203⟩ := bindO_some hF
              refine WP_seqS [6, 85, 86, 87, 88, 89, 90, 91, 92, 93, 94, 95, 96, 97, 98, 99, 100, 101, 102, 103, 104] (fun (g : Unit) => [(6, .bool g201)]) (fun g wl => Hd O w wl S []) ?_ ?_
              · skip
                refine WP_region ?_
                refine RL_do rfl rfl (Do_move (v := .int .i64 x151) rfl) ?_
                obtain ⟨x204, e205, hF⟩ := letO_some hF
                refine RL_do rfl rfl (Do_as (Do_eql (a := x151) (b := 0) rfl rfl) (congrArg Value.bool e205)) ?_
                refine RL_splitb (b := x204) rfl rfl rfl (fun c206 => ?_) (fun c206 => ?_)
                · have hF := iteB_t c206 hF
                  refine RL_do rfl rfl (Do_move (v := .bool x150) rfl) ?_
                  refine RL_do rfl rfl (Do_move (v := .bool x9) rfl) ?_
                  obtain ⟨x207, e208, hF⟩ := letO_some hF
                  refine RL_do rfl rfl (Do_as (Do_eqlb (p := x150) (q := x9) u4 rfl rfl) (congrArg Value.bool e208)) ?_
                  refine RL_do rfl rfl (Do_pick_t (v := .bool x207) rfl rfl) ?_
                  refine RL_splitb (b := x207) rfl rfl rfl (fun c209 => ?_) (fun c209 => ?_)
                  · have hF := iteB_t c209 hF
                    refine RL_do rfl rfl (Do_move (v := .bool x9) rfl) ?_
                    obtain ⟨x210, e211, hF⟩ := letO_some hF
                    refine RL_do rfl rfl (Do_as (Do_not (p := x9) rfl) (congrArg Value.bool e211)) ?_
                    refine RL_splitb (b := x210) rfl rfl rfl (fun c212 => ?_) (fun c212 => ?_)
                    · have hF := iteB_t c212 hF
                      refine RL_off rfl rfl ?_
                      refine RL_off rfl rfl ?_
                      refine RL_off rfl rfl ?_
                      refine RL_off rfl rfl ?_
                      refine RL_do rfl rfl (Do_pick_t (v := .bool true) rfl rfl) ?_
                      refine RL_do rfl rfl (Do_pick_t (v := .bool true) rfl rfl) ?_
                      refine RL_do rfl rfl (Do_move (v := .bool true) rfl) ?_
                      obtain ⟨x213, e214, hF⟩ := bindO_some hF
                      refine RL_call rfl rfl (DoC_func en6 rfl) (F_law9_totals_w _ e214 _ _ _ (H.enter [] [] (by decide) rfl)) ?_
                      rintro _ w215 ⟨rfl, G216⟩
                      have H := H.back0 [] rfl G216
                      refine ⟨_, rfl, ?_⟩
                      refine RL_do rfl rfl (Do_pick_t (v := .bool x213) rfl rfl) ?_
                      refine RL_do rfl rfl (Do_assign (v := .bool x213) rfl) ?_
                      have hR := Option.some.inj hF
                      subst hR
                      refine (RL_nil (thenQ_n (And.intro ?_ ?_)))
                      · repeat' (first | with_reducible exact Fr_refl | refine Fr_upd rfl ?_ | refine Fr_over rfl rfl ?_)
                      · exact ⟨(), (Sl_cons rfl Sl_nil), H.pick [] (by decide)⟩
                    · have hF := iteB_f c212 hF
                      refine RL_do rfl rfl (Do_move (v := .int .i64 x149) rfl) ?_
                      refine RL_do rfl rfl (Do_move (v := .int .i64 g168) rfl) ?_
                      obtain ⟨x217, e218, hF⟩ := letO_some hF
                      refine RL_do rfl rfl (Do_max (j := g168) (q := (-1125899906842624)) rfl rfl e218) ?_
                      obtain ⟨x219, e220, hF⟩ := letO_some hF
                      refine RL_do rfl rfl (Do_as (Do_eql (a := x149) (b := x217) rfl rfl) (congrArg Value.bool e220)) ?_
                      refine RL_do rfl rfl (Do_pick_f (v := .bool x219) rfl rfl) ?_
                      refine RL_do rfl rfl (Do_pick_t (v := .bool x219) rfl rfl) ?_
                      refine RL_splitb (b := x219) rfl rfl rfl (fun c221 => ?_) (fun c221 => ?_)
                      · have hF := iteB_t c221 hF
                        obtain ⟨x222, e223, hF⟩ := bindO_some hF
                        refine RL_call rfl rfl (DoC_func en6 rfl) (F_law9_totals_w _ e223 _ _ _ (H.enter [] [] (by decide) rfl)) ?_
                        rintro _ w224 ⟨rfl, G225⟩
                        have H := H.back0 [] rfl G225
                        refine ⟨_, rfl, ?_⟩
                        refine RL_do rfl rfl (Do_pick_t (v := .bool x222) rfl rfl) ?_
                        refine RL_do rfl rfl (Do_assign (v := .bool x222) rfl) ?_
                        have hR := Option.some.inj hF
                        subst hR
                        refine (RL_nil (thenQ_n (And.intro ?_ ?_)))
                        · repeat' (first | with_reducible exact Fr_refl | refine Fr_upd rfl ?_ | refine Fr_over rfl rfl ?_)
                        · exact ⟨(), (Sl_cons rfl Sl_nil), H.pick [] (by decide)⟩
                      · have hF := iteB_f c221 hF
                        refine RL_off rfl rfl ?_
                        refine RL_do rfl rfl (Do_pick_f (v := .bool false) rfl rfl) ?_
                        refine RL_do rfl rfl (Do_assign (v := .bool false) rfl) ?_
                        have hR := Option.some.inj hF
                        subst hR
                        refine (RL_nil (thenQ_n (And.intro ?_ ?_)))
                        · repeat' (first | with_reducible exact Fr_refl | refine Fr_upd rfl ?_ | refine Fr_over rfl rfl ?_)
                        · exact ⟨(), (Sl_cons rfl Sl_nil), H.pick [] (by decide)⟩
                  · have hF := iteB_f c209 hF
                    refine RL_off rfl rfl ?_
                    refine RL_off rfl rfl ?_
                    refine RL_off rfl rfl ?_
                    refine RL_off rfl rfl ?_
                    refine RL_off rfl rfl ?_
                    refine RL_off rfl rfl ?_
                    refine RL_off rfl rfl ?_
                    refine RL_off rfl rfl ?_
                    refine RL_do rfl rfl (Do_pick_f (v := .bool false) rfl rfl) ?_
                    refine RL_do rfl rfl (Do_move (v := .bool false) rfl) ?_
                    refine RL_off rfl rfl ?_
                    refine RL_do rfl rfl (Do_pick_f (v := .bool false) rfl rfl) ?_
                    refine RL_do rfl rfl (Do_assign (v := .bool false) rfl) ?_
                    have hR := Option.some.inj hF
                    subst hR
                    refine (RL_nil (thenQ_n (And.intro ?_ ?_)))
                    · repeat' (first | with_reducible exact Fr_refl | refine Fr_upd rfl ?_ | refine Fr_over rfl rfl ?_)
                    · exact ⟨(), (Sl_cons rfl Sl_nil), H.pick [] (by decide)⟩
                · have hF := iteB_f c206 hF
                  refine RL_off rfl rfl ?_
                  refine RL_off rfl rfl ?_
                  refine RL_off rfl rfl ?_
                  refine RL_do rfl rfl (Do_pick_f (v := .bool false) rfl rfl) ?_
                  refine RL_do rfl rfl (Do_move (v := .bool false) rfl) ?_
                  refine RL_off rfl rfl ?_
                  refine RL_off rfl rfl ?_
                  refine RL_off rfl rfl ?_
                  refine RL_off rfl rfl ?_
                  refine RL_off rfl rfl ?_
                  refine RL_off rfl rfl ?_
                  refine RL_off rfl rfl ?_
                  refine RL_off rfl rfl ?_
                  refine RL_do rfl rfl (Do_pick_f (v := .bool false) rfl rfl) ?_
                  refine RL_do rfl rfl (Do_move (v := .bool false) rfl) ?_
                  refine RL_off rfl rfl ?_
                  refine RL_do rfl rfl (Do_pick_f (v := .bool false) rfl rfl) ?_
                  refine RL_do rfl rfl (Do_assign (v := .bool false) rfl) ?_
                  have hR := Option.some.inj hF
                  subst hR
                  refine (RL_nil (thenQ_n (And.intro ?_ ?_)))
                  · repeat' (first | with_reducible exact Fr_refl | refine Fr_upd rfl ?_ | refine Fr_over rfl rfl ?_)
                  · exact ⟨(), (Sl_cons rfl Sl_nil), H.pick [] (by decide)⟩
              · rintro _ ρ w202 H
                have hF := hK203
                have hR := Option.some.inj hF
                subst hR
                refine (WP_ret (post1 (v1 := .bool g201) rfl rfl ?_))
                exact ⟨rfl, H.pick [] (by decide)⟩
end Go.Proofs.Ytbjhondbheijiaa
