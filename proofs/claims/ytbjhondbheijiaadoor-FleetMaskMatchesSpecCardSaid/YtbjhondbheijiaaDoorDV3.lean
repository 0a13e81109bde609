/- Walks: what each function computes, for every argument; no condition but those that stand in the statements. -/
import Derived.Test.YtbjhondbheijiaaDoorDV0
import Derived.Test.YtbjhondbheijiaaDoorDV2
namespace Go.Proofs.YtbjhondbheijiaaDoor.L
open Go.RowKit Go.OB Go.Lf
/- orangebox/fleet.masked -/
set_option maxHeartbeats 4000000 in
theorem F_fleet_masked_w (p0 : Flight) (p1 : Mask) (v1 : Value) (v3 : Value) (v4 : Value) (r : Flight) (hF : F_fleet_masked p0 p1 = some r) (O S : List Nat) (w : World) (H : Hd O w w S [.fz (.sl rTrack v1 p0.Tracks), .fz (.sl Rp.str v3 p1.Hide), .fz (.sl rGrain v4 p1.Grains)]) :
    Calls Tryd.prog 43 ([.agg [.string (bs p0.Tail), .string (bs p0.Route), .int .i64 p0.Day, .int .i64 p0.From, .int .i64 p0.To, v1].toArray, .agg [.bool p1.Tails, .int .i64 p1.Days, v3, v4, .int .i64 p1.Least].toArray] : List Value).toArray w fun e w' => ∃ u7, e = .returned (.agg [.string (bs r.Tail), .string (bs r.Route), .int .i64 r.Day, .int .i64 r.From, .int .i64 r.To, u7].toArray) ∧ Hd O w w' S [.fz (.sl rTrack u7 r.Tracks)] := by
  unfold F_fleet_masked at hF
  refine calls_of_WP 87 Tryd.func43 rfl rfl rfl ?_
  refine WP_seq_k fun K8 hK8 => ?_
  refine WP_region ?_
  refine RL_ex rfl rfl (Lx_box (cs := [.string (bs p0.Tail), .string (bs p0.Route), .int .i64 p0.Day, .int .i64 p0.From, .int .i64 p0.To, v1]) rfl H) ?_
  rintro _ w11 ⟨b9, rfl, H⟩
  refine RL_ex rfl rfl (Lx_box (cs := [.bool p1.Tails, .int .i64 p1.Days, v3, v4, .int .i64 p1.Least]) rfl H) ?_
  rintro _ w14 ⟨b12, rfl, H⟩
  refine RL_ex rfl rfl (Lx_alloc zero47 H) ?_
  rintro _ w17 ⟨b15, rfl, H⟩
  refine (RL_nil (thenQ_n (hK8 _ _ ?_)))
  obtain ⟨g21, hF, hK23⟩ := bindO_some hF
  refine WP_seqS [12, 13, 14] (fun (g : Unit) => []) (fun g wl => Hd O w wl S [.blk b9 [.string (bs g21), .string (bs p0.Route), .int .i64 p0.Day, .int .i64 p0.From, .int .i64 p0.To, v1] 47, .fz (.sl rTrack v1 p0.Tracks), .blk b12 [.bool p1.Tails, .int .i64 p1.Days, v3, v4, .int .i64 p1.Least] 50, .fz (.sl Rp.str v3 p1.Hide), .fz (.sl rGrain v4 p1.Grains), .blk b15 [.string (bs []), .string (bs []), .int .i64 0, .int .i64 0, .int .i64 0, .slice none 0 0] 47]) ?_ ?_
  · skip
    refine WP_seq_k fun K24 hK24 => ?_
    refine WP_region ?_
    refine RL_do rfl rfl (fa50_0 rfl) ?_
    refine RL_do rfl rfl (Do_load one4 rfl (Cells.get (Blk.cells (H.item (i := 4) rfl)) (i := 0) rfl)) ?_
    refine (RL_nil (thenQ_n (hK24 _ _ ?_)))
    refine WP_ifb (b := p1.Tails) rfl (fun c25 => ?_) (fun c25 => ?_)
    · have hF := iteB_t c25 hF
      refine WP_region ?_
      refine RL_do rfl rfl (fa47_0 rfl) ?_
      refine RL_exU rfl (Lx_store1 H 3 rfl sz9 rfl (v := .string (bs [])) rfl rfl rfl) ?_
      rintro w26 H
      have hR := Option.some.inj hF
      subst hR
      refine (RL_nil (thenQ_n (And.intro ?_ ?_)))
      · repeat' (first | with_reducible exact Fr_refl | refine Fr_upd rfl ?_ | refine Fr_over rfl rfl ?_)
      · exact ⟨(), Sl_nil, H.pick [3, 0, 4, 1, 2, 5] (by decide)⟩
    · have hF := iteB_f c25 hF
      have hR := Option.some.inj hF
      subst hR
      refine (WP_skip (thenQ_n (And.intro ?_ ?_)))
      · repeat' (first | with_reducible exact Fr_refl | refine Fr_upd rfl ?_ | refine Fr_over rfl rfl ?_)
      · exact ⟨(), Sl_nil, H.pick [3, 0, 4, 1, 2, 5] (by decide)⟩
  · rintro _ ρ w22 H
    have hF := hK23
    refine WP_seq_k fun K27 hK27 => ?_
    have H28 := H
    have H := H.rebase
    have H29 := H
    refine WP_mix0 H [0, 1, 2, 3, 4, 5, 6, 7, 8, 9] [.pure, .read, .pure, .read, .pure, .read, .pure, .pure, .pure, .eff] mixed (by kernel_rfl) (by kernel_rfl) (by kernel_rfl) rfl ?_
    refine Mx.XL_pure rfl rfl rfl (fun w' hw' => fa47_2 rfl) ?_
    refine Mx.XL_read oS rfl rfl rfl (fun w' hw' => Do_load one3 rfl (Cells.get (Blk.cells ((H.sees hw').item (i := 0) rfl)) (i := 2) rfl)) ?_
    refine Mx.XL_pure rfl rfl rfl (fun w' hw' => fa47_2 rfl) ?_
    refine Mx.XL_read oS rfl rfl rfl (fun w' hw' => Do_load one3 rfl (Cells.get (Blk.cells ((H.sees hw').item (i := 0) rfl)) (i := 2) rfl)) ?_
    refine Mx.XL_pure rfl rfl rfl (fun w' hw' => fa50_1 rfl) ?_
    refine Mx.XL_read oS rfl rfl rfl (fun w' hw' => Do_load one3 rfl (Cells.get (Blk.cells ((H.sees hw').item (i := 2) rfl)) (i := 1) rfl)) ?_
    obtain ⟨x30, e31, hF⟩ := bindO_some hF
    refine Mx.XL_pure rfl rfl rfl (fun w' hw' => Do_rem' (j := p0.Day) (q := p1.Days) rfl rfl e31) ?_
    obtain ⟨x32, e33, hF⟩ := letO_some hF
    refine Mx.XL_pure rfl rfl rfl (fun w' hw' => Do_sub (a := p0.Day) (b := x30) rfl rfl e33) ?_
    refine Mx.XL_pure rfl rfl rfl (fun w' hw' => fa47_2 rfl) ?_
    refine Mx.XL_exU oS rfl rfl (fun w' hw' => Lx_store1 (H.sees hw') 0 rfl sz3 rfl (v := .int .i64 x32) rfl rfl rfl) ?_
    rintro w' w34 hw' H
    refine ⟨H.only, ?_⟩
    refine Mx.XL_nil fun w35 hS => ?_
    have H := H.sees hS
    have H := H28.rejoin H
    refine (thenQ_n (hK27 _ _ ?_))
    refine WP_seq_k fun K36 hK36 => ?_
    refine WP_region ?_
    refine RL_do rfl rfl (Do_assign (v := .slice none 0 0) rfl) ?_
    refine (RL_nil (thenQ_n (hK36 _ _ ?_)))
    obtain ⟨g1247, hF, hK1250⟩ := bindO_some hF
    refine WP_seqS [5, 7, 9, 10, 11, 24, 25, 26, 27, 28, 29, 30, 31, 32, 33, 34, 35, 36, 37, 38, 39, 40, 41, 42, 43, 44, 45, 46, 47, 48, 49, 50, 51, 52, 53, 54, 55, 56, 57, 58, 59, 60, 61, 62, 63, 64, 65, 66, 67, 68, 69, 70, 71, 72, 73, 74, 75, 76, 77, 78, 79, 80, 81, 82, 83] (fun (g : Value) => [(5, g)]) (fun g wl => Hd O w wl S [.own rTrack g 95 g1247, .blk b9 [.string (bs g21), .string (bs p0.Route), .int .i64 x32, .int .i64 p0.From, .int .i64 p0.To, v1] 47, .fz (.sl rTrack v1 p0.Tracks), .blk b15 [.string (bs []), .string (bs []), .int .i64 0, .int .i64 0, .int .i64 0, .slice none 0 0] 47]) ?_ ?_
    · skip
      refine WP_seq_k fun K1251 hK1251 => ?_
      refine WP_region ?_
      refine RL_do rfl rfl (fa47_5 rfl) ?_
      refine RL_do rfl rfl (Do_load one45 rfl (Cells.get (Blk.cells (H.item (i := 0) rfl)) (i := 5) rfl)) ?_
      obtain ⟨x1252, e1253, hF⟩ := letO_some hF
      obtain ⟨a1254, c1255, q1256⟩ := SlF.len ((H.item (i := 1) rfl))
      refine RL_do rfl rfl (Do_as (Do_len u45 q1256) (congrArg (Value.int .i64) e1253)) ?_
      refine RL_do rfl rfl (Do_move (v := .int .i64 0) rfl) ?_
      refine (RL_nil (thenQ_n (hK1251 _ _ ?_)))
      refine WP_block ?_
      have H := own_nil H rTrack 95
      unfold F_fleet_masked_L1 at hF
      obtain ⟨B2458, n2459, eB2460, hF⟩ := loopO_some hF
      refine WP_loopS [5, 7, 9, 10, 11, 27, 28, 29, 30, 31, 32, 33, 34, 35, 36, 37, 38, 39, 40, 41, 42, 43, 44, 45, 46, 47, 48, 49, 50, 51, 52, 53, 54, 55, 56, 57, 58, 59, 60, 61, 62, 63, 64, 65, 66, 67, 68, 69, 70, 71, 72, 73, 74, 75, 76, 77, 78, 79, 80, 81, 82, 83] (fun (g : Nat × (List Track) × Int × Value) => [(5, g.2.2.2), (27, .int .i64 g.2.2.1)]) (fun g wl => Hd O w wl S [.own rTrack g.2.2.2 95 g.2.1, .blk b9 [.string (bs g21), .string (bs p0.Route), .int .i64 x32, .int .i64 p0.From, .int .i64 p0.To, v1] 47, .fz (.sl rTrack v1 p0.Tracks), .blk b12 [.bool p1.Tails, .int .i64 p1.Days, v3, v4, .int .i64 p1.Least] 50, .fz (.sl Rp.str v3 p1.Hide), .fz (.sl rGrain v4 p1.Grains), .blk b15 [.string (bs []), .string (bs []), .int .i64 0, .int .i64 0, .int .i64 0, .slice none 0 0] 47] ∧ loopN B2458 g.1 (g.2.1, g.2.2.1) = some g1247) (fun g => g.1) (n2459, [], 0, .slice none 0 0) (Sl_cons rfl (Sl_cons rfl Sl_nil)) ⟨H.pick [6, 0, 1, 2, 3, 4, 5] (by decide), hF⟩ ?_
      clear H hF
      rintro ⟨n2459, g2454, g2456, v2455⟩ ρ w2462 ⟨H, hF⟩
      obtain ⟨n2463, rfl, hF⟩ := loopN_pos hF
      have hF := loop_body eB2460 hF
      refine WP_seq_k fun K2464 hK2464 => ?_
      refine WP_region ?_
      obtain ⟨x2465, e2466, hF⟩ := letO_some hF
      refine RL_do rfl rfl (Do_as (Do_lss (a := g2456) (b := x1252) rfl rfl) (congrArg Value.bool e2466)) ?_
      refine (RL_nil (thenQ_n (hK2464 _ _ ?_)))
      refine WP_seq_k fun K2468 hK2468 => ?_
      refine WP_ifb (b := x2465) rfl (fun c2469 => ?_) (fun c2469 => ?_)
      · have hF := iteB_t c2469 hF
        refine (WP_skip (thenQ_n (hK2468 _ _ ?_)))
        obtain ⟨g2845, hF, hK2848⟩ := bindO_some hF
        refine WP_seqS [5, 7, 9, 10, 11, 29, 30, 31, 32, 33, 34, 35, 36, 37, 38, 39, 40, 41, 42, 43, 44, 45, 46, 47, 48, 49, 50, 51, 52, 53, 54, 55, 56, 57, 58, 59, 60, 61, 62, 63, 64, 65, 66, 67, 68, 69, 70, 71, 72, 73, 74, 75, 76, 77, 78, 79, 80, 81, 82] (fun (g : Value) => [(5, g)]) (fun g wl => Hd O w wl S [.own rTrack g 95 g2845, .blk b9 [.string (bs g21), .string (bs p0.Route), .int .i64 x32, .int .i64 p0.From, .int .i64 p0.To, v1] 47, .fz (.sl rTrack v1 p0.Tracks), .blk b12 [.bool p1.Tails, .int .i64 p1.Days, v3, v4, .int .i64 p1.Least] 50, .fz (.sl Rp.str v3 p1.Hide), .fz (.sl rGrain v4 p1.Grains), .blk b15 [.string (bs []), .string (bs []), .int .i64 0, .int .i64 0, .int .i64 0, .slice none 0 0] 47]) ?_ ?_
        · skip
          refine WP_block ?_
          refine WP_seq_k fun K2849 hK2849 => ?_
          refine WP_region ?_
          obtain ⟨x2850, e2851, hF⟩ := bindO_some hF
          obtain ⟨b2852, o2853, c2854, cs2855, q2856, h2859, h2857, h2858, h2860⟩ := rd_at (H.item (i := 2) rfl) e2851
          obtain ⟨v2861, rfl, h2862⟩ := rTrack_open h2859
          have H := H.fzs [.at b2852 (o2853 + g2456.toNat * 4) _, .sl rSample v2861 x2850.Series.Samples] ⟨⟨h2857, h2858, h2860⟩, h2862, trivial⟩
          refine RL_do rfl rfl (Do_idx u45 sz95 q2856 rfl (at_some e2851).1 (at_some e2851).2.1 rfl rfl) ?_
          refine RL_do rfl rfl (Do_as (Do_loads (cs := [.string (bs x2850.Name), .int .i64 x2850.Series.Den, v2861, .int .i64 x2850.Long]) agg95 rfl sz95 rfl (H.item (i := 7) rfl).2.2) rfl) ?_
          refine RL_ex rfl rfl (Lx_alloc zero95 H) ?_
          rintro _ w2867 ⟨b2865, rfl, H⟩
          refine RL_exU rfl (Lx_storeN (vs := [.string (bs x2850.Name), .int .i64 x2850.Series.Den, v2861, .int .i64 x2850.Long]) H 9 rfl sz95 rfl rfl rfl ⟨rfl, rfl, (slf_one (H.item (i := 8) rfl)), rfl, trivial⟩ rfl) ?_
          rintro w2868 H
          refine (RL_nil (thenQ_n (hK2849 _ _ ?_)))
          refine WP_seq_k fun K2876 hK2876 => ?_
          refine WP_seq_k fun K2877 hK2877 => ?_
          refine WP_region ?_
          refine RL_do rfl rfl (fa50_2 rfl) ?_
          refine RL_do rfl rfl (Do_load one35 rfl (Cells.get (Blk.cells (H.item (i := 3) rfl)) (i := 2) rfl)) ?_
          refine RL_do rfl rfl (fa95_0 rfl) ?_
          refine RL_do rfl rfl (Do_load one9 rfl (Cells.get (Blk.cells (H.item (i := 9) rfl)) (i := 0) rfl)) ?_
          have H2878 := H
          obtain ⟨x2879, e2880, hF⟩ := bindO_some hF
          refine RL_call rfl rfl (DoC_func en60 rfl) (F_slices_Contains___string_string__w p1.Hide x2850.Name v3 _ e2880 _ _ _ (H.enter [] [4] (by decide) rfl)) ?_
          rintro _ w2881 ⟨rfl, G2882⟩
          have H := H2878.step (G2882.only : Only [] _ _)
          refine ⟨_, rfl, ?_⟩
          refine (RL_nil (thenQ_n (hK2877 _ _ ?_)))
          refine WP_ifb (b := x2879) rfl (fun c2883 => ?_) (fun c2883 => ?_)
          · have hF := iteB_t c2883 hF
            have hR := Option.some.inj hF
            subst hR
            refine (WP_exit (thenQ_x (blockQ_eq (thenQ_n (And.intro ?_ ?_)))))
            · repeat' (first | with_reducible exact Fr_refl | refine Fr_upd rfl ?_ | refine Fr_over rfl rfl ?_)
            · exact ⟨v2455, (Sl_cons rfl Sl_nil), H.pick [0, 1, 2, 3, 4, 5, 6] (by decide)⟩
          · have hF := iteB_f c2883 hF
            refine (WP_skip (thenQ_n (hK2876 _ _ ?_)))
            refine WP_seq_k fun K2884 hK2884 => ?_
            refine WP_region ?_
            refine RL_do rfl rfl (fa95_1 rfl) ?_
            refine RL_do rfl rfl (fa93_1 rfl) ?_
            refine RL_do rfl rfl (Do_load one91 rfl (Cells.get (Blk.cells (H.item (i := 9) rfl)) (i := 2) rfl)) ?_
            obtain ⟨x2885, e2886, hF⟩ := bindO_some hF
            refine RL_call rfl rfl (DoC_func en61 rfl) (F_slices_Clone___api_Sample_api_Sample__w x2850.Series.Samples v2861 _ e2886 _ _ _ (H.enter [] [8] (by decide) rfl)) ?_
            rintro _ w2889 ⟨v2887, rfl, G2890⟩
            have H := H.back1 [8] rfl G2890
            refine ⟨_, rfl, ?_⟩
            refine RL_do rfl rfl (fa95_1 rfl) ?_
            refine RL_do rfl rfl (fa93_1 rfl) ?_
            refine RL_exU rfl (Lx_store1 H 9 rfl sz91 rfl (v := v2887) rfl (own_one (H.item (i := 10) rfl)) rfl) ?_
            rintro w2891 H
            refine (RL_nil (thenQ_n (hK2884 _ _ ?_)))
            obtain ⟨g3212, hF, hK3214⟩ := bindO_some hF
            refine WP_seqS [9, 10, 11, 42, 43, 44, 45, 46, 47, 48, 49, 50, 51, 52, 53, 54, 55, 56, 57, 58, 59, 60, 61, 62, 63, 64, 65, 66, 67, 68, 69, 70, 71, 72, 73, 74, 75, 76, 77, 78] (fun (g : Unit) => []) (fun g wl => Hd O w wl S [.own rTrack v2455 95 g2454, .blk b9 [.string (bs g21), .string (bs p0.Route), .int .i64 x32, .int .i64 p0.From, .int .i64 p0.To, v1] 47, .fz (.sl rTrack v1 p0.Tracks), .blk b12 [.bool p1.Tails, .int .i64 p1.Days, v3, v4, .int .i64 p1.Least] 50, .fz (.sl Rp.str v3 p1.Hide), .fz (.sl rGrain v4 p1.Grains), .blk b15 [.string (bs []), .string (bs []), .int .i64 0, .int .i64 0, .int .i64 0, .slice none 0 0] 47, .blk b2865 [.string (bs x2850.Name), .int .i64 x2850.Series.Den, v2887, .int .i64 x2850.Long] 95, .own rSample v2887 99 g3212]) ?_ ?_
            · skip
              refine WP_seq_k fun K3215 hK3215 => ?_
              refine WP_region ?_
              refine RL_do rfl rfl (fa50_3 rfl) ?_
              refine RL_do rfl rfl (Do_load one48 rfl (Cells.get (Blk.cells (H.item (i := 3) rfl)) (i := 3) rfl)) ?_
              obtain ⟨x3216, e3217, hF⟩ := letO_some hF
              obtain ⟨a3218, c3219, q3220⟩ := SlF.len ((H.item (i := 5) rfl))
              refine RL_do rfl rfl (Do_as (Do_len u48 q3220) (congrArg (Value.int .i64) e3217)) ?_
              refine RL_do rfl rfl (Do_move (v := .int .i64 0) rfl) ?_
              refine (RL_nil (thenQ_n (hK3215 _ _ ?_)))
              refine WP_block ?_
              unfold F_fleet_masked_L2 at hF
              obtain ⟨B3531, n3532, eB3533, hF⟩ := loopO_some hF
              refine WP_loopS [9, 10, 11, 45, 46, 47, 48, 49, 50, 51, 52, 53, 54, 55, 56, 57, 58, 59, 60, 61, 62, 63, 64, 65, 66, 67, 68, 69, 70, 71, 72, 73, 74, 75, 76, 77, 78] (fun (g : Nat × Int × (List Sample)) => [(45, .int .i64 g.2.1)]) (fun g wl => Hd O w wl S [.own rTrack v2455 95 g2454, .blk b9 [.string (bs g21), .string (bs p0.Route), .int .i64 x32, .int .i64 p0.From, .int .i64 p0.To, v1] 47, .fz (.sl rTrack v1 p0.Tracks), .blk b12 [.bool p1.Tails, .int .i64 p1.Days, v3, v4, .int .i64 p1.Least] 50, .fz (.sl Rp.str v3 p1.Hide), .fz (.sl rGrain v4 p1.Grains), .blk b15 [.string (bs []), .string (bs []), .int .i64 0, .int .i64 0, .int .i64 0, .slice none 0 0] 47, .blk b2865 [.string (bs x2850.Name), .int .i64 x2850.Series.Den, v2887, .int .i64 x2850.Long] 95, .own rSample v2887 99 g.2.2] ∧ loopN B3531 g.1 (g.2.1, g.2.2) = some g3212) (fun g => g.1) (n3532, 0, x2885) (Sl_cons rfl Sl_nil) ⟨H.pick [0, 1, 2, 3, 4, 5, 6, 9, 10] (by decide), hF⟩ ?_
              clear H hF
              rintro ⟨n3532, g3529, g3530⟩ ρ w3535 ⟨H, hF⟩
              obtain ⟨n3536, rfl, hF⟩ := loopN_pos hF
              have hF := loop_body eB3533 hF
              refine WP_seq_k fun K3537 hK3537 => ?_
              refine WP_region ?_
              obtain ⟨x3538, e3539, hF⟩ := letO_some hF
              refine RL_do rfl rfl (Do_as (Do_lss (a := g3529) (b := x3216) rfl rfl) (congrArg Value.bool e3539)) ?_
              refine (RL_nil (thenQ_n (hK3537 _ _ ?_)))
              refine WP_seq_k fun K3541 hK3541 => ?_
              refine WP_ifb (b := x3538) rfl (fun c3542 => ?_) (fun c3542 => ?_)
              · have hF := iteB_t c3542 hF
                refine (WP_skip (thenQ_n (hK3541 _ _ ?_)))
                obtain ⟨g3685, hF, hK3687⟩ := bindO_some hF
                refine WP_seqS [9, 10, 11, 47, 48, 49, 50, 51, 52, 53, 54, 55, 56, 57, 58, 59, 60, 61, 62, 63, 64, 65, 66, 67, 68, 69, 70, 71, 72, 73, 74, 75, 76, 77] (fun (g : Unit) => []) (fun g wl => Hd O w wl S [.own rTrack v2455 95 g2454, .blk b9 [.string (bs g21), .string (bs p0.Route), .int .i64 x32, .int .i64 p0.From, .int .i64 p0.To, v1] 47, .fz (.sl rTrack v1 p0.Tracks), .blk b12 [.bool p1.Tails, .int .i64 p1.Days, v3, v4, .int .i64 p1.Least] 50, .fz (.sl Rp.str v3 p1.Hide), .fz (.sl rGrain v4 p1.Grains), .blk b15 [.string (bs []), .string (bs []), .int .i64 0, .int .i64 0, .int .i64 0, .slice none 0 0] 47, .blk b2865 [.string (bs x2850.Name), .int .i64 x2850.Series.Den, v2887, .int .i64 x2850.Long] 95, .own rSample v2887 99 g3685]) ?_ ?_
                · skip
                  refine WP_block ?_
                  refine WP_seq_k fun K3688 hK3688 => ?_
                  refine WP_region ?_
                  obtain ⟨x3689, e3690, hF⟩ := bindO_some hF
                  obtain ⟨b3691, o3692, c3693, cs3694, q3695, h3698, h3696, h3697, h3699⟩ := rd_at (H.item (i := 5) rfl) e3690
                  obtain rfl := rGrain_open h3698
                  have H := H.fz (.at b3691 (o3692 + g3529.toNat * 2) _) ⟨h3696, h3697, h3699⟩
                  refine RL_do rfl rfl (Do_idx u48 sz82 q3695 rfl (at_some e3690).1 (at_some e3690).2.1 rfl rfl) ?_
                  refine RL_do rfl rfl (Do_as (Do_loads (cs := [.string (bs x3689.Track), .int .i64 x3689.N]) agg82 rfl sz82 rfl (H.item (i := 9) rfl).2.2) rfl) ?_
                  refine RL_ex rfl rfl (Lx_alloc zero82 H) ?_
                  rintro _ w3703 ⟨b3701, rfl, H⟩
                  refine RL_exU rfl (Lx_storeN (vs := [.string (bs x3689.Track), .int .i64 x3689.N]) H 10 rfl sz82 rfl rfl rfl ⟨rfl, rfl, trivial⟩ rfl) ?_
                  rintro w3704 H
                  refine (RL_nil (thenQ_n (hK3688 _ _ ?_)))
                  refine WP_seq_k fun K3709 hK3709 => ?_
                  refine WP_seq_k fun K3710 hK3710 => ?_
                  refine WP_region ?_
                  refine RL_do rfl rfl (fa82_0 rfl) ?_
                  refine RL_do rfl rfl (Do_load one9 rfl (Cells.get (Blk.cells (H.item (i := 10) rfl)) (i := 0) rfl)) ?_
                  refine RL_do rfl rfl (fa95_0 rfl) ?_
                  refine RL_do rfl rfl (Do_load one9 rfl (Cells.get (Blk.cells (H.item (i := 7) rfl)) (i := 0) rfl)) ?_
                  obtain ⟨x3711, e3712, hF⟩ := letO_some hF
                  refine RL_do rfl rfl (Do_as (Do_neqs (s1 := x3689.Track) (s2 := x2850.Name) rfl rfl) (congrArg Value.bool e3712)) ?_
                  refine (RL_nil (thenQ_n (hK3710 _ _ ?_)))
                  refine WP_ifb (b := x3711) rfl (fun c3713 => ?_) (fun c3713 => ?_)
                  · have hF := iteB_t c3713 hF
                    have hR := Option.some.inj hF
                    subst hR
                    refine (WP_exit (thenQ_x (blockQ_eq (thenQ_n (And.intro ?_ ?_)))))
                    · repeat' (first | with_reducible exact Fr_refl | refine Fr_upd rfl ?_ | refine Fr_over rfl rfl ?_)
                    · exact ⟨(), Sl_nil, H.pick [0, 1, 2, 3, 4, 5, 6, 7, 8] (by decide)⟩
                  · have hF := iteB_f c3713 hF
                    refine (WP_skip (thenQ_n (hK3709 _ _ ?_)))
                    refine WP_seq_k fun K3714 hK3714 => ?_
                    refine WP_region ?_
                    refine RL_do rfl rfl (fa95_1 rfl) ?_
                    refine RL_do rfl rfl (fa93_1 rfl) ?_
                    refine RL_do rfl rfl (Do_load one91 rfl (Cells.get (Blk.cells (H.item (i := 7) rfl)) (i := 2) rfl)) ?_
                    obtain ⟨x3715, e3716, hF⟩ := letO_some hF
                    obtain ⟨a3717, c3718, q3719⟩ := Sr.len (Sr.of_own (H.item (i := 8) rfl))
                    refine RL_do rfl rfl (Do_as (Do_len u91 q3719) (congrArg (Value.int .i64) e3716)) ?_
                    refine RL_do rfl rfl (Do_move (v := .int .i64 0) rfl) ?_
                    refine (RL_nil (thenQ_n (hK3714 _ _ ?_)))
                    refine WP_block ?_
                    unfold F_fleet_masked_L3 at hF
                    obtain ⟨B3826, n3827, eB3828, hF⟩ := loopO_some hF
                    refine WP_loopS [10, 11, 58, 59, 60, 61, 62, 63, 64, 65, 66, 67, 68, 69, 70, 71, 72, 73, 74, 75, 76, 77] (fun (g : Nat × Int × (List Sample)) => [(58, .int .i64 g.2.1)]) (fun g wl => Hd O w wl S [.own rTrack v2455 95 g2454, .blk b9 [.string (bs g21), .string (bs p0.Route), .int .i64 x32, .int .i64 p0.From, .int .i64 p0.To, v1] 47, .fz (.sl rTrack v1 p0.Tracks), .blk b12 [.bool p1.Tails, .int .i64 p1.Days, v3, v4, .int .i64 p1.Least] 50, .fz (.sl Rp.str v3 p1.Hide), .fz (.sl rGrain v4 p1.Grains), .blk b15 [.string (bs []), .string (bs []), .int .i64 0, .int .i64 0, .int .i64 0, .slice none 0 0] 47, .blk b2865 [.string (bs x2850.Name), .int .i64 x2850.Series.Den, v2887, .int .i64 x2850.Long] 95, .own rSample v2887 99 g.2.2, .blk b3701 [.string (bs x3689.Track), .int .i64 x3689.N] 82] ∧ loopN B3826 g.1 (g.2.1, g.2.2) = some g3685) (fun g => g.1) (n3827, 0, g3530) (Sl_cons rfl Sl_nil) ⟨H.pick [0, 1, 2, 3, 4, 5, 6, 7, 8, 10] (by decide), hF⟩ ?_
                    clear H hF
                    rintro ⟨n3827, g3824, g3825⟩ ρ w3830 ⟨H, hF⟩
                    obtain ⟨n3831, rfl, hF⟩ := loopN_pos hF
                    have hF := loop_body eB3828 hF
                    refine WP_seq_k fun K3832 hK3832 => ?_
                    refine WP_region ?_
                    obtain ⟨x3833, e3834, hF⟩ := letO_some hF
                    refine RL_do rfl rfl (Do_as (Do_lss (a := g3824) (b := x3715) rfl rfl) (congrArg Value.bool e3834)) ?_
                    refine (RL_nil (thenQ_n (hK3832 _ _ ?_)))
                    refine WP_seq_k fun K3836 hK3836 => ?_
                    refine WP_ifb (b := x3833) rfl (fun c3837 => ?_) (fun c3837 => ?_)
                    · have hF := iteB_t c3837 hF
                      refine (WP_skip (thenQ_n (hK3836 _ _ ?_)))
                      obtain ⟨g3878, hF, hK3880⟩ := bindO_some hF
                      refine WP_seqS [10, 11, 60, 61, 62, 63, 64, 65, 66, 67, 68, 69, 70, 71, 72, 73, 74, 75, 76] (fun (g : Unit) => []) (fun g wl => Hd O w wl S [.own rTrack v2455 95 g2454, .blk b9 [.string (bs g21), .string (bs p0.Route), .int .i64 x32, .int .i64 p0.From, .int .i64 p0.To, v1] 47, .fz (.sl rTrack v1 p0.Tracks), .blk b12 [.bool p1.Tails, .int .i64 p1.Days, v3, v4, .int .i64 p1.Least] 50, .fz (.sl Rp.str v3 p1.Hide), .fz (.sl rGrain v4 p1.Grains), .blk b15 [.string (bs []), .string (bs []), .int .i64 0, .int .i64 0, .int .i64 0, .slice none 0 0] 47, .blk b2865 [.string (bs x2850.Name), .int .i64 x2850.Series.Den, v2887, .int .i64 x2850.Long] 95, .own rSample v2887 99 g3878, .blk b3701 [.string (bs x3689.Track), .int .i64 x3689.N] 82]) ?_ ?_
                      · skip
                        refine WP_block ?_
                        refine WP_seq_k fun K3881 hK3881 => ?_
                        refine WP_region ?_
                        refine RL_do rfl rfl (Do_move (v := .int .i64 g3824) rfl) ?_
                        obtain ⟨x3882, e3883, hF⟩ := bindO_some hF
                        obtain ⟨b3884, c3886, cs3887, q3888, h3891, h3892⟩ := own_at (H.item (i := 8) rfl) e3883
                        obtain rfl := rSample_open h3891
                        refine RL_do rfl rfl (Do_idx u91 sz99 q3888 rfl (at_some e3883).1 (at_some e3883).2.1 rfl rfl) ?_
                        refine RL_do rfl rfl (Do_as (Do_loads (cs := [.int .i64 x3882.At, .int .i64 x3882.N, .int .i64 x3882.Mark]) agg99 rfl sz99 rfl h3892) rfl) ?_
                        refine RL_ex rfl rfl (Lx_alloc zero99 H) ?_
                        rintro _ w3895 ⟨b3893, rfl, H⟩
                        refine RL_do rfl rfl (Do_assign (v := .int .i64 g3824) rfl) ?_
                        refine RL_exU rfl (Lx_storeN (vs := [.int .i64 x3882.At, .int .i64 x3882.N, .int .i64 x3882.Mark]) H 10 rfl sz99 rfl rfl rfl ⟨rfl, rfl, rfl, trivial⟩ rfl) ?_
                        rintro w3896 H
                        refine (RL_nil (thenQ_n (hK3881 _ _ ?_)))
                        refine WP_seq_k fun K3897 hK3897 => ?_
                        refine WP_region ?_
                        refine RL_do rfl rfl (fa99_2 rfl) ?_
                        refine RL_do rfl rfl (Do_load one3 rfl (Cells.get (Blk.cells (H.item (i := 10) rfl)) (i := 2) rfl)) ?_
                        obtain ⟨x3898, e3899, hF⟩ := letO_some hF
                        refine RL_do rfl rfl (Do_as (Do_geq (a := x3882.Mark) (b := 2) rfl rfl) (congrArg Value.bool e3899)) ?_
                        refine (RL_nil (thenQ_n (hK3897 _ _ ?_)))
                        refine WP_ifb (b := x3898) rfl (fun c3900 => ?_) (fun c3900 => ?_)
                        · have hF := iteB_t c3900 hF
                          have H3901 := H
                          have H := H.rebase
                          have H3902 := H
                          refine WP_mix0 H [0, 1, 2, 3, 4, 5, 6, 7, 8, 9, 10, 11] [.pure, .pure, .read, .pure, .pure, .read, .pure, .read, .fcall, .pure, .pure, .eff] mixed (by kernel_rfl) (by kernel_rfl) (by kernel_rfl) rfl ?_
                          refine Mx.XL_pure rfl rfl rfl (fun w' hw' => fa95_1 rfl) ?_
                          refine Mx.XL_pure rfl rfl rfl (fun w' hw' => fa93_1 rfl) ?_
                          refine Mx.XL_read oS rfl rfl rfl (fun w' hw' => Do_load one91 rfl (Cells.get (Blk.cells ((H.sees hw').item (i := 7) rfl)) (i := 2) rfl)) ?_
                          refine Mx.XL_pure rfl rfl rfl (fun w' hw' => Do_move (v := .int .i64 g3824) rfl) ?_
                          refine Mx.XL_pure rfl rfl rfl (fun w' hw' => fa99_1 rfl) ?_
                          refine Mx.XL_read oS rfl rfl rfl (fun w' hw' => Do_load one3 rfl (Cells.get (Blk.cells ((H.sees hw').item (i := 10) rfl)) (i := 1) rfl)) ?_
                          refine Mx.XL_pure rfl rfl rfl (fun w' hw' => fa82_1 rfl) ?_
                          refine Mx.XL_read oS rfl rfl rfl (fun w' hw' => Do_load one3 rfl (Cells.get (Blk.cells ((H.sees hw').item (i := 9) rfl)) (i := 1) rfl)) ?_
                          have H3903 := H
                          obtain ⟨x3904, e3905, hF⟩ := bindO_some hF
                          refine Mx.XL_fcall oS rfl rfl rfl (v := .int .i64 x3904) (fun w' hw' => DoC_func en62 rfl) (fun w' hw' => call_read (F_fleet_coarse_w x3882.N x3689.N _ e3905 _ _ _ (Hd.fresh0 w'))) ?_
                          have H := H3903
                          obtain ⟨x3906, e3907, hF⟩ := bindO_some hF
                          obtain ⟨b3908, c3910, cs3911, q3912, h3915, h3916⟩ := own_at (H.item (i := 8) rfl) e3907
                          obtain rfl := rSample_open h3915
                          refine Mx.XL_pure rfl rfl rfl (fun w' hw' => Do_idx u91 sz99 q3912 rfl (at_some e3907).1 (at_some e3907).2.1 rfl rfl) ?_
                          refine Mx.XL_pure rfl rfl rfl (fun w' hw' => fa99_1 rfl) ?_
                          obtain ⟨x3917, e3918, hF⟩ := bindO_some hF
                          refine Mx.XL_exU oS rfl rfl (fun w' hw' => Lx_own_store (vs := [.int .i64 x3904]) (off := 1) (H.sees hw') 8 rfl q3912 (h3916.sees hw') rfl sz3 rfl rfl rfl (allone_mem ⟨rfl, trivial⟩) e3918 (by decide) rfl (rSample_mk (x := Sample.mk x3906.At x3904 x3906.Mark))) ?_
                          rintro w' w3919 hw' H
                          refine ⟨H.only, ?_⟩
                          refine Mx.XL_nil fun w3920 hS => ?_
                          have H := H.sees hS
                          have H := H3901.rejoin H
                          have hR := Option.some.inj hF
                          subst hR
                          refine (blockQ_n (thenQ_n (And.intro ?_ ?_)))
                          · repeat' (first | with_reducible exact Fr_refl | refine Fr_upd rfl ?_ | refine Fr_over rfl rfl ?_)
                          · exact ⟨(), Sl_nil, H.pick [0, 1, 2, 3, 4, 5, 6, 7, 8, 9] (by decide)⟩
                        · have hF := iteB_f c3900 hF
                          have hR := Option.some.inj hF
                          subst hR
                          refine (WP_skip (blockQ_n (thenQ_n (And.intro ?_ ?_))))
                          · repeat' (first | with_reducible exact Fr_refl | refine Fr_upd rfl ?_ | refine Fr_over rfl rfl ?_)
                          · exact ⟨(), Sl_nil, H.pick [0, 1, 2, 3, 4, 5, 6, 7, 8, 9] (by decide)⟩
                      · rintro _ ρ w3879 H
                        have hF := hK3880
                        refine WP_region ?_
                        obtain ⟨x3921, e3922, hF⟩ := letO_some hF
                        refine RL_do rfl rfl (Do_add (a := g3824) (b := 1) rfl rfl e3922) ?_
                        refine RL_do rfl rfl (Do_move (v := .int .i64 x3921) rfl) ?_
                        refine (RL_nil (thenQ_n (And.intro ?_ ?_)))
                        · repeat' (first | with_reducible exact Fr_refl | refine Fr_upd rfl ?_ | refine Fr_over rfl rfl ?_)
                        · exact ⟨(n3831, x3921, g3878), (Sl_cons rfl Sl_nil), ⟨H.pick [0, 1, 2, 3, 4, 5, 6, 7, 8, 9] (by decide), hF⟩, Nat.lt_succ_self _⟩
                    · have hF := iteB_f c3837 hF
                      have hR := Option.some.inj hF
                      subst hR
                      refine (WP_exit (thenQ_x (thenQ_x (blockQ_eq (blockQ_n (thenQ_n (And.intro ?_ ?_)))))))
                      · repeat' (first | with_reducible exact Fr_refl | refine Fr_upd rfl ?_ | refine Fr_over rfl rfl ?_)
                      · exact ⟨(), Sl_nil, H.pick [0, 1, 2, 3, 4, 5, 6, 7, 8] (by decide)⟩
                · rintro _ ρ w3686 H
                  have hF := hK3687
                  refine WP_region ?_
                  obtain ⟨x3923, e3924, hF⟩ := letO_some hF
                  refine RL_do rfl rfl (Do_add (a := g3529) (b := 1) rfl rfl e3924) ?_
                  refine RL_do rfl rfl (Do_move (v := .int .i64 x3923) rfl) ?_
                  refine (RL_nil (thenQ_n (And.intro ?_ ?_)))
                  · repeat' (first | with_reducible exact Fr_refl | refine Fr_upd rfl ?_ | refine Fr_over rfl rfl ?_)
                  · exact ⟨(n3536, x3923, g3685), (Sl_cons rfl Sl_nil), ⟨H.pick [0, 1, 2, 3, 4, 5, 6, 7, 8] (by decide), hF⟩, Nat.lt_succ_self _⟩
              · have hF := iteB_f c3542 hF
                have hR := Option.some.inj hF
                subst hR
                refine (WP_exit (thenQ_x (thenQ_x (blockQ_eq (thenQ_n (And.intro ?_ ?_))))))
                · repeat' (first | with_reducible exact Fr_refl | refine Fr_upd rfl ?_ | refine Fr_over rfl rfl ?_)
                · exact ⟨(), Sl_nil, H.pick [0, 1, 2, 3, 4, 5, 6, 7, 8] (by decide)⟩
            · rintro _ ρ w3213 H
              have hF := hK3214
              refine WP_region ?_
              refine RL_do rfl rfl (Do_move (v := v2455) rfl) ?_
              refine RL_do rfl rfl (Do_as (Do_loads (cs := [.string (bs x2850.Name), .int .i64 x2850.Series.Den, v2887, .int .i64 x2850.Long]) agg95 rfl sz95 rfl (Blk.cells (H.item (i := 7) rfl))) rfl) ?_
              have H := H.freeze (i := 8) rfl
              obtain ⟨x3925, e3926, hF⟩ := letO_some hF
              subst e3926
              refine RL_ex rfl rfl (Lx_bs (r := rTrack) (xl := [Track.mk x2850.Name (Series.mk x2850.Series.Den g3212) x2850.Long]) (cs := [.string (bs x2850.Name), .int .i64 x2850.Series.Den, v2887, .int .i64 x2850.Long]) u45 el95 (by decide) (by decide) rfl (fillB_parts (vs := [.agg [.string (bs x2850.Name), .int .i64 x2850.Series.Den, v2887, .int .i64 x2850.Long].toArray]) (by decide) rfl rfl ⟨rfl, trivial⟩ rfl) H ⟨[.string (bs x2850.Name), .int .i64 x2850.Series.Den, v2887, .int .i64 x2850.Long], [], rfl, (rTrack_mk (x := Track.mk x2850.Name (Series.mk x2850.Series.Den g3212) x2850.Long) (H.item (i := 8) rfl)), rfl⟩) ?_
              rintro v3928 w3929 H
              obtain ⟨x3930, e3931, hF⟩ := bindO_some hF
              refine RL_ex rfl rfl (Lx_app H (i := 0) rfl u45 el95 rfl rfl (Sr.of_own (H.item (i := 9) rfl)) e3931) ?_
              rintro v3932 w3933 H
              refine RL_do rfl rfl (Do_assign (v := v3932) rfl) ?_
              have hR := Option.some.inj hF
              subst hR
              refine (RL_nil (blockQ_n (thenQ_n (And.intro ?_ ?_))))
              · repeat' (first | with_reducible exact Fr_refl | refine Fr_upd rfl ?_ | refine Fr_over rfl rfl ?_)
              · exact ⟨v3932, (Sl_cons rfl Sl_nil), H.pick [0, 1, 2, 3, 4, 5, 6] (by decide)⟩
        · rintro v2846 ρ w2847 H
          have hF := hK2848
          refine WP_region ?_
          obtain ⟨x3934, e3935, hF⟩ := letO_some hF
          refine RL_do rfl rfl (Do_add (a := g2456) (b := 1) rfl rfl e3935) ?_
          refine RL_do rfl rfl (Do_move (v := .int .i64 x3934) rfl) ?_
          refine (RL_nil (thenQ_n (And.intro ?_ ?_)))
          · repeat' (first | with_reducible exact Fr_refl | refine Fr_upd rfl ?_ | refine Fr_over rfl rfl ?_)
          · exact ⟨(n2463, g2845, x3934, v2846), (Sl_cons rfl (Sl_cons rfl Sl_nil)), ⟨H.pick [0, 1, 2, 3, 4, 5, 6] (by decide), hF⟩, Nat.lt_succ_self _⟩
      · have hF := iteB_f c2469 hF
        have hR := Option.some.inj hF
        subst hR
        refine (WP_exit (thenQ_x (thenQ_x (blockQ_eq (thenQ_n (And.intro ?_ ?_))))))
        · repeat' (first | with_reducible exact Fr_refl | refine Fr_upd rfl ?_ | refine Fr_over rfl rfl ?_)
        · exact ⟨v2455, (Sl_cons rfl Sl_nil), H.pick [0, 1, 2, 6] (by decide)⟩
    · rintro v1248 ρ w1249 H
      have hF := hK1250
      refine WP_seq_k fun K3936 hK3936 => ?_
      refine WP_region ?_
      refine RL_do rfl rfl (Do_move (v := v1248) rfl) ?_
      refine RL_do rfl rfl (fa47_5 rfl) ?_
      refine RL_exU rfl (Lx_store1 H 1 rfl sz45 rfl (v := v1248) rfl (own_one (H.item (i := 0) rfl)) rfl) ?_
      rintro w3937 H
      refine (RL_nil (thenQ_n (hK3936 _ _ ?_)))
      refine WP_seq_k fun K3938 hK3938 => ?_
      refine WP_region ?_
      refine RL_do rfl rfl (Do_as (Do_loads (cs := [.string (bs g21), .string (bs p0.Route), .int .i64 x32, .int .i64 p0.From, .int .i64 p0.To, v1248]) agg47 rfl sz47 rfl (Blk.cells (H.item (i := 1) rfl))) rfl) ?_
      refine RL_exU rfl (Lx_storeN (vs := [.string (bs g21), .string (bs p0.Route), .int .i64 x32, .int .i64 p0.From, .int .i64 p0.To, v1248]) H 3 rfl sz47 rfl rfl rfl ⟨rfl, rfl, rfl, rfl, rfl, (own_one (H.item (i := 0) rfl)), trivial⟩ rfl) ?_
      rintro w3939 H
      refine (RL_nil (thenQ_n (hK3938 _ _ ?_)))
      have H := H.freeze (i := 0) rfl
      have hR := Option.some.inj hF
      subst hR
      refine (WP_ret (postc  rfl rfl (run_loadVar_agg agg47 sz47 rfl (Blk.cells (H.item (i := 3) rfl))) ?_))
      exact ⟨v1248, rfl, H.pick [0] (by decide)⟩
end Go.Proofs.YtbjhondbheijiaaDoor.L
namespace Go.Proofs.YtbjhondbheijiaaDoor.L
open Go.RowKit Go.OB Go.Lf
/- orangebox/fleet.Masked -/
set_option maxHeartbeats 4000000 in
theorem F_fleet_Masked_w (p0 : Flight) (p1 : Mask) (v1 : Value) (v3 : Value) (v4 : Value) (r : Flight × Int) (hF : F_fleet_Masked p0 p1 = some r) (O S : List Nat) (w : World) (H : Hd O w w S [.fz (.sl rTrack v1 p0.Tracks), .fz (.sl Rp.str v3 p1.Hide), .fz (.sl rGrain v4 p1.Grains)]) :
    Calls Tryd.prog 18 ([.agg [.string (bs p0.Tail), .string (bs p0.Route), .int .i64 p0.Day, .int .i64 p0.From, .int .i64 p0.To, v1].toArray, .agg [.bool p1.Tails, .int .i64 p1.Days, v3, v4, .int .i64 p1.Least].toArray] : List Value).toArray w fun e w' => ∃ u7, e = .returned (.tuple #[.agg [.string (bs r.1.Tail), .string (bs r.1.Route), .int .i64 r.1.Day, .int .i64 r.1.From, .int .i64 r.1.To, u7].toArray, .int .i64 r.2]) ∧ Hd O w w' S [.fz (.sl rTrack u7 r.1.Tracks)] := by
  unfold F_fleet_Masked at hF
  refine calls_of_WP 23 Tryd.func18 rfl rfl rfl ?_
  refine WP_seq_k fun K8 hK8 => ?_
  refine WP_region ?_
  refine RL_ex rfl rfl (Lx_box (cs := [.string (bs p0.Tail), .string (bs p0.Route), .int .i64 p0.Day, .int .i64 p0.From, .int .i64 p0.To, v1]) rfl H) ?_
  rintro _ w11 ⟨b9, rfl, H⟩
  refine RL_ex rfl rfl (Lx_box (cs := [.bool p1.Tails, .int .i64 p1.Days, v3, v4, .int .i64 p1.Least]) rfl H) ?_
  rintro _ w14 ⟨b12, rfl, H⟩
  refine RL_ex rfl rfl (Lx_alloc zero47 H) ?_
  rintro _ w17 ⟨b15, rfl, H⟩
  refine RL_do rfl rfl (Do_assign (v := .int .i64 0) rfl) ?_
  refine (RL_nil (thenQ_n (hK8 _ _ ?_)))
  refine WP_seq_k fun K30 hK30 => ?_
  refine WP_seq_k fun K31 hK31 => ?_
  refine WP_region ?_
  refine RL_do rfl rfl (Do_as (Do_loads (cs := [.string (bs p0.Tail), .string (bs p0.Route), .int .i64 p0.Day, .int .i64 p0.From, .int .i64 p0.To, v1]) agg47 rfl sz47 rfl (Blk.cells (H.item (i := 3) rfl))) rfl) ?_
  have H32 := H
  obtain ⟨x33, e34, hF⟩ := bindO_some hF
  refine RL_call rfl rfl (DoC_func en19 rfl) (F_fleet_CheckFlight_w p0 v1 _ e34 _ _ _ (H.enter [] [0] (by decide) rfl)) ?_
  rintro _ w35 ⟨rfl, G36⟩
  have H := H32.step (G36.only : Only [] _ _)
  refine ⟨_, rfl, ?_⟩
  refine RL_do rfl rfl (Do_assign (v := .int .i64 x33) rfl) ?_
  refine (RL_nil (thenQ_n (hK31 _ _ ?_)))
  refine WP_seq_k fun K37 hK37 => ?_
  refine WP_region ?_
  refine RL_do rfl rfl (Do_move (v := .int .i64 x33) rfl) ?_
  obtain ⟨x38, e39, hF⟩ := letO_some hF
  refine RL_do rfl rfl (Do_as (Do_neq (a := x33) (b := 0) rfl rfl) (congrArg Value.bool e39)) ?_
  refine (RL_nil (thenQ_n (hK37 _ _ ?_)))
  refine WP_ifb (b := x38) rfl (fun c40 => ?_) (fun c40 => ?_)
  · have hF := iteB_t c40 hF
    refine WP_seq_k fun K41 hK41 => ?_
    refine WP_region ?_
    refine RL_do rfl rfl (Do_build (cs := [.string (bs []), .string (bs []), .int .i64 0, .int .i64 0, .int .i64 0, .slice none 0 0]) bz47) ?_
    refine RL_do rfl rfl (Do_move (v := .int .i64 x33) rfl) ?_
    refine RL_exU rfl (Lx_storeN (vs := [.string (bs []), .string (bs []), .int .i64 0, .int .i64 0, .int .i64 0, .slice none 0 0]) H 5 rfl sz47 rfl rfl rfl ⟨rfl, rfl, rfl, rfl, rfl, rfl, trivial⟩ rfl) ?_
    rintro w42 H
    refine RL_do rfl rfl (Do_assign (v := .int .i64 x33) rfl) ?_
    refine (RL_nil (thenQ_n (hK41 _ _ ?_)))
    have H := H.fz (.sl rTrack (.slice none 0 0) []) SlF.nil
    have hR := Option.some.inj hF
    subst hR
    refine (WP_ret (thenQ_r (postc1 (v1 := .int .i64 x33) rfl rfl (run_loadVar_agg agg47 sz47 rfl (Blk.cells (H.item (i := 5) rfl))) rfl ?_)))
    exact ⟨.slice none 0 0, rfl, H.pick [6] (by decide)⟩
  · have hF := iteB_f c40 hF
    refine (WP_skip (thenQ_n (hK30 _ _ ?_)))
    refine WP_seq_k fun K56 hK56 => ?_
    refine WP_seq_k fun K57 hK57 => ?_
    refine WP_region ?_
    refine RL_do rfl rfl (Do_as (Do_loads (cs := [.bool p1.Tails, .int .i64 p1.Days, v3, v4, .int .i64 p1.Least]) agg50 rfl sz50 rfl (Blk.cells (H.item (i := 4) rfl))) rfl) ?_
    have H58 := H
    obtain ⟨x59, e60, hF⟩ := bindO_some hF
    refine RL_call rfl rfl (DoC_func en21 rfl) (F_fleet_CheckMask_w p1 v3 v4 _ e60 _ _ _ (H.enter [] [1, 2] (by decide) rfl)) ?_
    rintro _ w61 ⟨rfl, G62⟩
    have H := H58.step (G62.only : Only [] _ _)
    refine ⟨_, rfl, ?_⟩
    refine RL_do rfl rfl (Do_assign (v := .int .i64 x59) rfl) ?_
    refine (RL_nil (thenQ_n (hK57 _ _ ?_)))
    refine WP_seq_k fun K63 hK63 => ?_
    refine WP_region ?_
    refine RL_do rfl rfl (Do_move (v := .int .i64 x59) rfl) ?_
    obtain ⟨x64, e65, hF⟩ := letO_some hF
    refine RL_do rfl rfl (Do_as (Do_neq (a := x59) (b := 0) rfl rfl) (congrArg Value.bool e65)) ?_
    refine (RL_nil (thenQ_n (hK63 _ _ ?_)))
    refine WP_ifb (b := x64) rfl (fun c66 => ?_) (fun c66 => ?_)
    · have hF := iteB_t c66 hF
      refine WP_seq_k fun K67 hK67 => ?_
      refine WP_region ?_
      refine RL_do rfl rfl (Do_build (cs := [.string (bs []), .string (bs []), .int .i64 0, .int .i64 0, .int .i64 0, .slice none 0 0]) bz47) ?_
      refine RL_do rfl rfl (Do_move (v := .int .i64 x59) rfl) ?_
      refine RL_exU rfl (Lx_storeN (vs := [.string (bs []), .string (bs []), .int .i64 0, .int .i64 0, .int .i64 0, .slice none 0 0]) H 5 rfl sz47 rfl rfl rfl ⟨rfl, rfl, rfl, rfl, rfl, rfl, trivial⟩ rfl) ?_
      rintro w68 H
      refine RL_do rfl rfl (Do_assign (v := .int .i64 x59) rfl) ?_
      refine (RL_nil (thenQ_n (hK67 _ _ ?_)))
      have H := H.fz (.sl rTrack (.slice none 0 0) []) SlF.nil
      have hR := Option.some.inj hF
      subst hR
      refine (WP_ret (thenQ_r (postc1 (v1 := .int .i64 x59) rfl rfl (run_loadVar_agg agg47 sz47 rfl (Blk.cells (H.item (i := 5) rfl))) rfl ?_)))
      exact ⟨.slice none 0 0, rfl, H.pick [6] (by decide)⟩
    · have hF := iteB_f c66 hF
      refine (WP_skip (thenQ_n (hK56 _ _ ?_)))
      refine WP_seq_k fun K70 hK70 => ?_
      refine WP_region ?_
      refine RL_do rfl rfl (Do_as (Do_loads (cs := [.string (bs p0.Tail), .string (bs p0.Route), .int .i64 p0.Day, .int .i64 p0.From, .int .i64 p0.To, v1]) agg47 rfl sz47 rfl (Blk.cells (H.item (i := 3) rfl))) rfl) ?_
      refine RL_do rfl rfl (Do_as (Do_loads (cs := [.bool p1.Tails, .int .i64 p1.Days, v3, v4, .int .i64 p1.Least]) agg50 rfl sz50 rfl (Blk.cells (H.item (i := 4) rfl))) rfl) ?_
      obtain ⟨x71, e72, hF⟩ := bindO_some hF
      refine RL_call rfl rfl (DoC_func en43 rfl) (F_fleet_masked_w p0 p1 v1 v3 v4 _ e72 _ _ _ (H.enter [] [0, 1, 2] (by decide) rfl)) ?_
      rintro _ w75 ⟨v73, rfl, G76⟩
      have H := H.back1 [0, 1, 2] rfl G76
      refine ⟨_, rfl, ?_⟩
      refine RL_exU rfl (Lx_storeN (vs := [.string (bs x71.Tail), .string (bs x71.Route), .int .i64 x71.Day, .int .i64 x71.From, .int .i64 x71.To, v73]) H 5 rfl sz47 rfl rfl rfl ⟨rfl, rfl, rfl, rfl, rfl, (slf_one (H.item (i := 6) rfl)), trivial⟩ rfl) ?_
      rintro w77 H
      refine RL_do rfl rfl (Do_assign (v := .int .i64 0) rfl) ?_
      refine (RL_nil (thenQ_n (hK70 _ _ ?_)))
      have hR := Option.some.inj hF
      subst hR
      refine (WP_ret (postc1 (v1 := .int .i64 0) rfl rfl (run_loadVar_agg agg47 sz47 rfl (Blk.cells (H.item (i := 5) rfl))) rfl ?_))
      exact ⟨v73, rfl, H.pick [6] (by decide)⟩
end Go.Proofs.YtbjhondbheijiaaDoor.L
namespace Go.Proofs.YtbjhondbheijiaaDoor.L
open Go.RowKit Go.OB Go.Lf
/- orangebox/orangeboxref6.words -/
set_option maxHeartbeats 4000000 in
theorem F_ref6_words_w (r : (List Str)) (hF : F_ref6_words = some r) (O S : List Nat) (w : World) (H : Hd O w w S []) :
    Calls Tryd.prog 85 ([] : List Value).toArray w fun e w' => ∃ u1, e = .returned (u1) ∧ Hd O w w' S [.own Rp.str u1 9 r] := by
  unfold F_ref6_words at hF
  refine calls_of_WP 2 Tryd.func85 rfl rfl rfl ?_
  refine WP_seq_k fun K2 hK2 => ?_
  refine WP_region ?_
  refine RL_do rfl rfl (Do_assign (v := .slice none 0 0) rfl) ?_
  refine (RL_nil (thenQ_n (hK2 _ _ ?_)))
  refine WP_seq_k fun K3 hK3 => ?_
  refine WP_region ?_
  obtain ⟨x4, e5, hF⟩ := letO_some hF
  subst e5
  refine RL_ex rfl rfl (Lx_bs (r := Rp.str) (xl := [[112, 104, 97, 115, 101], [109, 111, 118, 101], [114, 117, 108, 101], [105, 102], [111, 114], [97, 110, 100], [116, 114, 117, 101], [102, 97, 108, 115, 101], [115, 116, 101, 97, 100, 121], [110, 111, 116], [102, 111, 114], [119, 105, 116, 104, 105, 110], [99, 111, 117, 110, 116], [111, 102], [114, 105, 115, 101, 115], [115, 105, 110, 99, 101]]) (cs := [.string (bs [112, 104, 97, 115, 101]), .string (bs [109, 111, 118, 101]), .string (bs [114, 117, 108, 101]), .string (bs [105, 102]), .string (bs [111, 114]), .string (bs [97, 110, 100]), .string (bs [116, 114, 117, 101]), .string (bs [102, 97, 108, 115, 101]), .string (bs [115, 116, 101, 97, 100, 121]), .string (bs [110, 111, 116]), .string (bs [102, 111, 114]), .string (bs [119, 105, 116, 104, 105, 110]), .string (bs [99, 111, 117, 110, 116]), .string (bs [111, 102]), .string (bs [114, 105, 115, 101, 115]), .string (bs [115, 105, 110, 99, 101])]) u35 el9 (by decide) (by decide) rfl (fillB_parts (vs := [.string (bs [112, 104, 97, 115, 101]), .string (bs [109, 111, 118, 101]), .string (bs [114, 117, 108, 101]), .string (bs [105, 102]), .string (bs [111, 114]), .string (bs [97, 110, 100]), .string (bs [116, 114, 117, 101]), .string (bs [102, 97, 108, 115, 101]), .string (bs [115, 116, 101, 97, 100, 121]), .string (bs [110, 111, 116]), .string (bs [102, 111, 114]), .string (bs [119, 105, 116, 104, 105, 110]), .string (bs [99, 111, 117, 110, 116]), .string (bs [111, 102]), .string (bs [114, 105, 115, 101, 115]), .string (bs [115, 105, 110, 99, 101])]) (by decide) rfl rfl ⟨rfl, rfl, rfl, rfl, rfl, rfl, rfl, rfl, rfl, rfl, rfl, rfl, rfl, rfl, rfl, rfl, trivial⟩ rfl) H ⟨[.string (bs [112, 104, 97, 115, 101])], [.string (bs [109, 111, 118, 101]), .string (bs [114, 117, 108, 101]), .string (bs [105, 102]), .string (bs [111, 114]), .string (bs [97, 110, 100]), .string (bs [116, 114, 117, 101]), .string (bs [102, 97, 108, 115, 101]), .string (bs [115, 116, 101, 97, 100, 121]), .string (bs [110, 111, 116]), .string (bs [102, 111, 114]), .string (bs [119, 105, 116, 104, 105, 110]), .string (bs [99, 111, 117, 110, 116]), .string (bs [111, 102]), .string (bs [114, 105, 115, 101, 115]), .string (bs [115, 105, 110, 99, 101])], rfl, rfl, ⟨[.string (bs [109, 111, 118, 101])], [.string (bs [114, 117, 108, 101]), .string (bs [105, 102]), .string (bs [111, 114]), .string (bs [97, 110, 100]), .string (bs [116, 114, 117, 101]), .string (bs [102, 97, 108, 115, 101]), .string (bs [115, 116, 101, 97, 100, 121]), .string (bs [110, 111, 116]), .string (bs [102, 111, 114]), .string (bs [119, 105, 116, 104, 105, 110]), .string (bs [99, 111, 117, 110, 116]), .string (bs [111, 102]), .string (bs [114, 105, 115, 101, 115]), .string (bs [115, 105, 110, 99, 101])], rfl, rfl, ⟨[.string (bs [114, 117, 108, 101])], [.string (bs [105, 102]), .string (bs [111, 114]), .string (bs [97, 110, 100]), .string (bs [116, 114, 117, 101]), .string (bs [102, 97, 108, 115, 101]), .string (bs [115, 116, 101, 97, 100, 121]), .string (bs [110, 111, 116]), .string (bs [102, 111, 114]), .string (bs [119, 105, 116, 104, 105, 110]), .string (bs [99, 111, 117, 110, 116]), .string (bs [111, 102]), .string (bs [114, 105, 115, 101, 115]), .string (bs [115, 105, 110, 99, 101])], rfl, rfl, ⟨[.string (bs [105, 102])], [.string (bs [111, 114]), .string (bs [97, 110, 100]), .string (bs [116, 114, 117, 101]), .string (bs [102, 97, 108, 115, 101]), .string (bs [115, 116, 101, 97, 100, 121]), .string (bs [110, 111, 116]), .string (bs [102, 111, 114]), .string (bs [119, 105, 116, 104, 105, 110]), .string (bs [99, 111, 117, 110, 116]), .string (bs [111, 102]), .string (bs [114, 105, 115, 101, 115]), .string (bs [115, 105, 110, 99, 101])], rfl, rfl, ⟨[.string (bs [111, 114])], [.string (bs [97, 110, 100]), .string (bs [116, 114, 117, 101]), .string (bs [102, 97, 108, 115, 101]), .string (bs [115, 116, 101, 97, 100, 121]), .string (bs [110, 111, 116]), .string (bs [102, 111, 114]), .string (bs [119, 105, 116, 104, 105, 110]), .string (bs [99, 111, 117, 110, 116]), .string (bs [111, 102]), .string (bs [114, 105, 115, 101, 115]), .string (bs [115, 105, 110, 99, 101])], rfl, rfl, ⟨[.string (bs [97, 110, 100])], [.string (bs [116, 114, 117, 101]), .string (bs [102, 97, 108, 115, 101]), .string (bs [115, 116, 101, 97, 100, 121]), .string (bs [110, 111, 116]), .string (bs [102, 111, 114]), .string (bs [119, 105, 116, 104, 105, 110]), .string (bs [99, 111, 117, 110, 116]), .string (bs [111, 102]), .string (bs [114, 105, 115, 101, 115]), .string (bs [115, 105, 110, 99, 101])], rfl, rfl, ⟨[.string (bs [116, 114, 117, 101])], [.string (bs [102, 97, 108, 115, 101]), .string (bs [115, 116, 101, 97, 100, 121]), .string (bs [110, 111, 116]), .string (bs [102, 111, 114]), .string (bs [119, 105, 116, 104, 105, 110]), .string (bs [99, 111, 117, 110, 116]), .string (bs [111, 102]), .string (bs [114, 105, 115, 101, 115]), .string (bs [115, 105, 110, 99, 101])], rfl, rfl, ⟨[.string (bs [102, 97, 108, 115, 101])], [.string (bs [115, 116, 101, 97, 100, 121]), .string (bs [110, 111, 116]), .string (bs [102, 111, 114]), .string (bs [119, 105, 116, 104, 105, 110]), .string (bs [99, 111, 117, 110, 116]), .string (bs [111, 102]), .string (bs [114, 105, 115, 101, 115]), .string (bs [115, 105, 110, 99, 101])], rfl, rfl, ⟨[.string (bs [115, 116, 101, 97, 100, 121])], [.string (bs [110, 111, 116]), .string (bs [102, 111, 114]), .string (bs [119, 105, 116, 104, 105, 110]), .string (bs [99, 111, 117, 110, 116]), .string (bs [111, 102]), .string (bs [114, 105, 115, 101, 115]), .string (bs [115, 105, 110, 99, 101])], rfl, rfl, ⟨[.string (bs [110, 111, 116])], [.string (bs [102, 111, 114]), .string (bs [119, 105, 116, 104, 105, 110]), .string (bs [99, 111, 117, 110, 116]), .string (bs [111, 102]), .string (bs [114, 105, 115, 101, 115]), .string (bs [115, 105, 110, 99, 101])], rfl, rfl, ⟨[.string (bs [102, 111, 114])], [.string (bs [119, 105, 116, 104, 105, 110]), .string (bs [99, 111, 117, 110, 116]), .string (bs [111, 102]), .string (bs [114, 105, 115, 101, 115]), .string (bs [115, 105, 110, 99, 101])], rfl, rfl, ⟨[.string (bs [119, 105, 116, 104, 105, 110])], [.string (bs [99, 111, 117, 110, 116]), .string (bs [111, 102]), .string (bs [114, 105, 115, 101, 115]), .string (bs [115, 105, 110, 99, 101])], rfl, rfl, ⟨[.string (bs [99, 111, 117, 110, 116])], [.string (bs [111, 102]), .string (bs [114, 105, 115, 101, 115]), .string (bs [115, 105, 110, 99, 101])], rfl, rfl, ⟨[.string (bs [111, 102])], [.string (bs [114, 105, 115, 101, 115]), .string (bs [115, 105, 110, 99, 101])], rfl, rfl, ⟨[.string (bs [114, 105, 115, 101, 115])], [.string (bs [115, 105, 110, 99, 101])], rfl, rfl, ⟨[.string (bs [115, 105, 110, 99, 101])], [], rfl, rfl, rfl⟩⟩⟩⟩⟩⟩⟩⟩⟩⟩⟩⟩⟩⟩⟩⟩) ?_
  rintro v7 w8 H
  refine RL_do rfl rfl (Do_assign (v := v7) rfl) ?_
  refine (RL_nil (thenQ_n (hK3 _ _ ?_)))
  have hR := Option.some.inj hF
  subst hR
  refine (WP_ret (post1 (v1 := v7) rfl rfl ?_))
  exact ⟨v7, rfl, H.pick [0] (by decide)⟩
end Go.Proofs.YtbjhondbheijiaaDoor.L
namespace Go.Proofs.YtbjhondbheijiaaDoor.L
open Go.RowKit Go.OB Go.Lf
/- orangebox/orangeboxref6.Reserved -/
set_option maxHeartbeats 4000000 in
theorem F_ref6_Reserved_w (p0 : Str) (r : Bool) (hF : F_ref6_Reserved p0 = some r) (O S : List Nat) (w : World) (H : Hd O w w S []) :
    Calls Tryd.prog 68 ([.string (bs p0)] : List Value).toArray w fun e w' => e = .returned (.bool r) ∧ Hd O w w' S [] := by
  unfold F_ref6_Reserved at hF
  refine calls_of_WP 18 Tryd.func68 rfl rfl rfl ?_
  refine WP_seq_k fun K1 hK1 => ?_
  refine WP_region ?_
  refine RL_do rfl rfl (Do_assign (v := .bool false) rfl) ?_
  refine (RL_nil (thenQ_n (hK1 _ _ ?_)))
  refine WP_seq_k fun K2 hK2 => ?_
  refine WP_region ?_
  obtain ⟨x3, e4, hF⟩ := bindO_some hF
  refine RL_call rfl rfl (DoC_func en85 rfl) (F_ref6_words_w _ e4 _ _ _ (H.enter [] [] (by decide) rfl)) ?_
  rintro _ w7 ⟨v5, rfl, G8⟩
  have H := H.back1 [] rfl G8
  refine ⟨_, rfl, ?_⟩
  refine RL_do rfl rfl (Do_assign (v := v5) rfl) ?_
  refine (RL_nil (thenQ_n (hK2 _ _ ?_)))
  obtain ⟨k126, ek127, hF⟩ := joinO_some hF
  refine WP_seqS [2, 4, 6, 7, 8, 9, 10, 11, 12, 13, 14, 15, 16, 17] (fun (g : Unit) => []) (fun g wl => Hd O w wl S [] ∧ k126 () = some r) ?_ ?_
  · skip
    refine WP_seq_k fun K128 hK128 => ?_
    refine WP_region ?_
    refine RL_do rfl rfl (Do_assign (v := .int .i64 0) rfl) ?_
    refine (RL_nil (thenQ_n (hK128 _ _ ?_)))
    refine WP_block ?_
    unfold F_ref6_Reserved_L1 at hF
    obtain ⟨B239, n240, eB241, hF⟩ := loopO_some hF
    refine WP_loopS [2, 4, 6, 7, 8, 9, 10, 11, 12, 13, 14, 15, 16, 17] (fun (g : Nat × Int) => [(4, .int .i64 g.2)]) (fun g wl => Hd O w wl S [.own Rp.str v5 9 x3] ∧ loopN B239 g.1 g.2 = some r) (fun g => g.1) (n240, 0) (Sl_cons rfl Sl_nil) ⟨H.pick [0] (by decide), hF⟩ ?_
    clear H hF
    rintro ⟨n240, g238⟩ ρ w243 ⟨H, hF⟩
    obtain ⟨n244, rfl, hF⟩ := loopN_pos hF
    have hF := loop_body eB241 hF
    refine WP_seq_k fun K254 hK254 => ?_
    refine WP_seq_k fun K255 hK255 => ?_
    refine WP_region ?_
    refine RL_do rfl rfl (Do_move (v := .int .i64 g238) rfl) ?_
    refine RL_do rfl rfl (Do_move (v := v5) rfl) ?_
    obtain ⟨x256, e257, hF⟩ := letO_some hF
    obtain ⟨a258, c259, q260⟩ := Sr.len (Sr.of_own (H.item (i := 0) rfl))
    refine RL_do rfl rfl (Do_as (Do_len u35 q260) (congrArg (Value.int .i64) e257)) ?_
    obtain ⟨x261, e262, hF⟩ := letO_some hF
    refine RL_do rfl rfl (Do_as (Do_lss (a := g238) (b := x256) rfl rfl) (congrArg Value.bool e262)) ?_
    refine (RL_nil (thenQ_n (hK255 _ _ ?_)))
    refine WP_ifb (b := x261) rfl (fun c263 => ?_) (fun c263 => ?_)
    · have hF := iteB_t c263 hF
      refine (WP_skip (thenQ_n (hK254 _ _ ?_)))
      refine WP_seq_k fun K280 hK280 => ?_
      refine WP_block ?_
      refine WP_seq_k fun K281 hK281 => ?_
      refine WP_region ?_
      refine RL_do rfl rfl (Do_move (v := v5) rfl) ?_
      refine RL_do rfl rfl (Do_move (v := .int .i64 g238) rfl) ?_
      obtain ⟨x282, e283, hF⟩ := bindO_some hF
      obtain ⟨b284, c286, cs287, q288, h291, h292⟩ := own_at (H.item (i := 0) rfl) e283
      obtain rfl : cs287 = [.string (bs x282)] := h291
      refine RL_do rfl rfl (Do_idx u35 sz9 q288 rfl (at_some e283).1 (at_some e283).2.1 rfl rfl) ?_
      refine RL_do rfl rfl (Do_load one9 rfl (Cells.get h292 (i := 0) rfl)) ?_
      refine RL_do rfl rfl (Do_move (v := .string (bs p0)) rfl) ?_
      obtain ⟨x293, e294, hF⟩ := letO_some hF
      refine RL_do rfl rfl (Do_as (Do_eqls (s1 := x282) (s2 := p0) rfl rfl) (congrArg Value.bool e294)) ?_
      refine (RL_nil (thenQ_n (hK281 _ _ ?_)))
      refine WP_ifb (b := x293) rfl (fun c295 => ?_) (fun c295 => ?_)
      · have hF := iteB_t c295 hF
        refine WP_seq_k fun K296 hK296 => ?_
        refine WP_region ?_
        refine RL_do rfl rfl (Do_assign (v := .bool true) rfl) ?_
        refine (RL_nil (thenQ_n (hK296 _ _ ?_)))
        have hR := Option.some.inj hF
        subst hR
        refine (WP_ret (blockQ_r (thenQ_r (thenQ_r (blockQ_r (thenQ_r (post1 (v1 := .bool true) rfl rfl ?_)))))))
        exact ⟨rfl, H.pick [] (by decide)⟩
      · have hF := iteB_f c295 hF
        refine (WP_skip (blockQ_n (thenQ_n (hK280 _ _ ?_))))
        refine WP_region ?_
        refine RL_do rfl rfl (Do_move (v := .int .i64 g238) rfl) ?_
        obtain ⟨x297, e298, hF⟩ := letO_some hF
        refine RL_do rfl rfl (Do_add (a := g238) (b := 1) rfl rfl e298) ?_
        refine RL_do rfl rfl (Do_assign (v := .int .i64 x297) rfl) ?_
        refine (RL_nil (thenQ_n (And.intro ?_ ?_)))
        · repeat' (first | with_reducible exact Fr_refl | refine Fr_upd rfl ?_ | refine Fr_over rfl rfl ?_)
        · exact ⟨(n244, x297), (Sl_cons rfl Sl_nil), ⟨H.pick [0] (by decide), hF⟩, Nat.lt_succ_self _⟩
    · have hF := iteB_f c263 hF
      refine (WP_exit (thenQ_x (thenQ_x (blockQ_eq (thenQ_n (And.intro ?_ ?_))))))
      · repeat' (first | with_reducible exact Fr_refl | refine Fr_upd rfl ?_ | refine Fr_over rfl rfl ?_)
      · exact ⟨(), Sl_nil, ⟨H.pick [] (by decide), hF⟩⟩
  · rintro _ ρ w125 ⟨H, hF⟩
    have hF := join_body ek127 hF
    refine WP_seq_k fun K299 hK299 => ?_
    refine WP_region ?_
    refine RL_do rfl rfl (Do_assign (v := .bool false) rfl) ?_
    refine (RL_nil (thenQ_n (hK299 _ _ ?_)))
    have hR := Option.some.inj hF
    subst hR
    refine (WP_ret (post1 (v1 := .bool false) rfl rfl ?_))
    exact ⟨rfl, H.pick [] (by decide)⟩
end Go.Proofs.YtbjhondbheijiaaDoor.L
namespace Go.Proofs.YtbjhondbheijiaaDoor.L
open Go.RowKit Go.OB Go.Lf
/- orangebox/orangeboxref6.IsName -/
set_option maxHeartbeats 4000000 in
theorem F_ref6_IsName_w (p0 : Str) (r : Bool) (hF : F_ref6_IsName p0 = some r) (O S : List Nat) (w : World) (H : Hd O w w S []) :
    Calls Tryd.prog 46 ([.string (bs p0)] : List Value).toArray w fun e w' => e = .returned (.bool r) ∧ Hd O w w' S [] := by
  unfold F_ref6_IsName at hF
  refine calls_of_WP 49 Tryd.func46 rfl rfl rfl ?_
  refine WP_seq_k fun K1 hK1 => ?_
  refine WP_region ?_
  refine RL_do rfl rfl (Do_assign (v := .bool false) rfl) ?_
  refine (RL_nil (thenQ_n (hK1 _ _ ?_)))
  obtain ⟨k235, ek236, hF⟩ := joinO_some hF
  refine WP_seqS [2, 3, 4, 5, 6, 7, 8, 9, 10, 11, 12, 13, 14, 15, 16, 17, 18, 19, 20, 21, 22, 23, 24, 25, 26, 27, 28, 29, 30, 31, 32, 33, 34, 35, 36] (fun (g : Unit) => []) (fun g wl => Hd O w wl S [] ∧ k235 () = some r) ?_ ?_
  · skip
    refine WP_seq_k fun K237 hK237 => ?_
    refine WP_region ?_
    refine RL_do rfl rfl (Do_assign (v := .int .i64 0) rfl) ?_
    refine (RL_nil (thenQ_n (hK237 _ _ ?_)))
    refine WP_block ?_
    unfold F_ref6_IsName_L1 at hF
    obtain ⟨B464, n465, eB466, hF⟩ := loopO_some hF
    refine WP_loopS [2, 3, 4, 5, 6, 7, 8, 9, 10, 11, 12, 13, 14, 15, 16, 17, 18, 19, 20, 21, 22, 23, 24, 25, 26, 27, 28, 29, 30, 31, 32, 33, 34, 35, 36] (fun (g : Nat × Int) => [(3, .int .i64 g.2)]) (fun g wl => Hd O w wl S [] ∧ loopN B464 g.1 g.2 = some r) (fun g => g.1) (n465, 0) (Sl_cons rfl Sl_nil) ⟨H.pick [] (by decide), hF⟩ ?_
    clear H hF
    rintro ⟨n465, g463⟩ ρ w468 ⟨H, hF⟩
    obtain ⟨n469, rfl, hF⟩ := loopN_pos hF
    have hF := loop_body eB466 hF
    refine WP_seq_k fun K476 hK476 => ?_
    refine WP_seq_k fun K477 hK477 => ?_
    refine WP_region ?_
    refine RL_do rfl rfl (Do_move (v := .int .i64 g463) rfl) ?_
    refine RL_do rfl rfl (Do_move (v := .string (bs p0)) rfl) ?_
    obtain ⟨x478, e479, hF⟩ := letO_some hF
    refine RL_do rfl rfl (Do_as (Do_slen (s1 := p0) u9 rfl) (congrArg (Value.int .i64) e479)) ?_
    obtain ⟨x480, e481, hF⟩ := letO_some hF
    refine RL_do rfl rfl (Do_as (Do_lss (a := g463) (b := x478) rfl rfl) (congrArg Value.bool e481)) ?_
    refine (RL_nil (thenQ_n (hK477 _ _ ?_)))
    refine WP_ifb (b := x480) rfl (fun c482 => ?_) (fun c482 => ?_)
    · have hF := iteB_t c482 hF
      refine (WP_skip (thenQ_n (hK476 _ _ ?_)))
      refine WP_seq_k fun K531 hK531 => ?_
      refine WP_block ?_
      refine WP_seq_k fun K532 hK532 => ?_
      refine WP_region ?_
      refine RL_do rfl rfl (Do_move (v := .string (bs p0)) rfl) ?_
      refine RL_do rfl rfl (Do_move (v := .int .i64 g463) rfl) ?_
      obtain ⟨x533, e534, hF⟩ := bindO_some hF
      refine RL_do rfl rfl (Do_sidx (s1 := p0) (q := g463) u9 rfl rfl e534) ?_
      refine RL_do rfl rfl (Do_assign (v := .int .u8 x533) rfl) ?_
      refine (RL_nil (thenQ_n (hK532 _ _ ?_)))
      obtain ⟨g575, hF, hK577⟩ := bindO_some hF
      refine WP_seqS [14, 15, 16, 17, 18, 19, 20, 21, 22, 23, 24, 25, 26, 27, 28, 29, 30, 31, 32, 33, 34, 35, 36] (fun (g : Unit) => [(36, .bool g575)]) (fun g wl => Hd O w wl S []) ?_ ?_
      · skip
        refine WP_region ?_
        refine RL_do rfl rfl (Do_move (v := .int .u8 x533) rfl) ?_
        obtain ⟨x578, e579, hF⟩ := letO_some hF
        refine RL_do rfl rfl (Do_as (Do_geq (a := x533) (b := 97) rfl rfl) (congrArg Value.bool e579)) ?_
        refine RL_splitb (b := x578) rfl rfl rfl (fun c580 => ?_) (fun c580 => ?_)
        · have hF := iteB_t c580 hF
          refine RL_do rfl rfl (Do_move (v := .int .u8 x533) rfl) ?_
          obtain ⟨x581, e582, hF⟩ := letO_some hF
          refine RL_do rfl rfl (Do_as (Do_leq (a := x533) (b := 122) rfl rfl) (congrArg Value.bool e582)) ?_
          refine RL_do rfl rfl (Do_pick_t (v := .bool x581) rfl rfl) ?_
          refine RL_splitb (b := x581) rfl rfl rfl (fun c583 => ?_) (fun c583 => ?_)
          · have hF := iteB_t c583 hF
            refine RL_off rfl rfl ?_
            refine RL_off rfl rfl ?_
            refine RL_off rfl rfl ?_
            refine RL_off rfl rfl ?_
            refine RL_off rfl rfl ?_
            refine RL_off rfl rfl ?_
            refine RL_off rfl rfl ?_
            refine RL_off rfl rfl ?_
            refine RL_off rfl rfl ?_
            refine RL_off rfl rfl ?_
            refine RL_off rfl rfl ?_
            refine RL_off rfl rfl ?_
            refine RL_off rfl rfl ?_
            refine RL_off rfl rfl ?_
            refine RL_do rfl rfl (Do_pick_t (v := .bool true) rfl rfl) ?_
            refine RL_do rfl rfl (Do_not (p := true) rfl) ?_
            have hR := Option.some.inj hF
            subst hR
            refine (RL_nil (thenQ_n (And.intro ?_ ?_)))
            · repeat' (first | with_reducible exact Fr_refl | refine Fr_upd rfl ?_ | refine Fr_over rfl rfl ?_)
            · exact ⟨(), (Sl_cons rfl Sl_nil), H.pick [] (by decide)⟩
          · have hF := iteB_f c583 hF
            refine RL_do rfl rfl (Do_move (v := .int .i64 g463) rfl) ?_
            obtain ⟨x584, e585, hF⟩ := letO_some hF
            refine RL_do rfl rfl (Do_as (Do_gtr (a := g463) (b := 0) rfl rfl) (congrArg Value.bool e585)) ?_
            refine RL_splitb (b := x584) rfl rfl rfl (fun c586 => ?_) (fun c586 => ?_)
            · have hF := iteB_t c586 hF
              refine RL_do rfl rfl (Do_move (v := .int .u8 x533) rfl) ?_
              obtain ⟨x587, e588, hF⟩ := letO_some hF
              refine RL_do rfl rfl (Do_as (Do_geq (a := x533) (b := 48) rfl rfl) (congrArg Value.bool e588)) ?_
              refine RL_splitb (b := x587) rfl rfl rfl (fun c589 => ?_) (fun c589 => ?_)
              · have hF := iteB_t c589 hF
                refine RL_do rfl rfl (Do_move (v := .int .u8 x533) rfl) ?_
                obtain ⟨x590, e591, hF⟩ := letO_some hF
                refine RL_do rfl rfl (Do_as (Do_leq (a := x533) (b := 57) rfl rfl) (congrArg Value.bool e591)) ?_
                refine RL_do rfl rfl (Do_pick_t (v := .bool x590) rfl rfl) ?_
                refine RL_splitb (b := x590) rfl rfl rfl (fun c592 => ?_) (fun c592 => ?_)
                · have hF := iteB_t c592 hF
                  refine RL_off rfl rfl ?_
                  refine RL_off rfl rfl ?_
                  refine RL_do rfl rfl (Do_pick_t (v := .bool true) rfl rfl) ?_
                  refine RL_do rfl rfl (Do_pick_t (v := .bool true) rfl rfl) ?_
                  refine RL_do rfl rfl (Do_pick_f (v := .bool true) rfl rfl) ?_
                  refine RL_do rfl rfl (Do_not (p := true) rfl) ?_
                  have hR := Option.some.inj hF
                  subst hR
                  refine (RL_nil (thenQ_n (And.intro ?_ ?_)))
                  · repeat' (first | with_reducible exact Fr_refl | refine Fr_upd rfl ?_ | refine Fr_over rfl rfl ?_)
                  · exact ⟨(), (Sl_cons rfl Sl_nil), H.pick [] (by decide)⟩
                · have hF := iteB_f c592 hF
                  refine RL_do rfl rfl (Do_move (v := .int .u8 x533) rfl) ?_
                  obtain ⟨x593, e594, hF⟩ := letO_some hF
                  refine RL_do rfl rfl (Do_as (Do_eql (a := x533) (b := 45) rfl rfl) (congrArg Value.bool e594)) ?_
                  refine RL_do rfl rfl (Do_pick_f (v := .bool x593) rfl rfl) ?_
                  refine RL_do rfl rfl (Do_pick_t (v := .bool x593) rfl rfl) ?_
                  refine RL_do rfl rfl (Do_pick_f (v := .bool x593) rfl rfl) ?_
                  obtain ⟨x595, e596, hF⟩ := letO_some hF
                  refine RL_do rfl rfl (Do_as (Do_not (p := x593) rfl) (congrArg Value.bool e596)) ?_
                  have hR := Option.some.inj hF
                  subst hR
                  refine (RL_nil (thenQ_n (And.intro ?_ ?_)))
                  · repeat' (first | with_reducible exact Fr_refl | refine Fr_upd rfl ?_ | refine Fr_over rfl rfl ?_)
                  · exact ⟨(), (Sl_cons rfl Sl_nil), H.pick [] (by decide)⟩
              · have hF := iteB_f c589 hF
                refine RL_off rfl rfl ?_
                refine RL_off rfl rfl ?_
                refine RL_do rfl rfl (Do_pick_f (v := .bool false) rfl rfl) ?_
                refine RL_do rfl rfl (Do_move (v := .bool false) rfl) ?_
                refine RL_do rfl rfl (Do_move (v := .int .u8 x533) rfl) ?_
                obtain ⟨x597, e598, hF⟩ := letO_some hF
                refine RL_do rfl rfl (Do_as (Do_eql (a := x533) (b := 45) rfl rfl) (congrArg Value.bool e598)) ?_
                refine RL_do rfl rfl (Do_pick_f (v := .bool x597) rfl rfl) ?_
                refine RL_do rfl rfl (Do_pick_t (v := .bool x597) rfl rfl) ?_
                refine RL_do rfl rfl (Do_pick_f (v := .bool x597) rfl rfl) ?_
                obtain ⟨x599, e600, hF⟩ := letO_some hF
                refine RL_do rfl rfl (Do_as (Do_not (p := x597) rfl) (congrArg Value.bool e600)) ?_
                have hR := Option.some.inj hF
                subst hR
                refine (RL_nil (thenQ_n (And.intro ?_ ?_)))
                · repeat' (first | with_reducible exact Fr_refl | refine Fr_upd rfl ?_ | refine Fr_over rfl rfl ?_)
                · exact ⟨(), (Sl_cons rfl Sl_nil), H.pick [] (by decide)⟩
            · have hF := iteB_f c586 hF
              refine RL_off rfl rfl ?_
              refine RL_off rfl rfl ?_
              refine RL_off rfl rfl ?_
              refine RL_off rfl rfl ?_
              refine RL_off rfl rfl ?_
              refine RL_off rfl rfl ?_
              refine RL_off rfl rfl ?_
              refine RL_off rfl rfl ?_
              refine RL_off rfl rfl ?_
              refine RL_off rfl rfl ?_
              refine RL_do rfl rfl (Do_pick_f (v := .bool false) rfl rfl) ?_
              refine RL_do rfl rfl (Do_pick_f (v := .bool false) rfl rfl) ?_
              refine RL_do rfl rfl (Do_not (p := false) rfl) ?_
              have hR := Option.some.inj hF
              subst hR
              refine (RL_nil (thenQ_n (And.intro ?_ ?_)))
              · repeat' (first | with_reducible exact Fr_refl | refine Fr_upd rfl ?_ | refine Fr_over rfl rfl ?_)
              · exact ⟨(), (Sl_cons rfl Sl_nil), H.pick [] (by decide)⟩
        · have hF := iteB_f c580 hF
          refine RL_off rfl rfl ?_
          refine RL_off rfl rfl ?_
          refine RL_do rfl rfl (Do_pick_f (v := .bool false) rfl rfl) ?_
          refine RL_do rfl rfl (Do_move (v := .bool false) rfl) ?_
          refine RL_do rfl rfl (Do_move (v := .int .i64 g463) rfl) ?_
          obtain ⟨x601, e602, hF⟩ := letO_some hF
          refine RL_do rfl rfl (Do_as (Do_gtr (a := g463) (b := 0) rfl rfl) (congrArg Value.bool e602)) ?_
          refine RL_splitb (b := x601) rfl rfl rfl (fun c603 => ?_) (fun c603 => ?_)
          · have hF := iteB_t c603 hF
            refine RL_do rfl rfl (Do_move (v := .int .u8 x533) rfl) ?_
            obtain ⟨x604, e605, hF⟩ := letO_some hF
            refine RL_do rfl rfl (Do_as (Do_geq (a := x533) (b := 48) rfl rfl) (congrArg Value.bool e605)) ?_
            refine RL_splitb (b := x604) rfl rfl rfl (fun c606 => ?_) (fun c606 => ?_)
            · have hF := iteB_t c606 hF
              refine RL_do rfl rfl (Do_move (v := .int .u8 x533) rfl) ?_
              obtain ⟨x607, e608, hF⟩ := letO_some hF
              refine RL_do rfl rfl (Do_as (Do_leq (a := x533) (b := 57) rfl rfl) (congrArg Value.bool e608)) ?_
              refine RL_do rfl rfl (Do_pick_t (v := .bool x607) rfl rfl) ?_
              refine RL_splitb (b := x607) rfl rfl rfl (fun c609 => ?_) (fun c609 => ?_)
              · have hF := iteB_t c609 hF
                refine RL_off rfl rfl ?_
                refine RL_off rfl rfl ?_
                refine RL_do rfl rfl (Do_pick_t (v := .bool true) rfl rfl) ?_
                refine RL_do rfl rfl (Do_pick_t (v := .bool true) rfl rfl) ?_
                refine RL_do rfl rfl (Do_pick_f (v := .bool true) rfl rfl) ?_
                refine RL_do rfl rfl (Do_not (p := true) rfl) ?_
                have hR := Option.some.inj hF
                subst hR
                refine (RL_nil (thenQ_n (And.intro ?_ ?_)))
                · repeat' (first | with_reducible exact Fr_refl | refine Fr_upd rfl ?_ | refine Fr_over rfl rfl ?_)
                · exact ⟨(), (Sl_cons rfl Sl_nil), H.pick [] (by decide)⟩
              · have hF := iteB_f c609 hF
                refine RL_do rfl rfl (Do_move (v := .int .u8 x533) rfl) ?_
                obtain ⟨x610, e611, hF⟩ := letO_some hF
                refine RL_do rfl rfl (Do_as (Do_eql (a := x533) (b := 45) rfl rfl) (congrArg Value.bool e611)) ?_
                refine RL_do rfl rfl (Do_pick_f (v := .bool x610) rfl rfl) ?_
                refine RL_do rfl rfl (Do_pick_t (v := .bool x610) rfl rfl) ?_
                refine RL_do rfl rfl (Do_pick_f (v := .bool x610) rfl rfl) ?_
                obtain ⟨x612, e613, hF⟩ := letO_some hF
                refine RL_do rfl rfl (Do_as (Do_not (p := x610) rfl) (congrArg Value.bool e613)) ?_
                have hR := Option.some.inj hF
                subst hR
                refine (RL_nil (thenQ_n (And.intro ?_ ?_)))
                · repeat' (first | with_reducible exact Fr_refl | refine Fr_upd rfl ?_ | refine Fr_over rfl rfl ?_)
                · exact ⟨(), (Sl_cons rfl Sl_nil), H.pick [] (by decide)⟩
            · have hF := iteB_f c606 hF
              refine RL_off rfl rfl ?_
              refine RL_off rfl rfl ?_
              refine RL_do rfl rfl (Do_pick_f (v := .bool false) rfl rfl) ?_
              refine RL_do rfl rfl (Do_move (v := .bool false) rfl) ?_
              refine RL_do rfl rfl (Do_move (v := .int .u8 x533) rfl) ?_
              obtain ⟨x614, e615, hF⟩ := letO_some hF
              refine RL_do rfl rfl (Do_as (Do_eql (a := x533) (b := 45) rfl rfl) (congrArg Value.bool e615)) ?_
              refine RL_do rfl rfl (Do_pick_f (v := .bool x614) rfl rfl) ?_
              refine RL_do rfl rfl (Do_pick_t (v := .bool x614) rfl rfl) ?_
              refine RL_do rfl rfl (Do_pick_f (v := .bool x614) rfl rfl) ?_
              obtain ⟨x616, e617, hF⟩ := letO_some hF
              refine RL_do rfl rfl (Do_as (Do_not (p := x614) rfl) (congrArg Value.bool e617)) ?_
              have hR := Option.some.inj hF
              subst hR
              refine (RL_nil (thenQ_n (And.intro ?_ ?_)))
              · repeat' (first | with_reducible exact Fr_refl | refine Fr_upd rfl ?_ | refine Fr_over rfl rfl ?_)
              · exact ⟨(), (Sl_cons rfl Sl_nil), H.pick [] (by decide)⟩
          · have hF := iteB_f c603 hF
            refine RL_off rfl rfl ?_
            refine RL_off rfl rfl ?_
            refine RL_off rfl rfl ?_
            refine RL_off rfl rfl ?_
            refine RL_off rfl rfl ?_
            refine RL_off rfl rfl ?_
            refine RL_off rfl rfl ?_
            refine RL_off rfl rfl ?_
            refine RL_off rfl rfl ?_
            refine RL_off rfl rfl ?_
            refine RL_do rfl rfl (Do_pick_f (v := .bool false) rfl rfl) ?_
            refine RL_do rfl rfl (Do_pick_f (v := .bool false) rfl rfl) ?_
            refine RL_do rfl rfl (Do_not (p := false) rfl) ?_
            have hR := Option.some.inj hF
            subst hR
            refine (RL_nil (thenQ_n (And.intro ?_ ?_)))
            · repeat' (first | with_reducible exact Fr_refl | refine Fr_upd rfl ?_ | refine Fr_over rfl rfl ?_)
            · exact ⟨(), (Sl_cons rfl Sl_nil), H.pick [] (by decide)⟩
      · rintro _ ρ w576 H
        have hF := hK577
        refine WP_ifb (b := g575) rfl (fun c618 => ?_) (fun c618 => ?_)
        · have hF := iteB_t c618 hF
          refine WP_seq_k fun K619 hK619 => ?_
          refine WP_region ?_
          refine RL_do rfl rfl (Do_assign (v := .bool false) rfl) ?_
          refine (RL_nil (thenQ_n (hK619 _ _ ?_)))
          have hR := Option.some.inj hF
          subst hR
          refine (WP_ret (blockQ_r (thenQ_r (thenQ_r (blockQ_r (thenQ_r (post1 (v1 := .bool false) rfl rfl ?_)))))))
          exact ⟨rfl, H.pick [] (by decide)⟩
        · have hF := iteB_f c618 hF
          refine (WP_skip (blockQ_n (thenQ_n (hK531 _ _ ?_))))
          refine WP_region ?_
          refine RL_do rfl rfl (Do_move (v := .int .i64 g463) rfl) ?_
          obtain ⟨x620, e621, hF⟩ := letO_some hF
          refine RL_do rfl rfl (Do_add (a := g463) (b := 1) rfl rfl e621) ?_
          refine RL_do rfl rfl (Do_assign (v := .int .i64 x620) rfl) ?_
          refine (RL_nil (thenQ_n (And.intro ?_ ?_)))
          · repeat' (first | with_reducible exact Fr_refl | refine Fr_upd rfl ?_ | refine Fr_over rfl rfl ?_)
          · exact ⟨(n469, x620), (Sl_cons rfl Sl_nil), ⟨H.pick [] (by decide), hF⟩, Nat.lt_succ_self _⟩
    · have hF := iteB_f c482 hF
      refine (WP_exit (thenQ_x (thenQ_x (blockQ_eq (thenQ_n (And.intro ?_ ?_))))))
      · repeat' (first | with_reducible exact Fr_refl | refine Fr_upd rfl ?_ | refine Fr_over rfl rfl ?_)
      · exact ⟨(), Sl_nil, ⟨H.pick [] (by decide), hF⟩⟩
  · rintro _ ρ w234 ⟨H, hF⟩
    have hF := join_body ek236 hF
    obtain ⟨g637, hF, hK639⟩ := bindO_some hF
    refine WP_seqS [2, 37, 38, 39, 40, 41, 42, 43, 44, 45, 46, 47, 48] (fun (g : Unit) => [(2, .bool g637)]) (fun g wl => Hd O w wl S []) ?_ ?_
    · skip
      refine WP_region ?_
      refine RL_do rfl rfl (Do_move (v := .string (bs p0)) rfl) ?_
      obtain ⟨x640, e641, hF⟩ := letO_some hF
      refine RL_do rfl rfl (Do_as (Do_neqs (s1 := p0) (s2 := []) rfl rfl) (congrArg Value.bool e641)) ?_
      refine RL_splitb (b := x640) rfl rfl rfl (fun c642 => ?_) (fun c642 => ?_)
      · have hF := iteB_t c642 hF
        refine RL_do rfl rfl (Do_move (v := .string (bs p0)) rfl) ?_
        obtain ⟨x643, e644, hF⟩ := letO_some hF
        refine RL_do rfl rfl (Do_as (Do_slen (s1 := p0) u9 rfl) (congrArg (Value.int .i64) e644)) ?_
        obtain ⟨x645, e646, hF⟩ := letO_some hF
        refine RL_do rfl rfl (Do_as (Do_leq (a := x643) (b := 30) rfl rfl) (congrArg Value.bool e646)) ?_
        refine RL_do rfl rfl (Do_pick_t (v := .bool x645) rfl rfl) ?_
        refine RL_splitb (b := x645) rfl rfl rfl (fun c647 => ?_) (fun c647 => ?_)
        · have hF := iteB_t c647 hF
          refine RL_do rfl rfl (Do_move (v := .string (bs p0)) rfl) ?_
          have H648 := H
          obtain ⟨x649, e650, hF⟩ := bindO_some hF
          refine RL_call rfl rfl (DoC_func en68 rfl) (F_ref6_Reserved_w p0 _ e650 _ _ _ (H.enter [] [] (by decide) rfl)) ?_
          rintro _ w651 ⟨rfl, G652⟩
          have H := H648.step (G652.only : Only [] _ _)
          refine ⟨_, rfl, ?_⟩
          obtain ⟨x653, e654, hF⟩ := letO_some hF
          refine RL_do rfl rfl (Do_as (Do_not (p := x649) rfl) (congrArg Value.bool e654)) ?_
          refine RL_do rfl rfl (Do_pick_t (v := .bool x653) rfl rfl) ?_
          refine RL_do rfl rfl (Do_assign (v := .bool x653) rfl) ?_
          have hR := Option.some.inj hF
          subst hR
          refine (RL_nil (thenQ_n (And.intro ?_ ?_)))
          · repeat' (first | with_reducible exact Fr_refl | refine Fr_upd rfl ?_ | refine Fr_over rfl rfl ?_)
          · exact ⟨(), (Sl_cons rfl Sl_nil), H.pick [] (by decide)⟩
        · have hF := iteB_f c647 hF
          refine RL_off rfl rfl ?_
          refine RL_off rfl rfl ?_
          refine RL_off rfl rfl ?_
          refine RL_do rfl rfl (Do_pick_f (v := .bool false) rfl rfl) ?_
          refine RL_do rfl rfl (Do_assign (v := .bool false) rfl) ?_
          have hR := Option.some.inj hF
          subst hR
          refine (RL_nil (thenQ_n (And.intro ?_ ?_)))
          · repeat' (first | with_reducible exact Fr_refl | refine Fr_upd rfl ?_ | refine Fr_over rfl rfl ?_)
          · exact ⟨(), (Sl_cons rfl Sl_nil), H.pick [] (by decide)⟩
      · have hF := iteB_f c642 hF
        refine RL_off rfl rfl ?_
        refine RL_off rfl rfl ?_
        refine RL_off rfl rfl ?_
        refine RL_do rfl rfl (Do_pick_f (v := .bool false) rfl rfl) ?_
        refine RL_do rfl rfl (Do_move (v := .bool false) rfl) ?_
        refine RL_off rfl rfl ?_
        refine RL_off rfl rfl ?_
        refine RL_off rfl rfl ?_
        refine RL_do rfl rfl (Do_pick_f (v := .bool false) rfl rfl) ?_
        refine RL_do rfl rfl (Do_assign (v := .bool false) rfl) ?_
        have hR := Option.some.inj hF
        subst hR
        refine (RL_nil (thenQ_n (And.intro ?_ ?_)))
        · repeat' (first | with_reducible exact Fr_refl | refine Fr_upd rfl ?_ | refine Fr_over rfl rfl ?_)
        · exact ⟨(), (Sl_cons rfl Sl_nil), H.pick [] (by decide)⟩
    · rintro _ ρ w638 H
      have hF := hK639
      have hR := Option.some.inj hF
      subst hR
      refine (WP_ret (post1 (v1 := .bool g637) rfl rfl ?_))
      exact ⟨rfl, H.pick [] (by decide)⟩
end Go.Proofs.YtbjhondbheijiaaDoor.L
namespace Go.Proofs.YtbjhondbheijiaaDoor.L
open Go.RowKit Go.OB Go.Lf
/- orangebox/orangeboxref9.outside -/
set_option maxHeartbeats 4000000 in
theorem F_ref9_outside_w (p0 : Int) (p1 : Int) (p2 : Int) (r : Bool) (hF : F_ref9_outside p0 p1 p2 = some r) (O S : List Nat) (w : World) (H : Hd O w w S []) :
    Calls Tryd.prog 32 ([.int .i64 p0, .int .i64 p1, .int .i64 p2] : List Value).toArray w fun e w' => e = .returned (.bool r) ∧ Hd O w w' S [] := by
  unfold F_ref9_outside at hF
  refine calls_of_WP 15 Tryd.func32 rfl rfl rfl ?_
  refine WP_seq_k fun K1 hK1 => ?_
  refine WP_region ?_
  refine RL_do rfl rfl (Do_assign (v := .bool false) rfl) ?_
  refine (RL_nil (thenQ_n (hK1 _ _ ?_)))
  obtain ⟨g7, hF, hK9⟩ := bindO_some hF
  refine WP_seqS [6, 7, 8, 9, 10, 11, 12, 13, 14] (fun (g : Unit) => [(6, .bool g7)]) (fun g wl => Hd O w wl S []) ?_ ?_
  · skip
    refine WP_region ?_
    refine RL_do rfl rfl (Do_move (v := .int .i64 p0) rfl) ?_
    refine RL_do rfl rfl (Do_move (v := .int .i64 p1) rfl) ?_
    obtain ⟨x10, e11, hF⟩ := letO_some hF
    refine RL_do rfl rfl (Do_as (Do_lss (a := p0) (b := p1) rfl rfl) (congrArg Value.bool e11)) ?_
    refine RL_splitb (b := x10) rfl rfl rfl (fun c12 => ?_) (fun c12 => ?_)
    · have hF := iteB_t c12 hF
      refine RL_off rfl rfl ?_
      refine RL_off rfl rfl ?_
      refine RL_off rfl rfl ?_
      refine RL_do rfl rfl (Do_pick_t (v := .bool true) rfl rfl) ?_
      refine RL_do rfl rfl (Do_assign (v := .bool true) rfl) ?_
      have hR := Option.some.inj hF
      subst hR
      refine (RL_nil (thenQ_n (And.intro ?_ ?_)))
      · repeat' (first | with_reducible exact Fr_refl | refine Fr_upd rfl ?_ | refine Fr_over rfl rfl ?_)
      · exact ⟨(), (Sl_cons rfl Sl_nil), H.pick [] (by decide)⟩
    · have hF := iteB_f c12 hF
      refine RL_do rfl rfl (Do_move (v := .int .i64 p0) rfl) ?_
      refine RL_do rfl rfl (Do_move (v := .int .i64 p2) rfl) ?_
      obtain ⟨x13, e14, hF⟩ := letO_some hF
      refine RL_do rfl rfl (Do_as (Do_gtr (a := p0) (b := p2) rfl rfl) (congrArg Value.bool e14)) ?_
      refine RL_do rfl rfl (Do_pick_f (v := .bool x13) rfl rfl) ?_
      refine RL_do rfl rfl (Do_assign (v := .bool x13) rfl) ?_
      have hR := Option.some.inj hF
      subst hR
      refine (RL_nil (thenQ_n (And.intro ?_ ?_)))
      · repeat' (first | with_reducible exact Fr_refl | refine Fr_upd rfl ?_ | refine Fr_over rfl rfl ?_)
      · exact ⟨(), (Sl_cons rfl Sl_nil), H.pick [] (by decide)⟩
  · rintro _ ρ w8 H
    have hF := hK9
    have hR := Option.some.inj hF
    subst hR
    refine (WP_ret (post1 (v1 := .bool g7) rfl rfl ?_))
    exact ⟨rfl, H.pick [] (by decide)⟩
end Go.Proofs.YtbjhondbheijiaaDoor.L
namespace Go.Proofs.YtbjhondbheijiaaDoor.L
open Go.RowKit Go.OB Go.Lf
/- orangebox/orangeboxref5.outside -/
set_option maxHeartbeats 4000000 in
theorem F_ref5_outside_w (p0 : Int) (p1 : Int) (p2 : Int) (r : Bool) (hF : F_ref5_outside p0 p1 p2 = some r) (O S : List Nat) (w : World) (H : Hd O w w S []) :
    Calls Tryd.prog 96 ([.int .i64 p0, .int .i64 p1, .int .i64 p2] : List Value).toArray w fun e w' => e = .returned (.bool r) ∧ Hd O w w' S [] := by
  unfold F_ref5_outside at hF
  refine calls_of_WP 15 Tryd.func96 rfl rfl rfl ?_
  refine WP_seq_k fun K1 hK1 => ?_
  refine WP_region ?_
  refine RL_do rfl rfl (Do_assign (v := .bool false) rfl) ?_
  refine (RL_nil (thenQ_n (hK1 _ _ ?_)))
  obtain ⟨g7, hF, hK9⟩ := bindO_some hF
  refine WP_seqS [6, 7, 8, 9, 10, 11, 12, 13, 14] (fun (g : Unit) => [(6, .bool g7)]) (fun g wl => Hd O w wl S []) ?_ ?_
  · skip
    refine WP_region ?_
    refine RL_do rfl rfl (Do_move (v := .int .i64 p0) rfl) ?_
    refine RL_do rfl rfl (Do_move (v := .int .i64 p1) rfl) ?_
    obtain ⟨x10, e11, hF⟩ := letO_some hF
    refine RL_do rfl rfl (Do_as (Do_lss (a := p0) (b := p1) rfl rfl) (congrArg Value.bool e11)) ?_
    refine RL_splitb (b := x10) rfl rfl rfl (fun c12 => ?_) (fun c12 => ?_)
    · have hF := iteB_t c12 hF
      refine RL_off rfl rfl ?_
      refine RL_off rfl rfl ?_
      refine RL_off rfl rfl ?_
      refine RL_do rfl rfl (Do_pick_t (v := .bool true) rfl rfl) ?_
      refine RL_do rfl rfl (Do_assign (v := .bool true) rfl) ?_
      have hR := Option.some.inj hF
      subst hR
      refine (RL_nil (thenQ_n (And.intro ?_ ?_)))
      · repeat' (first | with_reducible exact Fr_refl | refine Fr_upd rfl ?_ | refine Fr_over rfl rfl ?_)
      · exact ⟨(), (Sl_cons rfl Sl_nil), H.pick [] (by decide)⟩
    · have hF := iteB_f c12 hF
      refine RL_do rfl rfl (Do_move (v := .int .i64 p0) rfl) ?_
      refine RL_do rfl rfl (Do_move (v := .int .i64 p2) rfl) ?_
      obtain ⟨x13, e14, hF⟩ := letO_some hF
      refine RL_do rfl rfl (Do_as (Do_gtr (a := p0) (b := p2) rfl rfl) (congrArg Value.bool e14)) ?_
      refine RL_do rfl rfl (Do_pick_f (v := .bool x13) rfl rfl) ?_
      refine RL_do rfl rfl (Do_assign (v := .bool x13) rfl) ?_
      have hR := Option.some.inj hF
      subst hR
      refine (RL_nil (thenQ_n (And.intro ?_ ?_)))
      · repeat' (first | with_reducible exact Fr_refl | refine Fr_upd rfl ?_ | refine Fr_over rfl rfl ?_)
      · exact ⟨(), (Sl_cons rfl Sl_nil), H.pick [] (by decide)⟩
  · rintro _ ρ w8 H
    have hF := hK9
    have hR := Option.some.inj hF
    subst hR
    refine (WP_ret (post1 (v1 := .bool g7) rfl rfl ?_))
    exact ⟨rfl, H.pick [] (by decide)⟩
end Go.Proofs.YtbjhondbheijiaaDoor.L
namespace Go.Proofs.YtbjhondbheijiaaDoor.L
open Go.RowKit Go.OB Go.Lf
/- orangebox/orangeboxref5.numbered -/
set_option maxHeartbeats 4000000 in
theorem F_ref5_numbered_w (p0 : Int) (r : Bool) (hF : F_ref5_numbered p0 = some r) (O S : List Nat) (w : World) (H : Hd O w w S []) :
    Calls Tryd.prog 105 ([.int .i64 p0] : List Value).toArray w fun e w' => e = .returned (.bool r) ∧ Hd O w w' S [] := by
  unfold F_ref5_numbered at hF
  refine calls_of_WP 5 Tryd.func105 rfl rfl rfl ?_
  refine WP_seq_k fun K1 hK1 => ?_
  refine WP_region ?_
  refine RL_do rfl rfl (Do_assign (v := .bool false) rfl) ?_
  refine (RL_nil (thenQ_n (hK1 _ _ ?_)))
  refine WP_seq_k fun K2 hK2 => ?_
  refine WP_region ?_
  refine RL_do rfl rfl (Do_move (v := .int .i64 p0) rfl) ?_
  obtain ⟨x3, e4, hF⟩ := letO_some hF
  refine RL_do rfl rfl (Do_as (Do_geq (a := p0) (b := 2) rfl rfl) (congrArg Value.bool e4)) ?_
  refine RL_do rfl rfl (Do_assign (v := .bool x3) rfl) ?_
  refine (RL_nil (thenQ_n (hK2 _ _ ?_)))
  have hR := Option.some.inj hF
  subst hR
  refine (WP_ret (post1 (v1 := .bool x3) rfl rfl ?_))
  exact ⟨rfl, H.pick [] (by decide)⟩
end Go.Proofs.YtbjhondbheijiaaDoor.L
namespace Go.Proofs.YtbjhondbheijiaaDoor.L
open Go.RowKit Go.OB Go.Lf
/- orangebox/orangeboxref5.sampleFault -/
set_option maxHeartbeats 4000000 in
theorem F_ref5_sampleFault_w (p0 : Sample) (r : Int) (hF : F_ref5_sampleFault p0 = some r) (O S : List Nat) (w : World) (H : Hd O w w S []) :
    Calls Tryd.prog 97 ([.agg [.int .i64 p0.At, .int .i64 p0.N, .int .i64 p0.Mark].toArray] : List Value).toArray w fun e w' => e = .returned (.int .i64 r) ∧ Hd O w w' S [] := by
  unfold F_ref5_sampleFault at hF
  refine calls_of_WP 25 Tryd.func97 rfl rfl rfl ?_
  refine WP_seq_k fun K1 hK1 => ?_
  refine WP_region ?_
  refine RL_ex rfl rfl (Lx_box (cs := [.int .i64 p0.At, .int .i64 p0.N, .int .i64 p0.Mark]) rfl H) ?_
  rintro _ w4 ⟨b2, rfl, H⟩
  refine RL_do rfl rfl (Do_assign (v := .int .i64 0) rfl) ?_
  refine (RL_nil (thenQ_n (hK1 _ _ ?_)))
  refine WP_seq_k fun K27 hK27 => ?_
  obtain ⟨g45, hF, hK47⟩ := bindO_some hF
  refine WP_seqS [3, 4, 5, 6, 7, 8, 9, 10, 11, 12, 13, 14, 15] (fun (g : Unit) => [(15, .bool g45)]) (fun g wl => Hd O w wl S [.blk b2 [.int .i64 p0.At, .int .i64 p0.N, .int .i64 p0.Mark] 99]) ?_ ?_
  · skip
    refine WP_region ?_
    refine RL_do rfl rfl (fa99_0 rfl) ?_
    refine RL_do rfl rfl (Do_load one3 rfl (Cells.get (Blk.cells (H.item (i := 0) rfl)) (i := 0) rfl)) ?_
    have H48 := H
    obtain ⟨x49, e50, hF⟩ := bindO_some hF
    refine RL_call rfl rfl (DoC_func en96 rfl) (F_ref5_outside_w p0.At 0 1099511627776 _ e50 _ _ _ (H.enter [] [] (by decide) rfl)) ?_
    rintro _ w51 ⟨rfl, G52⟩
    have H := H48.step (G52.only : Only [] _ _)
    refine ⟨_, rfl, ?_⟩
    refine RL_splitb (b := x49) rfl rfl rfl (fun c53 => ?_) (fun c53 => ?_)
    · have hF := iteB_t c53 hF
      refine RL_off rfl rfl ?_
      refine RL_off rfl rfl ?_
      refine RL_off rfl rfl ?_
      refine RL_do rfl rfl (Do_pick_t (v := .bool true) rfl rfl) ?_
      refine RL_do rfl rfl (Do_move (v := .bool true) rfl) ?_
      refine RL_off rfl rfl ?_
      refine RL_off rfl rfl ?_
      refine RL_off rfl rfl ?_
      refine RL_do rfl rfl (Do_pick_t (v := .bool true) rfl rfl) ?_
      have hR := Option.some.inj hF
      subst hR
      refine (RL_nil (thenQ_n (And.intro ?_ ?_)))
      · repeat' (first | with_reducible exact Fr_refl | refine Fr_upd rfl ?_ | refine Fr_over rfl rfl ?_)
      · exact ⟨(), (Sl_cons rfl Sl_nil), H.pick [0] (by decide)⟩
    · have hF := iteB_f c53 hF
      refine RL_do rfl rfl (fa99_1 rfl) ?_
      refine RL_do rfl rfl (Do_load one3 rfl (Cells.get (Blk.cells (H.item (i := 0) rfl)) (i := 1) rfl)) ?_
      have H54 := H
      obtain ⟨x55, e56, hF⟩ := bindO_some hF
      refine RL_call rfl rfl (DoC_func en96 rfl) (F_ref5_outside_w p0.N (-1125899906842624) 1125899906842624 _ e56 _ _ _ (H.enter [] [] (by decide) rfl)) ?_
      rintro _ w57 ⟨rfl, G58⟩
      have H := H54.step (G58.only : Only [] _ _)
      refine ⟨_, rfl, ?_⟩
      refine RL_do rfl rfl (Do_pick_f (v := .bool x55) rfl rfl) ?_
      refine RL_splitb (b := x55) rfl rfl rfl (fun c59 => ?_) (fun c59 => ?_)
      · have hF := iteB_t c59 hF
        refine RL_off rfl rfl ?_
        refine RL_off rfl rfl ?_
        refine RL_off rfl rfl ?_
        refine RL_do rfl rfl (Do_pick_t (v := .bool true) rfl rfl) ?_
        have hR := Option.some.inj hF
        subst hR
        refine (RL_nil (thenQ_n (And.intro ?_ ?_)))
        · repeat' (first | with_reducible exact Fr_refl | refine Fr_upd rfl ?_ | refine Fr_over rfl rfl ?_)
        · exact ⟨(), (Sl_cons rfl Sl_nil), H.pick [0] (by decide)⟩
      · have hF := iteB_f c59 hF
        refine RL_do rfl rfl (fa99_2 rfl) ?_
        refine RL_do rfl rfl (Do_load one3 rfl (Cells.get (Blk.cells (H.item (i := 0) rfl)) (i := 2) rfl)) ?_
        have H60 := H
        obtain ⟨x61, e62, hF⟩ := bindO_some hF
        refine RL_call rfl rfl (DoC_func en96 rfl) (F_ref5_outside_w p0.Mark 0 4 _ e62 _ _ _ (H.enter [] [] (by decide) rfl)) ?_
        rintro _ w63 ⟨rfl, G64⟩
        have H := H60.step (G64.only : Only [] _ _)
        refine ⟨_, rfl, ?_⟩
        refine RL_do rfl rfl (Do_pick_f (v := .bool x61) rfl rfl) ?_
        have hR := Option.some.inj hF
        subst hR
        refine (RL_nil (thenQ_n (And.intro ?_ ?_)))
        · repeat' (first | with_reducible exact Fr_refl | refine Fr_upd rfl ?_ | refine Fr_over rfl rfl ?_)
        · exact ⟨(), (Sl_cons rfl Sl_nil), H.pick [0] (by decide)⟩
  · rintro _ ρ w46 H
    have hF := hK47
    refine WP_ifb (b := g45) rfl (fun c65 => ?_) (fun c65 => ?_)
    · have hF := iteB_t c65 hF
      refine WP_seq_k fun K66 hK66 => ?_
      refine WP_region ?_
      refine RL_do rfl rfl (Do_assign (v := .int .i64 9) rfl) ?_
      refine (RL_nil (thenQ_n (hK66 _ _ ?_)))
      have hR := Option.some.inj hF
      subst hR
      refine (WP_ret (thenQ_r (post1 (v1 := .int .i64 9) rfl rfl ?_)))
      exact ⟨rfl, H.pick [] (by decide)⟩
    · have hF := iteB_f c65 hF
      refine (WP_skip (thenQ_n (hK27 _ _ ?_)))
      refine WP_seq_k fun K82 hK82 => ?_
      obtain ⟨g93, hF, hK95⟩ := bindO_some hF
      refine WP_seqS [16, 17, 18, 19, 20, 21, 22, 23, 24] (fun (g : Unit) => [(24, .bool g93)]) (fun g wl => Hd O w wl S []) ?_ ?_
      · skip
        refine WP_region ?_
        refine RL_do rfl rfl (fa99_1 rfl) ?_
        refine RL_do rfl rfl (Do_load one3 rfl (Cells.get (Blk.cells (H.item (i := 0) rfl)) (i := 1) rfl)) ?_
        obtain ⟨x96, e97, hF⟩ := letO_some hF
        refine RL_do rfl rfl (Do_as (Do_neq (a := p0.N) (b := 0) rfl rfl) (congrArg Value.bool e97)) ?_
        refine RL_splitb (b := x96) rfl rfl rfl (fun c98 => ?_) (fun c98 => ?_)
        · have hF := iteB_t c98 hF
          refine RL_do rfl rfl (fa99_2 rfl) ?_
          refine RL_do rfl rfl (Do_load one3 rfl (Cells.get (Blk.cells (H.item (i := 0) rfl)) (i := 2) rfl)) ?_
          have H99 := H
          obtain ⟨x100, e101, hF⟩ := bindO_some hF
          refine RL_call rfl rfl (DoC_func en105 rfl) (F_ref5_numbered_w p0.Mark _ e101 _ _ _ (H.enter [] [] (by decide) rfl)) ?_
          rintro _ w102 ⟨rfl, G103⟩
          have H := H99.step (G103.only : Only [] _ _)
          refine ⟨_, rfl, ?_⟩
          obtain ⟨x104, e105, hF⟩ := letO_some hF
          refine RL_do rfl rfl (Do_as (Do_not (p := x100) rfl) (congrArg Value.bool e105)) ?_
          refine RL_do rfl rfl (Do_pick_t (v := .bool x104) rfl rfl) ?_
          have hR := Option.some.inj hF
          subst hR
          refine (RL_nil (thenQ_n (And.intro ?_ ?_)))
          · repeat' (first | with_reducible exact Fr_refl | refine Fr_upd rfl ?_ | refine Fr_over rfl rfl ?_)
          · exact ⟨(), (Sl_cons rfl Sl_nil), H.pick [] (by decide)⟩
        · have hF := iteB_f c98 hF
          refine RL_off rfl rfl ?_
          refine RL_off rfl rfl ?_
          refine RL_off rfl rfl ?_
          refine RL_off rfl rfl ?_
          refine RL_do rfl rfl (Do_pick_f (v := .bool false) rfl rfl) ?_
          have hR := Option.some.inj hF
          subst hR
          refine (RL_nil (thenQ_n (And.intro ?_ ?_)))
          · repeat' (first | with_reducible exact Fr_refl | refine Fr_upd rfl ?_ | refine Fr_over rfl rfl ?_)
          · exact ⟨(), (Sl_cons rfl Sl_nil), H.pick [] (by decide)⟩
      · rintro _ ρ w94 H
        have hF := hK95
        refine WP_ifb (b := g93) rfl (fun c106 => ?_) (fun c106 => ?_)
        · have hF := iteB_t c106 hF
          refine WP_seq_k fun K107 hK107 => ?_
          refine WP_region ?_
          refine RL_do rfl rfl (Do_assign (v := .int .i64 2) rfl) ?_
          refine (RL_nil (thenQ_n (hK107 _ _ ?_)))
          have hR := Option.some.inj hF
          subst hR
          refine (WP_ret (thenQ_r (post1 (v1 := .int .i64 2) rfl rfl ?_)))
          exact ⟨rfl, H.pick [] (by decide)⟩
        · have hF := iteB_f c106 hF
          refine (WP_skip (thenQ_n (hK82 _ _ ?_)))
          refine WP_seq_k fun K108 hK108 => ?_
          refine WP_region ?_
          refine RL_do rfl rfl (Do_assign (v := .int .i64 0) rfl) ?_
          refine (RL_nil (thenQ_n (hK108 _ _ ?_)))
          have hR := Option.some.inj hF
          subst hR
          refine (WP_ret (post1 (v1 := .int .i64 0) rfl rfl ?_))
          exact ⟨rfl, H.pick [] (by decide)⟩
end Go.Proofs.YtbjhondbheijiaaDoor.L
