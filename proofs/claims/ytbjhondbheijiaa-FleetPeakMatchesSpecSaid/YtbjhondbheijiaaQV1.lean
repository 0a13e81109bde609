/- Walks: what each function computes, for every argument; no condition but those that stand in the statements. -/
import Derived.Test.YtbjhondbheijiaaQV0
namespace Go.Proofs.Ytbjhondbheijiaa
open Go.RowKit Go.OB Go.Lf
/- orangebox/series.check -/
set_option maxHeartbeats 4000000 in
theorem F_series_check_w (p0 : Series) (v1 : Value) (r : Int × Int) (hF : F_series_check p0 = some r) (O S : List Nat) (w : World) (H : Hd O w w S [.fz (.sl rSample v1 p0.Samples)]) :
    Calls Try.prog 49 ([.agg [.int .i64 p0.Den, v1].toArray] : List Value).toArray w fun e w' => e = .returned (.tuple #[.int .i64 r.1, .int .i64 r.2]) ∧ Hd O w w' S [] := by
  unfold F_series_check at hF
  refine calls_of_WP 67 Try.func49 rfl rfl rfl ?_
  refine WP_seq_k fun K3 hK3 => ?_
  refine WP_region ?_
  refine RL_ex rfl rfl (Lx_box (cs := [.int .i64 p0.Den, v1]) rfl H) ?_
  rintro _ w6 ⟨b4, rfl, H⟩
  refine RL_do rfl rfl (Do_assign (v := .int .i64 0) rfl) ?_
  refine RL_do rfl rfl (Do_assign (v := .int .i64 0) rfl) ?_
  refine (RL_nil (thenQ_n (hK3 _ _ ?_)))
  refine WP_seq_k fun K16 hK16 => ?_
  refine WP_seq_k fun K17 hK17 => ?_
  refine WP_region ?_
  refine RL_do rfl rfl (fa58_0 rfl) ?_
  refine RL_do rfl rfl (Do_load one3 rfl (Cells.get (Blk.cells (H.item (i := 1) rfl)) (i := 0) rfl)) ?_
  obtain ⟨x18, e19, hF⟩ := bindO_some hF
  refine RL_call rfl rfl (DoC_func en52 rfl) (F_series_within_w p0.Den 1 1000000 _ e19 _ _ _ (H.enter [] [] (by decide) rfl)) ?_
  rintro _ w20 ⟨rfl, G21⟩
  have H := H.back0 [] rfl G21
  refine ⟨_, rfl, ?_⟩
  obtain ⟨x22, e23, hF⟩ := letO_some hF
  refine RL_do rfl rfl (Do_as (Do_not (p := x18) rfl) (congrArg Value.bool e23)) ?_
  refine (RL_nil (thenQ_n (hK17 _ _ ?_)))
  refine WP_ifb (b := x22) rfl (fun c24 => ?_) (fun c24 => ?_)
  · have hF := iteB_t c24 hF
    refine WP_seq_k fun K25 hK25 => ?_
    refine WP_region ?_
    refine RL_do rfl rfl (Do_assign (v := .int .i64 (-1)) rfl) ?_
    refine RL_do rfl rfl (Do_assign (v := .int .i64 9) rfl) ?_
    refine (RL_nil (thenQ_n (hK25 _ _ ?_)))
    have hR := Option.some.inj hF
    subst hR
    refine (WP_ret (thenQ_r (post2 (v1 := .int .i64 (-1)) (v2 := .int .i64 9) rfl rfl rfl ?_)))
    exact ⟨rfl, H.pick [] (by decide)⟩
  · have hF := iteB_f c24 hF
    refine (WP_skip (thenQ_n (hK16 _ _ ?_)))
    refine WP_seq_k fun K36 hK36 => ?_
    refine WP_seq_k fun K37 hK37 => ?_
    refine WP_region ?_
    refine RL_do rfl rfl (fa58_1 rfl) ?_
    refine RL_do rfl rfl (Do_load one56 rfl (Cells.get (Blk.cells (H.item (i := 1) rfl)) (i := 1) rfl)) ?_
    obtain ⟨x38, e39, hF⟩ := letO_some hF
    obtain ⟨a40, c41, q42⟩ := SlF.len ((H.item (i := 0) rfl))
    refine RL_do rfl rfl (Do_as (Do_len u56 q42) (congrArg (Value.int .i64) e39)) ?_
    obtain ⟨x43, e44, hF⟩ := letO_some hF
    refine RL_do rfl rfl (Do_as (Do_gtr (a := x38) (b := 20000) rfl rfl) (congrArg Value.bool e44)) ?_
    refine (RL_nil (thenQ_n (hK37 _ _ ?_)))
    refine WP_ifb (b := x43) rfl (fun c45 => ?_) (fun c45 => ?_)
    · have hF := iteB_t c45 hF
      refine WP_seq_k fun K46 hK46 => ?_
      refine WP_region ?_
      refine RL_do rfl rfl (Do_assign (v := .int .i64 (-1)) rfl) ?_
      refine RL_do rfl rfl (Do_assign (v := .int .i64 3) rfl) ?_
      refine (RL_nil (thenQ_n (hK46 _ _ ?_)))
      have hR := Option.some.inj hF
      subst hR
      refine (WP_ret (thenQ_r (post2 (v1 := .int .i64 (-1)) (v2 := .int .i64 3) rfl rfl rfl ?_)))
      exact ⟨rfl, H.pick [] (by decide)⟩
    · have hF := iteB_f c45 hF
      refine (WP_skip (thenQ_n (hK36 _ _ ?_)))
      obtain ⟨k833, ek834, hF⟩ := joinO_some hF
      refine WP_seqS [2, 3, 4, 5, 14, 15, 16, 17, 18, 19, 20, 21, 22, 23, 24, 25, 26, 27, 28, 29, 30, 31, 32, 33, 34, 35, 36, 37, 38, 39, 40, 41, 42, 43, 44, 45, 46, 47, 48, 49, 50, 51, 52, 53, 54, 55, 56, 57, 58, 59, 60, 61, 62, 63, 64, 65, 66] (fun (g : Unit) => []) (fun g wl => Hd O w wl S [] ∧ k833 () = some r) ?_ ?_
      · skip
        refine WP_seq_k fun K835 hK835 => ?_
        refine WP_region ?_
        refine RL_do rfl rfl (fa58_1 rfl) ?_
        refine RL_do rfl rfl (Do_load one56 rfl (Cells.get (Blk.cells (H.item (i := 1) rfl)) (i := 1) rfl)) ?_
        obtain ⟨x836, e837, hF⟩ := letO_some hF
        obtain ⟨a838, c839, q840⟩ := SlF.len ((H.item (i := 0) rfl))
        refine RL_do rfl rfl (Do_as (Do_len u56 q840) (congrArg (Value.int .i64) e837)) ?_
        refine RL_do rfl rfl (Do_move (v := .int .i64 0) rfl) ?_
        refine (RL_nil (thenQ_n (hK835 _ _ ?_)))
        refine WP_block ?_
        unfold F_series_check_L1 at hF
        obtain ⟨B1357, n1358, eB1359, hF⟩ := loopO_some hF
        refine WP_loopS [2, 3, 4, 5, 17, 18, 19, 20, 21, 22, 23, 24, 25, 26, 27, 28, 29, 30, 31, 32, 33, 34, 35, 36, 37, 38, 39, 40, 41, 42, 43, 44, 45, 46, 47, 48, 49, 50, 51, 52, 53, 54, 55, 56, 57, 58, 59, 60, 61, 62, 63, 64, 65, 66] (fun (g : Nat × Int) => [(17, .int .i64 g.2)]) (fun g wl => Hd O w wl S [.fz (.sl rSample v1 p0.Samples), .blk b4 [.int .i64 p0.Den, v1] 58] ∧ loopN B1357 g.1 g.2 = some r) (fun g => g.1) (n1358, 0) (Sl_cons rfl Sl_nil) ⟨H.pick [0, 1] (by decide), hF⟩ ?_
        clear H hF
        rintro ⟨n1358, g1356⟩ ρ w1361 ⟨H, hF⟩
        obtain ⟨n1362, rfl, hF⟩ := loopN_pos hF
        have hF := loop_body eB1359 hF
        refine WP_seq_k fun K1363 hK1363 => ?_
        refine WP_region ?_
        obtain ⟨x1364, e1365, hF⟩ := letO_some hF
        refine RL_do rfl rfl (Do_as (Do_lss (a := g1356) (b := x836) rfl rfl) (congrArg Value.bool e1365)) ?_
        refine (RL_nil (thenQ_n (hK1363 _ _ ?_)))
        refine WP_seq_k fun K1367 hK1367 => ?_
        refine WP_ifb (b := x1364) rfl (fun c1368 => ?_) (fun c1368 => ?_)
        · have hF := iteB_t c1368 hF
          refine (WP_skip (thenQ_n (hK1367 _ _ ?_)))
          refine WP_seq_k fun K1493 hK1493 => ?_
          refine WP_block ?_
          refine WP_seq_k fun K1494 hK1494 => ?_
          refine WP_region ?_
          refine RL_do rfl rfl (Do_move (v := .int .i64 g1356) rfl) ?_
          obtain ⟨x1495, e1496, hF⟩ := bindO_some hF
          obtain ⟨b1497, o1498, c1499, cs1500, q1501, h1504, h1502, h1503, h1505⟩ := rd_at (H.item (i := 0) rfl) e1496
          obtain rfl := rSample_open h1504
          have H := H.fz (.at b1497 (o1498 + g1356.toNat * 3) _) ⟨h1502, h1503, h1505⟩
          refine RL_do rfl rfl (Do_idx u56 sz62 q1501 rfl (at_some e1496).1 (at_some e1496).2.1 rfl rfl) ?_
          refine RL_do rfl rfl (Do_as (Do_loads (cs := [.int .i64 x1495.At, .int .i64 x1495.N, .int .i64 x1495.Mark]) agg62 rfl sz62 rfl (H.item (i := 2) rfl).2.2) rfl) ?_
          refine RL_ex rfl rfl (Lx_alloc zero62 H) ?_
          rintro _ w1509 ⟨b1507, rfl, H⟩
          refine RL_do rfl rfl (Do_assign (v := .int .i64 g1356) rfl) ?_
          refine RL_exU rfl (Lx_storeN (vs := [.int .i64 x1495.At, .int .i64 x1495.N, .int .i64 x1495.Mark]) H 3 rfl sz62 rfl rfl rfl ⟨rfl, rfl, rfl, trivial⟩ rfl) ?_
          rintro w1510 H
          refine (RL_nil (thenQ_n (hK1494 _ _ ?_)))
          refine WP_block ?_
          obtain ⟨g1531, hF, hK1533⟩ := bindO_some hF
          refine WP_seqS [22, 23, 24, 25, 26, 27, 28, 29, 30, 31, 32, 33, 34, 35, 36, 37, 38] (fun (g : Unit) => [(22, .bool g1531)]) (fun g wl => Hd O w wl S [.fz (.sl rSample v1 p0.Samples), .blk b4 [.int .i64 p0.Den, v1] 58, .blk b1507 [.int .i64 x1495.At, .int .i64 x1495.N, .int .i64 x1495.Mark] 62]) ?_ ?_
          · skip
            refine WP_region ?_
            refine RL_do rfl rfl (fa62_0 rfl) ?_
            refine RL_do rfl rfl (Do_load one3 rfl (Cells.get (Blk.cells (H.item (i := 3) rfl)) (i := 0) rfl)) ?_
            obtain ⟨x1534, e1535, hF⟩ := bindO_some hF
            refine RL_call rfl rfl (DoC_func en52 rfl) (F_series_within_w x1495.At 0 1099511627776 _ e1535 _ _ _ (H.enter [] [] (by decide) rfl)) ?_
            rintro _ w1536 ⟨rfl, G1537⟩
            have H := H.back0 [] rfl G1537
            refine ⟨_, rfl, ?_⟩
            obtain ⟨x1538, e1539, hF⟩ := letO_some hF
            refine RL_do rfl rfl (Do_as (Do_not (p := x1534) rfl) (congrArg Value.bool e1539)) ?_
            refine RL_splitb (b := x1538) rfl rfl rfl (fun c1540 => ?_) (fun c1540 => ?_)
            · have hF := iteB_t c1540 hF
              refine RL_off rfl rfl ?_
              refine RL_off rfl rfl ?_
              refine RL_off rfl rfl ?_
              refine RL_off rfl rfl ?_
              refine RL_do rfl rfl (Do_pick_t (v := .bool true) rfl rfl) ?_
              refine RL_do rfl rfl (Do_move (v := .bool true) rfl) ?_
              refine RL_off rfl rfl ?_
              refine RL_off rfl rfl ?_
              refine RL_off rfl rfl ?_
              refine RL_off rfl rfl ?_
              refine RL_do rfl rfl (Do_pick_t (v := .bool true) rfl rfl) ?_
              refine RL_do rfl rfl (Do_assign (v := .bool true) rfl) ?_
              have hR := Option.some.inj hF
              subst hR
              refine (RL_nil (thenQ_n (And.intro ?_ ?_)))
              · repeat' (first | with_reducible exact Fr_refl | refine Fr_upd rfl ?_ | refine Fr_over rfl rfl ?_)
              · exact ⟨(), (Sl_cons rfl Sl_nil), H.pick [0, 1, 3] (by decide)⟩
            · have hF := iteB_f c1540 hF
              refine RL_do rfl rfl (fa62_1 rfl) ?_
              refine RL_do rfl rfl (Do_load one3 rfl (Cells.get (Blk.cells (H.item (i := 3) rfl)) (i := 1) rfl)) ?_
              obtain ⟨x1541, e1542, hF⟩ := bindO_some hF
              refine RL_call rfl rfl (DoC_func en52 rfl) (F_series_within_w x1495.N (-1125899906842624) 1125899906842624 _ e1542 _ _ _ (H.enter [] [] (by decide) rfl)) ?_
              rintro _ w1543 ⟨rfl, G1544⟩
              have H := H.back0 [] rfl G1544
              refine ⟨_, rfl, ?_⟩
              obtain ⟨x1545, e1546, hF⟩ := letO_some hF
              refine RL_do rfl rfl (Do_as (Do_not (p := x1541) rfl) (congrArg Value.bool e1546)) ?_
              refine RL_do rfl rfl (Do_pick_f (v := .bool x1545) rfl rfl) ?_
              refine RL_splitb (b := x1545) rfl rfl rfl (fun c1547 => ?_) (fun c1547 => ?_)
              · have hF := iteB_t c1547 hF
                refine RL_off rfl rfl ?_
                refine RL_off rfl rfl ?_
                refine RL_off rfl rfl ?_
                refine RL_off rfl rfl ?_
                refine RL_do rfl rfl (Do_pick_t (v := .bool true) rfl rfl) ?_
                refine RL_do rfl rfl (Do_assign (v := .bool true) rfl) ?_
                have hR := Option.some.inj hF
                subst hR
                refine (RL_nil (thenQ_n (And.intro ?_ ?_)))
                · repeat' (first | with_reducible exact Fr_refl | refine Fr_upd rfl ?_ | refine Fr_over rfl rfl ?_)
                · exact ⟨(), (Sl_cons rfl Sl_nil), H.pick [0, 1, 3] (by decide)⟩
              · have hF := iteB_f c1547 hF
                refine RL_do rfl rfl (fa62_2 rfl) ?_
                refine RL_do rfl rfl (Do_load one3 rfl (Cells.get (Blk.cells (H.item (i := 3) rfl)) (i := 2) rfl)) ?_
                obtain ⟨x1548, e1549, hF⟩ := bindO_some hF
                refine RL_call rfl rfl (DoC_func en52 rfl) (F_series_within_w x1495.Mark 0 4 _ e1549 _ _ _ (H.enter [] [] (by decide) rfl)) ?_
                rintro _ w1550 ⟨rfl, G1551⟩
                have H := H.back0 [] rfl G1551
                refine ⟨_, rfl, ?_⟩
                obtain ⟨x1552, e1553, hF⟩ := letO_some hF
                refine RL_do rfl rfl (Do_as (Do_not (p := x1548) rfl) (congrArg Value.bool e1553)) ?_
                refine RL_do rfl rfl (Do_pick_f (v := .bool x1552) rfl rfl) ?_
                refine RL_do rfl rfl (Do_assign (v := .bool x1552) rfl) ?_
                have hR := Option.some.inj hF
                subst hR
                refine (RL_nil (thenQ_n (And.intro ?_ ?_)))
                · repeat' (first | with_reducible exact Fr_refl | refine Fr_upd rfl ?_ | refine Fr_over rfl rfl ?_)
                · exact ⟨(), (Sl_cons rfl Sl_nil), H.pick [0, 1, 3] (by decide)⟩
          · rintro _ ρ w1532 H
            have hF := hK1533
            refine WP_ifb (b := g1531) rfl (fun c1554 => ?_) (fun c1554 => ?_)
            · have hF := iteB_t c1554 hF
              refine WP_seq_k fun K1555 hK1555 => ?_
              refine WP_region ?_
              refine RL_do rfl rfl (Do_move (v := .int .i64 g1356) rfl) ?_
              refine RL_do rfl rfl (Do_assign (v := .int .i64 g1356) rfl) ?_
              refine RL_do rfl rfl (Do_assign (v := .int .i64 9) rfl) ?_
              refine (RL_nil (thenQ_n (hK1555 _ _ ?_)))
              have hR := Option.some.inj hF
              subst hR
              refine (WP_ret (blockQ_r (blockQ_r (thenQ_r (thenQ_r (blockQ_r (thenQ_r (post2 (v1 := .int .i64 g1356) (v2 := .int .i64 9) rfl rfl rfl ?_))))))))
              exact ⟨rfl, H.pick [] (by decide)⟩
            · have hF := iteB_f c1554 hF
              obtain ⟨g1561, hF, hK1563⟩ := bindO_some hF
              refine WP_seqS [40, 41, 42, 43, 44, 45, 46, 47, 48] (fun (g : Unit) => [(40, .bool g1561)]) (fun g wl => Hd O w wl S [.fz (.sl rSample v1 p0.Samples), .blk b4 [.int .i64 p0.Den, v1] 58, .blk b1507 [.int .i64 x1495.At, .int .i64 x1495.N, .int .i64 x1495.Mark] 62]) ?_ ?_
              · skip
                refine WP_region ?_
                refine RL_do rfl rfl (fa62_1 rfl) ?_
                refine RL_do rfl rfl (Do_load one3 rfl (Cells.get (Blk.cells (H.item (i := 2) rfl)) (i := 1) rfl)) ?_
                obtain ⟨x1564, e1565, hF⟩ := letO_some hF
                refine RL_do rfl rfl (Do_as (Do_neq (a := x1495.N) (b := 0) rfl rfl) (congrArg Value.bool e1565)) ?_
                refine RL_splitb (b := x1564) rfl rfl rfl (fun c1566 => ?_) (fun c1566 => ?_)
                · have hF := iteB_t c1566 hF
                  refine RL_do rfl rfl (fa62_2 rfl) ?_
                  refine RL_do rfl rfl (Do_load one3 rfl (Cells.get (Blk.cells (H.item (i := 2) rfl)) (i := 2) rfl)) ?_
                  obtain ⟨x1567, e1568, hF⟩ := letO_some hF
                  refine RL_do rfl rfl (Do_as (Do_leq (a := x1495.Mark) (b := 1) rfl rfl) (congrArg Value.bool e1568)) ?_
                  refine RL_do rfl rfl (Do_pick_t (v := .bool x1567) rfl rfl) ?_
                  refine RL_do rfl rfl (Do_assign (v := .bool x1567) rfl) ?_
                  have hR := Option.some.inj hF
                  subst hR
                  refine (RL_nil (thenQ_n (And.intro ?_ ?_)))
                  · repeat' (first | with_reducible exact Fr_refl | refine Fr_upd rfl ?_ | refine Fr_over rfl rfl ?_)
                  · exact ⟨(), (Sl_cons rfl Sl_nil), H.pick [0, 1, 2] (by decide)⟩
                · have hF := iteB_f c1566 hF
                  refine RL_off rfl rfl ?_
                  refine RL_off rfl rfl ?_
                  refine RL_off rfl rfl ?_
                  refine RL_do rfl rfl (Do_pick_f (v := .bool false) rfl rfl) ?_
                  refine RL_do rfl rfl (Do_assign (v := .bool false) rfl) ?_
                  have hR := Option.some.inj hF
                  subst hR
                  refine (RL_nil (thenQ_n (And.intro ?_ ?_)))
                  · repeat' (first | with_reducible exact Fr_refl | refine Fr_upd rfl ?_ | refine Fr_over rfl rfl ?_)
                  · exact ⟨(), (Sl_cons rfl Sl_nil), H.pick [0, 1, 2] (by decide)⟩
              · rintro _ ρ w1562 H
                have hF := hK1563
                refine WP_ifb (b := g1561) rfl (fun c1569 => ?_) (fun c1569 => ?_)
                · have hF := iteB_t c1569 hF
                  refine WP_seq_k fun K1570 hK1570 => ?_
                  refine WP_region ?_
                  refine RL_do rfl rfl (Do_move (v := .int .i64 g1356) rfl) ?_
                  refine RL_do rfl rfl (Do_assign (v := .int .i64 g1356) rfl) ?_
                  refine RL_do rfl rfl (Do_assign (v := .int .i64 2) rfl) ?_
                  refine (RL_nil (thenQ_n (hK1570 _ _ ?_)))
                  have hR := Option.some.inj hF
                  subst hR
                  refine (WP_ret (blockQ_r (blockQ_r (thenQ_r (thenQ_r (blockQ_r (thenQ_r (post2 (v1 := .int .i64 g1356) (v2 := .int .i64 2) rfl rfl rfl ?_))))))))
                  exact ⟨rfl, H.pick [] (by decide)⟩
                · have hF := iteB_f c1569 hF
                  obtain ⟨g1592, hF, hK1594⟩ := bindO_some hF
                  refine WP_seqS [50, 51, 52, 53, 54, 55, 56, 57, 58, 59, 60, 61, 62, 63, 64] (fun (g : Unit) => [(50, .bool g1592)]) (fun g wl => Hd O w wl S [.fz (.sl rSample v1 p0.Samples), .blk b4 [.int .i64 p0.Den, v1] 58]) ?_ ?_
                  · skip
                    refine WP_mix [.pure, .pure, .pure, .pure, .read, .pure, .read, .pure, .pure, .pure, .pure, .read, .pure, .pure, .pure] mixed (by kernel_rfl) (by kernel_rfl) (by kernel_rfl) ?_
                    refine XL_pure rfl rfl rfl (fun w' => Do_move (v := .int .i64 g1356) rfl) ?_
                    obtain ⟨x1595, e1596, hF⟩ := letO_some hF
                    refine XL_pure rfl rfl rfl (fun w' => Do_as (Do_gtr (a := g1356) (b := 0) rfl rfl) (congrArg Value.bool e1596)) ?_
                    refine XL_splitb (b := x1595) rfl rfl rfl rfl (fun c1597 => ?_) (fun c1597 => ?_)
                    · have hF := iteB_t c1597 hF
                      refine XL_pure rfl rfl rfl (fun w' => fa62_0 rfl) ?_
                      refine XL_read rfl rfl rfl (fun w' hw' => Do_load one3 rfl (Cells.get (Blk.cells ((H.sees hw').item (i := 2) rfl)) (i := 0) rfl)) ?_
                      refine XL_pure rfl rfl rfl (fun w' => fa58_1 rfl) ?_
                      refine XL_read rfl rfl rfl (fun w' hw' => Do_load one56 rfl (Cells.get (Blk.cells ((H.sees hw').item (i := 1) rfl)) (i := 1) rfl)) ?_
                      refine XL_pure rfl rfl rfl (fun w' => Do_move (v := .int .i64 g1356) rfl) ?_
                      obtain ⟨x1598, e1599, hF⟩ := letO_some hF
                      refine XL_pure rfl rfl rfl (fun w' => Do_sub (a := g1356) (b := 1) rfl rfl e1599) ?_
                      obtain ⟨x1600, e1601, hF⟩ := bindO_some hF
                      obtain ⟨b1602, o1603, c1604, cs1605, q1606, h1609, h1607, h1608, h1610⟩ := rd_at (H.item (i := 0) rfl) e1601
                      obtain rfl := rSample_open h1609
                      have H := H.fz (.at b1602 (o1603 + x1598.toNat * 3) _) ⟨h1607, h1608, h1610⟩
                      refine XL_pure rfl rfl rfl (fun w' => Do_idx u56 sz62 q1606 rfl (at_some e1601).1 (at_some e1601).2.1 rfl rfl) ?_
                      refine XL_pure rfl rfl rfl (fun w' => fa62_0 rfl) ?_
                      refine XL_read rfl rfl rfl (fun w' hw' => Do_load one3 rfl (Cells.get ((H.sees hw').item (i := 3) rfl).2.2 (i := 0) rfl)) ?_
                      obtain ⟨x1612, e1613, hF⟩ := letO_some hF
                      refine XL_pure rfl rfl rfl (fun w' => Do_as (Do_leq (a := x1495.At) (b := x1600.At) rfl rfl) (congrArg Value.bool e1613)) ?_
                      refine XL_pure rfl rfl rfl (fun w' => Do_pick_t (v := .bool x1612) rfl rfl) ?_
                      refine XL_pure rfl rfl rfl (fun w' => Do_assign (v := .bool x1612) rfl) ?_
                      refine XL_nil fun w1614 hS => ?_
                      have H := H.sees hS
                      have hR := Option.some.inj hF
                      subst hR
                      refine (thenQ_n (And.intro ?_ ?_))
                      · repeat' (first | with_reducible exact Fr_refl | refine Fr_upd rfl ?_ | refine Fr_over rfl rfl ?_)
                      · exact ⟨(), (Sl_cons rfl Sl_nil), H.pick [0, 1] (by decide)⟩
                    · have hF := iteB_f c1597 hF
                      refine XL_offp rfl rfl rfl ?_
                      refine XL_offr rfl rfl rfl ?_
                      refine XL_offp rfl rfl rfl ?_
                      refine XL_offr rfl rfl rfl ?_
                      refine XL_offp rfl rfl rfl ?_
                      refine XL_offp rfl rfl rfl ?_
                      refine XL_offp rfl rfl rfl ?_
                      refine XL_offp rfl rfl rfl ?_
                      refine XL_offr rfl rfl rfl ?_
                      refine XL_offp rfl rfl rfl ?_
                      refine XL_pure rfl rfl rfl (fun w' => Do_pick_f (v := .bool false) rfl rfl) ?_
                      refine XL_pure rfl rfl rfl (fun w' => Do_assign (v := .bool false) rfl) ?_
                      refine XL_nil fun w1615 hS => ?_
                      have H := H.sees hS
                      have hR := Option.some.inj hF
                      subst hR
                      refine (thenQ_n (And.intro ?_ ?_))
                      · repeat' (first | with_reducible exact Fr_refl | refine Fr_upd rfl ?_ | refine Fr_over rfl rfl ?_)
                      · exact ⟨(), (Sl_cons rfl Sl_nil), H.pick [0, 1] (by decide)⟩
                  · rintro _ ρ w1593 H
                    have hF := hK1594
                    refine WP_ifb (b := g1592) rfl (fun c1616 => ?_) (fun c1616 => ?_)
                    · have hF := iteB_t c1616 hF
                      refine WP_seq_k fun K1617 hK1617 => ?_
                      refine WP_region ?_
                      refine RL_do rfl rfl (Do_move (v := .int .i64 g1356) rfl) ?_
                      refine RL_do rfl rfl (Do_assign (v := .int .i64 g1356) rfl) ?_
                      refine RL_do rfl rfl (Do_assign (v := .int .i64 10) rfl) ?_
                      refine (RL_nil (thenQ_n (hK1617 _ _ ?_)))
                      have hR := Option.some.inj hF
                      subst hR
                      refine (WP_ret (blockQ_r (blockQ_r (thenQ_r (thenQ_r (blockQ_r (thenQ_r (post2 (v1 := .int .i64 g1356) (v2 := .int .i64 10) rfl rfl rfl ?_))))))))
                      exact ⟨rfl, H.pick [] (by decide)⟩
                    · have hF := iteB_f c1616 hF
                      refine (WP_skip (blockQ_n (blockQ_n (thenQ_n (hK1493 _ _ ?_)))))
                      refine WP_region ?_
                      obtain ⟨x1618, e1619, hF⟩ := letO_some hF
                      refine RL_do rfl rfl (Do_add (a := g1356) (b := 1) rfl rfl e1619) ?_
                      refine RL_do rfl rfl (Do_move (v := .int .i64 x1618) rfl) ?_
                      refine (RL_nil (thenQ_n (And.intro ?_ ?_)))
                      · repeat' (first | with_reducible exact Fr_refl | refine Fr_upd rfl ?_ | refine Fr_over rfl rfl ?_)
                      · exact ⟨(n1362, x1618), (Sl_cons rfl Sl_nil), ⟨H.pick [0, 1] (by decide), hF⟩, Nat.lt_succ_self _⟩
        · have hF := iteB_f c1368 hF
          refine (WP_exit (thenQ_x (thenQ_x (blockQ_eq (thenQ_n (And.intro ?_ ?_))))))
          · repeat' (first | with_reducible exact Fr_refl | refine Fr_upd rfl ?_ | refine Fr_over rfl rfl ?_)
          · exact ⟨(), Sl_nil, ⟨H.pick [] (by decide), hF⟩⟩
      · rintro _ ρ w832 ⟨H, hF⟩
        have hF := join_body ek834 hF
        refine WP_seq_k fun K1620 hK1620 => ?_
        refine WP_region ?_
        refine RL_do rfl rfl (Do_assign (v := .int .i64 (-1)) rfl) ?_
        refine RL_do rfl rfl (Do_assign (v := .int .i64 0) rfl) ?_
        refine (RL_nil (thenQ_n (hK1620 _ _ ?_)))
        have hR := Option.some.inj hF
        subst hR
        refine (WP_ret (post2 (v1 := .int .i64 (-1)) (v2 := .int .i64 0) rfl rfl rfl ?_))
        exact ⟨rfl, H.pick [] (by decide)⟩
end Go.Proofs.Ytbjhondbheijiaa
namespace Go.Proofs.Ytbjhondbheijiaa
open Go.RowKit Go.OB Go.Lf
/- orangebox/series.Check -/
set_option maxHeartbeats 4000000 in
theorem F_series_Check_w (p0 : Series) (v1 : Value) (r : Int) (hF : F_series_Check p0 = some r) (O S : List Nat) (w : World) (H : Hd O w w S [.fz (.sl rSample v1 p0.Samples)]) :
    Calls Try.prog 33 ([.agg [.int .i64 p0.Den, v1].toArray] : List Value).toArray w fun e w' => e = .returned (.int .i64 r) ∧ Hd O w w' S [] := by
  unfold F_series_Check at hF
  refine calls_of_WP 11 Try.func33 rfl rfl rfl ?_
  refine WP_seq_k fun K3 hK3 => ?_
  refine WP_region ?_
  refine RL_ex rfl rfl (Lx_box (cs := [.int .i64 p0.Den, v1]) rfl H) ?_
  rintro _ w6 ⟨b4, rfl, H⟩
  refine RL_do rfl rfl (Do_assign (v := .int .i64 0) rfl) ?_
  refine (RL_nil (thenQ_n (hK3 _ _ ?_)))
  refine WP_seq_k fun K7 hK7 => ?_
  refine WP_region ?_
  refine RL_do rfl rfl (Do_as (Do_loads (cs := [.int .i64 p0.Den, v1]) agg58 rfl sz58 rfl (Blk.cells (H.item (i := 1) rfl))) rfl) ?_
  obtain ⟨⟨x8, x9⟩, e10, hF⟩ := bindO_some hF
  refine RL_call rfl rfl (DoC_func en49 rfl) (F_series_check_w p0 v1 _ e10 _ _ _ (H.enter [] [0] (by decide) rfl)) ?_
  rintro _ w11 ⟨rfl, G12⟩
  have H := H.back0 [0] rfl G12
  refine ⟨_, rfl, ?_⟩
  refine RL_do rfl rfl (Do_move (v := .tuple #[.int .i64 x8, .int .i64 x9]) rfl) ?_
  refine RL_do rfl rfl (Do_extract (v := .int .i64 x8) rfl rfl) ?_
  refine RL_do rfl rfl (Do_extract (v := .int .i64 x9) rfl rfl) ?_
  refine RL_do rfl rfl (Do_assign (v := .int .i64 x8) rfl) ?_
  refine RL_do rfl rfl (Do_assign (v := .int .i64 x9) rfl) ?_
  refine (RL_nil (thenQ_n (hK7 _ _ ?_)))
  refine WP_seq_k fun K13 hK13 => ?_
  refine WP_region ?_
  refine RL_do rfl rfl (Do_move (v := .int .i64 x9) rfl) ?_
  refine RL_do rfl rfl (Do_assign (v := .int .i64 x9) rfl) ?_
  refine (RL_nil (thenQ_n (hK13 _ _ ?_)))
  have hR := Option.some.inj hF
  subst hR
  refine (WP_ret (post1 (v1 := .int .i64 x9) rfl rfl ?_))
  exact ⟨rfl, H.pick [] (by decide)⟩
end Go.Proofs.Ytbjhondbheijiaa
namespace Go.Proofs.Ytbjhondbheijiaa
open Go.RowKit Go.OB Go.Lf
/- orangebox/event.CheckTracks -/
set_option maxHeartbeats 4000000 in
theorem F_event_CheckTracks_w (p0 : List Track) (v1 : Value) (r : Int) (hF : F_event_CheckTracks p0 = some r) (O S : List Nat) (w : World) (H : Hd O w w S [.fz (.sl rTrack v1 p0)]) :
    Calls Try.prog 18 ([v1] : List Value).toArray w fun e w' => e = .returned (.int .i64 r) ∧ Hd O w w' S [] := by
  unfold F_event_CheckTracks at hF
  refine calls_of_WP 36 Try.func18 rfl rfl rfl ?_
  refine WP_seq_k fun K3 hK3 => ?_
  refine WP_region ?_
  refine RL_do rfl rfl (Do_assign (v := .int .i64 0) rfl) ?_
  refine (RL_nil (thenQ_n (hK3 _ _ ?_)))
  refine WP_seq_k fun K14 hK14 => ?_
  refine WP_seq_k fun K15 hK15 => ?_
  refine WP_region ?_
  refine RL_do rfl rfl (Do_move (v := v1) rfl) ?_
  obtain ⟨x16, e17, hF⟩ := letO_some hF
  obtain ⟨a18, c19, q20⟩ := SlF.len ((H.item (i := 0) rfl))
  refine RL_do rfl rfl (Do_as (Do_len u22 q20) (congrArg (Value.int .i64) e17)) ?_
  obtain ⟨x21, e22, hF⟩ := letO_some hF
  refine RL_do rfl rfl (Do_as (Do_gtr (a := x16) (b := 50) rfl rfl) (congrArg Value.bool e22)) ?_
  refine (RL_nil (thenQ_n (hK15 _ _ ?_)))
  refine WP_ifb (b := x21) rfl (fun c23 => ?_) (fun c23 => ?_)
  · have hF := iteB_t c23 hF
    refine WP_seq_k fun K24 hK24 => ?_
    refine WP_region ?_
    refine RL_do rfl rfl (Do_assign (v := .int .i64 3) rfl) ?_
    refine (RL_nil (thenQ_n (hK24 _ _ ?_)))
    have hR := Option.some.inj hF
    subst hR
    refine (WP_ret (thenQ_r (post1 (v1 := .int .i64 3) rfl rfl ?_)))
    exact ⟨rfl, H.pick [] (by decide)⟩
  · have hF := iteB_f c23 hF
    refine (WP_skip (thenQ_n (hK14 _ _ ?_)))
    obtain ⟨k631, ek632, hF⟩ := joinO_some hF
    refine WP_seqS [2, 3, 4, 5, 9, 10, 11, 12, 13, 14, 15, 16, 17, 18, 19, 20, 21, 22, 23, 24, 25, 26, 27, 28, 29, 30, 31, 32, 33, 34, 35] (fun (g : Unit) => []) (fun g wl => Hd O w wl S [] ∧ k631 () = some r) ?_ ?_
    · skip
      refine WP_seq_k fun K633 hK633 => ?_
      refine WP_region ?_
      refine RL_do rfl rfl (Do_move (v := v1) rfl) ?_
      obtain ⟨x634, e635, hF⟩ := letO_some hF
      obtain ⟨a636, c637, q638⟩ := SlF.len ((H.item (i := 0) rfl))
      refine RL_do rfl rfl (Do_as (Do_len u22 q638) (congrArg (Value.int .i64) e635)) ?_
      refine RL_do rfl rfl (Do_move (v := .int .i64 0) rfl) ?_
      refine (RL_nil (thenQ_n (hK633 _ _ ?_)))
      refine WP_block ?_
      unfold F_event_CheckTracks_L1 at hF
      obtain ⟨B1035, n1036, eB1037, hF⟩ := loopO_some hF
      refine WP_loopS [2, 3, 4, 5, 11, 12, 13, 14, 15, 16, 17, 18, 19, 20, 21, 22, 23, 24, 25, 26, 27, 28, 29, 30, 31, 32, 33, 34, 35] (fun (g : Nat × Int) => [(11, .int .i64 g.2)]) (fun g wl => Hd O w wl S [.fz (.sl rTrack v1 p0)] ∧ loopN B1035 g.1 g.2 = some r) (fun g => g.1) (n1036, 0) (Sl_cons rfl Sl_nil) ⟨H.pick [0] (by decide), hF⟩ ?_
      clear H hF
      rintro ⟨n1036, g1034⟩ ρ w1039 ⟨H, hF⟩
      obtain ⟨n1040, rfl, hF⟩ := loopN_pos hF
      have hF := loop_body eB1037 hF
      refine WP_seq_k fun K1041 hK1041 => ?_
      refine WP_region ?_
      obtain ⟨x1042, e1043, hF⟩ := letO_some hF
      refine RL_do rfl rfl (Do_as (Do_lss (a := g1034) (b := x634) rfl rfl) (congrArg Value.bool e1043)) ?_
      refine (RL_nil (thenQ_n (hK1041 _ _ ?_)))
      refine WP_seq_k fun K1045 hK1045 => ?_
      refine WP_ifb (b := x1042) rfl (fun c1046 => ?_) (fun c1046 => ?_)
      · have hF := iteB_t c1046 hF
        refine (WP_skip (thenQ_n (hK1045 _ _ ?_)))
        refine WP_seq_k fun K1141 hK1141 => ?_
        refine WP_block ?_
        refine WP_seq_k fun K1142 hK1142 => ?_
        refine WP_region ?_
        refine RL_do rfl rfl (Do_move (v := .int .i64 g1034) rfl) ?_
        obtain ⟨x1143, e1144, hF⟩ := bindO_some hF
        obtain ⟨b1145, o1146, c1147, cs1148, q1149, h1152, h1150, h1151, h1153⟩ := rd_at (H.item (i := 0) rfl) e1144
        obtain ⟨v1154, rfl, h1155⟩ := rTrack_open h1152
        have H := H.fzs [.at b1145 (o1146 + g1034.toNat * 4) _, .sl rSample v1154 x1143.Series.Samples] ⟨⟨h1150, h1151, h1153⟩, h1155, trivial⟩
        refine RL_do rfl rfl (Do_idx u22 sz60 q1149 rfl (at_some e1144).1 (at_some e1144).2.1 rfl rfl) ?_
        refine RL_do rfl rfl (Do_as (Do_loads (cs := [.string (bs x1143.Name), .int .i64 x1143.Series.Den, v1154, .int .i64 x1143.Long]) agg60 rfl sz60 rfl (H.item (i := 1) rfl).2.2) rfl) ?_
        refine RL_ex rfl rfl (Lx_alloc zero60 H) ?_
        rintro _ w1160 ⟨b1158, rfl, H⟩
        refine RL_do rfl rfl (Do_assign (v := .int .i64 g1034) rfl) ?_
        refine RL_exU rfl (Lx_storeN (vs := [.string (bs x1143.Name), .int .i64 x1143.Series.Den, v1154, .int .i64 x1143.Long]) H 3 rfl sz60 rfl rfl rfl ⟨rfl, rfl, (slf_one (H.item (i := 2) rfl)), rfl, trivial⟩ rfl) ?_
        rintro w1161 H
        refine (RL_nil (thenQ_n (hK1142 _ _ ?_)))
        refine WP_seq_k fun K1171 hK1171 => ?_
        refine WP_seq_k fun K1172 hK1172 => ?_
        refine WP_region ?_
        refine RL_do rfl rfl (fa60_0 rfl) ?_
        refine RL_do rfl rfl (Do_load one9 rfl (Cells.get (Blk.cells (H.item (i := 3) rfl)) (i := 0) rfl)) ?_
        obtain ⟨x1173, e1174, hF⟩ := bindO_some hF
        refine RL_call rfl rfl (DoC_func en19 rfl) (F_event_isName_w x1143.Name _ e1174 _ _ _ (H.enter [] [] (by decide) rfl)) ?_
        rintro _ w1175 ⟨rfl, G1176⟩
        have H := H.back0 [] rfl G1176
        refine ⟨_, rfl, ?_⟩
        obtain ⟨x1177, e1178, hF⟩ := letO_some hF
        refine RL_do rfl rfl (Do_as (Do_not (p := x1173) rfl) (congrArg Value.bool e1178)) ?_
        refine (RL_nil (thenQ_n (hK1172 _ _ ?_)))
        refine WP_ifb (b := x1177) rfl (fun c1179 => ?_) (fun c1179 => ?_)
        · have hF := iteB_t c1179 hF
          refine WP_seq_k fun K1180 hK1180 => ?_
          refine WP_region ?_
          refine RL_do rfl rfl (Do_assign (v := .int .i64 8) rfl) ?_
          refine (RL_nil (thenQ_n (hK1180 _ _ ?_)))
          have hR := Option.some.inj hF
          subst hR
          refine (WP_ret (thenQ_r (blockQ_r (thenQ_r (thenQ_r (blockQ_r (thenQ_r (post1 (v1 := .int .i64 8) rfl rfl ?_))))))))
          exact ⟨rfl, H.pick [] (by decide)⟩
        · have hF := iteB_f c1179 hF
          refine (WP_skip (thenQ_n (hK1171 _ _ ?_)))
          refine WP_seq_k fun K1193 hK1193 => ?_
          refine WP_seq_k fun K1194 hK1194 => ?_
          refine WP_region ?_
          refine RL_do rfl rfl (Do_move (v := v1) rfl) ?_
          refine RL_do rfl rfl (Do_move (v := .int .i64 g1034) rfl) ?_
          obtain ⟨x1195, e1196, hF⟩ := bindO_some hF
          refine RL_exP rfl rfl (Lx_slice_h u22 sz60 (H.item (i := 0) rfl) rfl rfl e1196) ?_
          rintro v1197 h1198
          have H := H.fz (.sl rTrack v1197 x1195) h1198
          refine RL_do rfl rfl (Do_makeFunc rfl) ?_
          obtain ⟨x1200, e1201, hF⟩ := bindO_some hF
          refine RL_call rfl rfl (DoC_func en31 rfl) (F_slices_ContainsFunc___api_Track_api_Track__event_CheckTracks_1_w x1195 x1143 v1197 b1158 v1154 _ e1201 _ _ _ (H.enter [3] [4, 2] (by decide) rfl)) ?_
          rintro _ w1202 ⟨rfl, G1203⟩
          have H : Hd O w w1202 S [.fz (.sl rTrack v1 p0), .fz (.at b1145 (o1146 + g1034.toNat * 4) [.string (bs x1143.Name), .int .i64 x1143.Series.Den, v1154, .int .i64 x1143.Long]), .fz (.sl rSample v1154 x1143.Series.Samples), .fz (.sl rTrack v1197 x1195), .blk b1158 [.string (bs x1143.Name), .int .i64 x1143.Series.Den, v1154, .int .i64 x1143.Long] 60] := H.back [3] [4, 2] rfl G1203
          refine ⟨_, rfl, ?_⟩
          refine (RL_nil (thenQ_n (hK1194 _ _ ?_)))
          refine WP_ifb (b := x1200) rfl (fun c1204 => ?_) (fun c1204 => ?_)
          · have hF := iteB_t c1204 hF
            refine WP_seq_k fun K1205 hK1205 => ?_
            refine WP_region ?_
            refine RL_do rfl rfl (Do_assign (v := .int .i64 5) rfl) ?_
            refine (RL_nil (thenQ_n (hK1205 _ _ ?_)))
            have hR := Option.some.inj hF
            subst hR
            refine (WP_ret (thenQ_r (blockQ_r (thenQ_r (thenQ_r (blockQ_r (thenQ_r (post1 (v1 := .int .i64 5) rfl rfl ?_))))))))
            exact ⟨rfl, H.pick [] (by decide)⟩
          · have hF := iteB_f c1204 hF
            refine (WP_skip (thenQ_n (hK1193 _ _ ?_)))
            refine WP_seq_k fun K1216 hK1216 => ?_
            refine WP_seq_k fun K1217 hK1217 => ?_
            refine WP_region ?_
            refine RL_do rfl rfl (fa60_1 rfl) ?_
            refine RL_do rfl rfl (Do_as (Do_loads (cs := [.int .i64 x1143.Series.Den, v1154]) agg58 rfl sz58 rfl (Cells.drop (Blk.cells (H.item (i := 4) rfl)) 1 2)) rfl) ?_
            obtain ⟨x1218, e1219, hF⟩ := bindO_some hF
            refine RL_call rfl rfl (DoC_func en33 rfl) (F_series_Check_w x1143.Series v1154 _ e1219 _ _ _ (H.enter [] [2] (by decide) rfl)) ?_
            rintro _ w1220 ⟨rfl, G1221⟩
            have H := H.back0 [2] rfl G1221
            refine ⟨_, rfl, ?_⟩
            refine RL_do rfl rfl (Do_assign (v := .int .i64 x1218) rfl) ?_
            refine (RL_nil (thenQ_n (hK1217 _ _ ?_)))
            refine WP_seq_k fun K1222 hK1222 => ?_
            refine WP_region ?_
            refine RL_do rfl rfl (Do_move (v := .int .i64 x1218) rfl) ?_
            obtain ⟨x1223, e1224, hF⟩ := letO_some hF
            refine RL_do rfl rfl (Do_as (Do_neq (a := x1218) (b := 0) rfl rfl) (congrArg Value.bool e1224)) ?_
            refine (RL_nil (thenQ_n (hK1222 _ _ ?_)))
            refine WP_ifb (b := x1223) rfl (fun c1225 => ?_) (fun c1225 => ?_)
            · have hF := iteB_t c1225 hF
              refine WP_seq_k fun K1226 hK1226 => ?_
              refine WP_region ?_
              refine RL_do rfl rfl (Do_move (v := .int .i64 x1218) rfl) ?_
              refine RL_do rfl rfl (Do_assign (v := .int .i64 x1218) rfl) ?_
              refine (RL_nil (thenQ_n (hK1226 _ _ ?_)))
              have hR := Option.some.inj hF
              subst hR
              refine (WP_ret (thenQ_r (blockQ_r (thenQ_r (thenQ_r (blockQ_r (thenQ_r (post1 (v1 := .int .i64 x1218) rfl rfl ?_))))))))
              exact ⟨rfl, H.pick [] (by decide)⟩
            · have hF := iteB_f c1225 hF
              refine (WP_skip (thenQ_n (hK1216 _ _ ?_)))
              refine WP_seq_k fun K1227 hK1227 => ?_
              refine WP_region ?_
              refine RL_do rfl rfl (fa60_2 rfl) ?_
              refine RL_do rfl rfl (Do_load one3 rfl (Cells.get (Blk.cells (H.item (i := 4) rfl)) (i := 3) rfl)) ?_
              obtain ⟨x1228, e1229, hF⟩ := bindO_some hF
              refine RL_call rfl rfl (DoC_func en34 rfl) (F_event_within_w x1143.Long 0 1099511627776 _ e1229 _ _ _ (H.enter [] [] (by decide) rfl)) ?_
              rintro _ w1230 ⟨rfl, G1231⟩
              have H := H.back0 [] rfl G1231
              refine ⟨_, rfl, ?_⟩
              obtain ⟨x1232, e1233, hF⟩ := letO_some hF
              refine RL_do rfl rfl (Do_as (Do_not (p := x1228) rfl) (congrArg Value.bool e1233)) ?_
              refine (RL_nil (thenQ_n (hK1227 _ _ ?_)))
              refine WP_ifb (b := x1232) rfl (fun c1234 => ?_) (fun c1234 => ?_)
              · have hF := iteB_t c1234 hF
                refine WP_seq_k fun K1235 hK1235 => ?_
                refine WP_region ?_
                refine RL_do rfl rfl (Do_assign (v := .int .i64 9) rfl) ?_
                refine (RL_nil (thenQ_n (hK1235 _ _ ?_)))
                have hR := Option.some.inj hF
                subst hR
                refine (WP_ret (blockQ_r (thenQ_r (thenQ_r (blockQ_r (thenQ_r (post1 (v1 := .int .i64 9) rfl rfl ?_)))))))
                exact ⟨rfl, H.pick [] (by decide)⟩
              · have hF := iteB_f c1234 hF
                refine (WP_skip (blockQ_n (thenQ_n (hK1141 _ _ ?_))))
                refine WP_region ?_
                obtain ⟨x1236, e1237, hF⟩ := letO_some hF
                refine RL_do rfl rfl (Do_add (a := g1034) (b := 1) rfl rfl e1237) ?_
                refine RL_do rfl rfl (Do_move (v := .int .i64 x1236) rfl) ?_
                refine (RL_nil (thenQ_n (And.intro ?_ ?_)))
                · repeat' (first | with_reducible exact Fr_refl | refine Fr_upd rfl ?_ | refine Fr_over rfl rfl ?_)
                · exact ⟨(n1040, x1236), (Sl_cons rfl Sl_nil), ⟨H.pick [0] (by decide), hF⟩, Nat.lt_succ_self _⟩
      · have hF := iteB_f c1046 hF
        refine (WP_exit (thenQ_x (thenQ_x (blockQ_eq (thenQ_n (And.intro ?_ ?_))))))
        · repeat' (first | with_reducible exact Fr_refl | refine Fr_upd rfl ?_ | refine Fr_over rfl rfl ?_)
        · exact ⟨(), Sl_nil, ⟨H.pick [] (by decide), hF⟩⟩
    · rintro _ ρ w630 ⟨H, hF⟩
      have hF := join_body ek632 hF
      refine WP_seq_k fun K1238 hK1238 => ?_
      refine WP_region ?_
      refine RL_do rfl rfl (Do_assign (v := .int .i64 0) rfl) ?_
      refine (RL_nil (thenQ_n (hK1238 _ _ ?_)))
      have hR := Option.some.inj hF
      subst hR
      refine (WP_ret (post1 (v1 := .int .i64 0) rfl rfl ?_))
      exact ⟨rfl, H.pick [] (by decide)⟩
end Go.Proofs.Ytbjhondbheijiaa
namespace Go.Proofs.Ytbjhondbheijiaa
open Go.RowKit Go.OB Go.Lf
/- orangebox/fleet.CheckFlight -/
set_option maxHeartbeats 4000000 in
theorem F_fleet_CheckFlight_w (p0 : Flight) (v1 : Value) (r : Int) (hF : F_fleet_CheckFlight p0 = some r) (O S : List Nat) (w : World) (H : Hd O w w S [.fz (.sl rTrack v1 p0.Tracks)]) :
    Calls Try.prog 8 ([.agg [.string (bs p0.Tail), .string (bs p0.Route), .int .i64 p0.Day, .int .i64 p0.From, .int .i64 p0.To, v1].toArray] : List Value).toArray w fun e w' => e = .returned (.int .i64 r) ∧ Hd O w w' S [] := by
  unfold F_fleet_CheckFlight at hF
  refine calls_of_WP 58 Try.func8 rfl rfl rfl ?_
  refine WP_seq_k fun K3 hK3 => ?_
  refine WP_region ?_
  refine RL_ex rfl rfl (Lx_box (cs := [.string (bs p0.Tail), .string (bs p0.Route), .int .i64 p0.Day, .int .i64 p0.From, .int .i64 p0.To, v1]) rfl H) ?_
  rintro _ w6 ⟨b4, rfl, H⟩
  refine RL_do rfl rfl (Do_assign (v := .int .i64 0) rfl) ?_
  refine (RL_nil (thenQ_n (hK3 _ _ ?_)))
  refine WP_seq_k fun K124 hK124 => ?_
  refine WP_block ?_
  obtain ⟨g147, hF, hK149⟩ := bindO_some hF
  refine WP_seqS [3, 4, 5, 6, 7, 8, 9, 10, 11, 12, 13, 14, 15, 16, 17, 18] (fun (g : Unit) => [(3, .bool g147)]) (fun g wl => Hd O w wl S [.blk b4 [.string (bs p0.Tail), .string (bs p0.Route), .int .i64 p0.Day, .int .i64 p0.From, .int .i64 p0.To, v1] 24, .fz (.sl rTrack v1 p0.Tracks)]) ?_ ?_
  · skip
    refine WP_region ?_
    refine RL_do rfl rfl (fa24_0 rfl) ?_
    refine RL_do rfl rfl (Do_load one9 rfl (Cells.get (Blk.cells (H.item (i := 1) rfl)) (i := 0) rfl)) ?_
    obtain ⟨x150, e151, hF⟩ := letO_some hF
    refine RL_do rfl rfl (Do_as (Do_neqs (s1 := p0.Tail) (s2 := []) rfl rfl) (congrArg Value.bool e151)) ?_
    refine RL_splitb (b := x150) rfl rfl rfl (fun c152 => ?_) (fun c152 => ?_)
    · have hF := iteB_t c152 hF
      refine RL_do rfl rfl (fa24_0 rfl) ?_
      refine RL_do rfl rfl (Do_load one9 rfl (Cells.get (Blk.cells (H.item (i := 1) rfl)) (i := 0) rfl)) ?_
      obtain ⟨x153, e154, hF⟩ := bindO_some hF
      refine RL_call rfl rfl (DoC_func en9 rfl) (F_event_IsName_w p0.Tail _ e154 _ _ _ (H.enter [] [] (by decide) rfl)) ?_
      rintro _ w155 ⟨rfl, G156⟩
      have H := H.back0 [] rfl G156
      refine ⟨_, rfl, ?_⟩
      obtain ⟨x157, e158, hF⟩ := letO_some hF
      refine RL_do rfl rfl (Do_as (Do_not (p := x153) rfl) (congrArg Value.bool e158)) ?_
      refine RL_do rfl rfl (Do_pick_t (v := .bool x157) rfl rfl) ?_
      refine RL_splitb (b := x157) rfl rfl rfl (fun c159 => ?_) (fun c159 => ?_)
      · have hF := iteB_t c159 hF
        refine RL_off rfl rfl ?_
        refine RL_off rfl rfl ?_
        refine RL_off rfl rfl ?_
        refine RL_off rfl rfl ?_
        refine RL_do rfl rfl (Do_pick_t (v := .bool true) rfl rfl) ?_
        refine RL_do rfl rfl (Do_assign (v := .bool true) rfl) ?_
        have hR := Option.some.inj hF
        subst hR
        refine (RL_nil (thenQ_n (And.intro ?_ ?_)))
        · repeat' (first | with_reducible exact Fr_refl | refine Fr_upd rfl ?_ | refine Fr_over rfl rfl ?_)
        · exact ⟨(), (Sl_cons rfl Sl_nil), H.pick [1, 0] (by decide)⟩
      · have hF := iteB_f c159 hF
        refine RL_do rfl rfl (fa24_1 rfl) ?_
        refine RL_do rfl rfl (Do_load one9 rfl (Cells.get (Blk.cells (H.item (i := 1) rfl)) (i := 1) rfl)) ?_
        obtain ⟨x160, e161, hF⟩ := bindO_some hF
        refine RL_call rfl rfl (DoC_func en9 rfl) (F_event_IsName_w p0.Route _ e161 _ _ _ (H.enter [] [] (by decide) rfl)) ?_
        rintro _ w162 ⟨rfl, G163⟩
        have H := H.back0 [] rfl G163
        refine ⟨_, rfl, ?_⟩
        obtain ⟨x164, e165, hF⟩ := letO_some hF
        refine RL_do rfl rfl (Do_as (Do_not (p := x160) rfl) (congrArg Value.bool e165)) ?_
        refine RL_do rfl rfl (Do_pick_f (v := .bool x164) rfl rfl) ?_
        refine RL_do rfl rfl (Do_assign (v := .bool x164) rfl) ?_
        have hR := Option.some.inj hF
        subst hR
        refine (RL_nil (thenQ_n (And.intro ?_ ?_)))
        · repeat' (first | with_reducible exact Fr_refl | refine Fr_upd rfl ?_ | refine Fr_over rfl rfl ?_)
        · exact ⟨(), (Sl_cons rfl Sl_nil), H.pick [1, 0] (by decide)⟩
    · have hF := iteB_f c152 hF
      refine RL_off rfl rfl ?_
      refine RL_off rfl rfl ?_
      refine RL_off rfl rfl ?_
      refine RL_off rfl rfl ?_
      refine RL_do rfl rfl (Do_pick_f (v := .bool false) rfl rfl) ?_
      refine RL_do rfl rfl (Do_move (v := .bool false) rfl) ?_
      refine RL_do rfl rfl (fa24_1 rfl) ?_
      refine RL_do rfl rfl (Do_load one9 rfl (Cells.get (Blk.cells (H.item (i := 1) rfl)) (i := 1) rfl)) ?_
      obtain ⟨x166, e167, hF⟩ := bindO_some hF
      refine RL_call rfl rfl (DoC_func en9 rfl) (F_event_IsName_w p0.Route _ e167 _ _ _ (H.enter [] [] (by decide) rfl)) ?_
      rintro _ w168 ⟨rfl, G169⟩
      have H := H.back0 [] rfl G169
      refine ⟨_, rfl, ?_⟩
      obtain ⟨x170, e171, hF⟩ := letO_some hF
      refine RL_do rfl rfl (Do_as (Do_not (p := x166) rfl) (congrArg Value.bool e171)) ?_
      refine RL_do rfl rfl (Do_pick_f (v := .bool x170) rfl rfl) ?_
      refine RL_do rfl rfl (Do_assign (v := .bool x170) rfl) ?_
      have hR := Option.some.inj hF
      subst hR
      refine (RL_nil (thenQ_n (And.intro ?_ ?_)))
      · repeat' (first | with_reducible exact Fr_refl | refine Fr_upd rfl ?_ | refine Fr_over rfl rfl ?_)
      · exact ⟨(), (Sl_cons rfl Sl_nil), H.pick [1, 0] (by decide)⟩
  · rintro _ ρ w148 H
    have hF := hK149
    refine WP_ifb (b := g147) rfl (fun c172 => ?_) (fun c172 => ?_)
    · have hF := iteB_t c172 hF
      refine WP_seq_k fun K173 hK173 => ?_
      refine WP_region ?_
      refine RL_do rfl rfl (Do_assign (v := .int .i64 8) rfl) ?_
      refine (RL_nil (thenQ_n (hK173 _ _ ?_)))
      have hR := Option.some.inj hF
      subst hR
      refine (WP_ret (blockQ_r (thenQ_r (post1 (v1 := .int .i64 8) rfl rfl ?_))))
      exact ⟨rfl, H.pick [] (by decide)⟩
    · have hF := iteB_f c172 hF
      obtain ⟨g189, hF, hK191⟩ := bindO_some hF
      refine WP_seqS [19, 20, 21, 22, 23, 24, 25, 26, 27, 28, 29, 30, 31, 32, 33, 34, 35, 36, 37, 38, 39, 40] (fun (g : Unit) => [(19, .bool g189)]) (fun g wl => Hd O w wl S [.blk b4 [.string (bs p0.Tail), .string (bs p0.Route), .int .i64 p0.Day, .int .i64 p0.From, .int .i64 p0.To, v1] 24, .fz (.sl rTrack v1 p0.Tracks)]) ?_ ?_
      · skip
        refine WP_region ?_
        refine RL_do rfl rfl (fa24_2 rfl) ?_
        refine RL_do rfl rfl (Do_load one3 rfl (Cells.get (Blk.cells (H.item (i := 0) rfl)) (i := 2) rfl)) ?_
        obtain ⟨x192, e193, hF⟩ := bindO_some hF
        refine RL_call rfl rfl (DoC_func en17 rfl) (F_fleet_within_w p0.Day 0 1000000 _ e193 _ _ _ (H.enter [] [] (by decide) rfl)) ?_
        rintro _ w194 ⟨rfl, G195⟩
        have H := H.back0 [] rfl G195
        refine ⟨_, rfl, ?_⟩
        obtain ⟨x196, e197, hF⟩ := letO_some hF
        refine RL_do rfl rfl (Do_as (Do_not (p := x192) rfl) (congrArg Value.bool e197)) ?_
        refine RL_splitb (b := x196) rfl rfl rfl (fun c198 => ?_) (fun c198 => ?_)
        · have hF := iteB_t c198 hF
          refine RL_off rfl rfl ?_
          refine RL_off rfl rfl ?_
          refine RL_off rfl rfl ?_
          refine RL_do rfl rfl (Do_pick_t (v := .bool true) rfl rfl) ?_
          refine RL_do rfl rfl (Do_move (v := .bool true) rfl) ?_
          refine RL_off rfl rfl ?_
          refine RL_off rfl rfl ?_
          refine RL_off rfl rfl ?_
          refine RL_off rfl rfl ?_
          refine RL_off rfl rfl ?_
          refine RL_do rfl rfl (Do_pick_t (v := .bool true) rfl rfl) ?_
          refine RL_do rfl rfl (Do_move (v := .bool true) rfl) ?_
          refine RL_off rfl rfl ?_
          refine RL_off rfl rfl ?_
          refine RL_off rfl rfl ?_
          refine RL_do rfl rfl (Do_pick_t (v := .bool true) rfl rfl) ?_
          refine RL_do rfl rfl (Do_assign (v := .bool true) rfl) ?_
          have hR := Option.some.inj hF
          subst hR
          refine (RL_nil (thenQ_n (And.intro ?_ ?_)))
          · repeat' (first | with_reducible exact Fr_refl | refine Fr_upd rfl ?_ | refine Fr_over rfl rfl ?_)
          · exact ⟨(), (Sl_cons rfl Sl_nil), H.pick [0, 1] (by decide)⟩
        · have hF := iteB_f c198 hF
          refine RL_do rfl rfl (fa24_3 rfl) ?_
          refine RL_do rfl rfl (Do_load one3 rfl (Cells.get (Blk.cells (H.item (i := 0) rfl)) (i := 3) rfl)) ?_
          obtain ⟨x199, e200, hF⟩ := letO_some hF
          refine RL_do rfl rfl (Do_as (Do_lss (a := p0.From) (b := 0) rfl rfl) (congrArg Value.bool e200)) ?_
          refine RL_do rfl rfl (Do_pick_f (v := .bool x199) rfl rfl) ?_
          refine RL_splitb (b := x199) rfl rfl rfl (fun c201 => ?_) (fun c201 => ?_)
          · have hF := iteB_t c201 hF
            refine RL_off rfl rfl ?_
            refine RL_off rfl rfl ?_
            refine RL_off rfl rfl ?_
            refine RL_off rfl rfl ?_
            refine RL_off rfl rfl ?_
            refine RL_do rfl rfl (Do_pick_t (v := .bool true) rfl rfl) ?_
            refine RL_do rfl rfl (Do_move (v := .bool true) rfl) ?_
            refine RL_off rfl rfl ?_
            refine RL_off rfl rfl ?_
            refine RL_off rfl rfl ?_
            refine RL_do rfl rfl (Do_pick_t (v := .bool true) rfl rfl) ?_
            refine RL_do rfl rfl (Do_assign (v := .bool true) rfl) ?_
            have hR := Option.some.inj hF
            subst hR
            refine (RL_nil (thenQ_n (And.intro ?_ ?_)))
            · repeat' (first | with_reducible exact Fr_refl | refine Fr_upd rfl ?_ | refine Fr_over rfl rfl ?_)
            · exact ⟨(), (Sl_cons rfl Sl_nil), H.pick [0, 1] (by decide)⟩
          · have hF := iteB_f c201 hF
            refine RL_do rfl rfl (fa24_3 rfl) ?_
            refine RL_do rfl rfl (Do_load one3 rfl (Cells.get (Blk.cells (H.item (i := 0) rfl)) (i := 3) rfl)) ?_
            refine RL_do rfl rfl (fa24_4 rfl) ?_
            refine RL_do rfl rfl (Do_load one3 rfl (Cells.get (Blk.cells (H.item (i := 0) rfl)) (i := 4) rfl)) ?_
            obtain ⟨x202, e203, hF⟩ := letO_some hF
            refine RL_do rfl rfl (Do_as (Do_gtr (a := p0.From) (b := p0.To) rfl rfl) (congrArg Value.bool e203)) ?_
            refine RL_do rfl rfl (Do_pick_f (v := .bool x202) rfl rfl) ?_
            refine RL_splitb (b := x202) rfl rfl rfl (fun c204 => ?_) (fun c204 => ?_)
            · have hF := iteB_t c204 hF
              refine RL_off rfl rfl ?_
              refine RL_off rfl rfl ?_
              refine RL_off rfl rfl ?_
              refine RL_do rfl rfl (Do_pick_t (v := .bool true) rfl rfl) ?_
              refine RL_do rfl rfl (Do_assign (v := .bool true) rfl) ?_
              have hR := Option.some.inj hF
              subst hR
              refine (RL_nil (thenQ_n (And.intro ?_ ?_)))
              · repeat' (first | with_reducible exact Fr_refl | refine Fr_upd rfl ?_ | refine Fr_over rfl rfl ?_)
              · exact ⟨(), (Sl_cons rfl Sl_nil), H.pick [0, 1] (by decide)⟩
            · have hF := iteB_f c204 hF
              refine RL_do rfl rfl (fa24_4 rfl) ?_
              refine RL_do rfl rfl (Do_load one3 rfl (Cells.get (Blk.cells (H.item (i := 0) rfl)) (i := 4) rfl)) ?_
              obtain ⟨x205, e206, hF⟩ := letO_some hF
              refine RL_do rfl rfl (Do_as (Do_geq (a := p0.To) (b := 4194304) rfl rfl) (congrArg Value.bool e206)) ?_
              refine RL_do rfl rfl (Do_pick_f (v := .bool x205) rfl rfl) ?_
              refine RL_do rfl rfl (Do_assign (v := .bool x205) rfl) ?_
              have hR := Option.some.inj hF
              subst hR
              refine (RL_nil (thenQ_n (And.intro ?_ ?_)))
              · repeat' (first | with_reducible exact Fr_refl | refine Fr_upd rfl ?_ | refine Fr_over rfl rfl ?_)
              · exact ⟨(), (Sl_cons rfl Sl_nil), H.pick [0, 1] (by decide)⟩
      · rintro _ ρ w190 H
        have hF := hK191
        refine WP_ifb (b := g189) rfl (fun c207 => ?_) (fun c207 => ?_)
        · have hF := iteB_t c207 hF
          refine WP_seq_k fun K208 hK208 => ?_
          refine WP_region ?_
          refine RL_do rfl rfl (Do_assign (v := .int .i64 9) rfl) ?_
          refine (RL_nil (thenQ_n (hK208 _ _ ?_)))
          have hR := Option.some.inj hF
          subst hR
          refine (WP_ret (blockQ_r (thenQ_r (post1 (v1 := .int .i64 9) rfl rfl ?_))))
          exact ⟨rfl, H.pick [] (by decide)⟩
        · have hF := iteB_f c207 hF
          obtain ⟨g223, hF, hK225⟩ := bindO_some hF
          refine WP_seqS [41, 42, 43, 44, 45, 46, 47, 48, 49, 50, 51, 52, 53, 54] (fun (g : Unit) => [(41, .bool g223)]) (fun g wl => Hd O w wl S [.blk b4 [.string (bs p0.Tail), .string (bs p0.Route), .int .i64 p0.Day, .int .i64 p0.From, .int .i64 p0.To, v1] 24, .fz (.sl rTrack v1 p0.Tracks)]) ?_ ?_
          · skip
            refine WP_region ?_
            refine RL_do rfl rfl (fa24_4 rfl) ?_
            refine RL_do rfl rfl (Do_load one3 rfl (Cells.get (Blk.cells (H.item (i := 0) rfl)) (i := 4) rfl)) ?_
            refine RL_do rfl rfl (fa24_3 rfl) ?_
            refine RL_do rfl rfl (Do_load one3 rfl (Cells.get (Blk.cells (H.item (i := 0) rfl)) (i := 3) rfl)) ?_
            obtain ⟨x226, e227, hF⟩ := letO_some hF
            refine RL_do rfl rfl (Do_sub (a := p0.To) (b := p0.From) rfl rfl e227) ?_
            obtain ⟨x228, e229, hF⟩ := letO_some hF
            refine RL_do rfl rfl (Do_add (a := x226) (b := 1) rfl rfl e229) ?_
            obtain ⟨x230, e231, hF⟩ := letO_some hF
            refine RL_do rfl rfl (Do_as (Do_gtr (a := x228) (b := 20000) rfl rfl) (congrArg Value.bool e231)) ?_
            refine RL_splitb (b := x230) rfl rfl rfl (fun c232 => ?_) (fun c232 => ?_)
            · have hF := iteB_t c232 hF
              refine RL_off rfl rfl ?_
              refine RL_off rfl rfl ?_
              refine RL_off rfl rfl ?_
              refine RL_off rfl rfl ?_
              refine RL_do rfl rfl (Do_pick_t (v := .bool true) rfl rfl) ?_
              refine RL_do rfl rfl (Do_assign (v := .bool true) rfl) ?_
              have hR := Option.some.inj hF
              subst hR
              refine (RL_nil (thenQ_n (And.intro ?_ ?_)))
              · repeat' (first | with_reducible exact Fr_refl | refine Fr_upd rfl ?_ | refine Fr_over rfl rfl ?_)
              · exact ⟨(), (Sl_cons rfl Sl_nil), H.pick [0, 1] (by decide)⟩
            · have hF := iteB_f c232 hF
              refine RL_do rfl rfl (fa24_5 rfl) ?_
              refine RL_do rfl rfl (Do_load one22 rfl (Cells.get (Blk.cells (H.item (i := 0) rfl)) (i := 5) rfl)) ?_
              obtain ⟨x233, e234, hF⟩ := letO_some hF
              obtain ⟨a235, c236, q237⟩ := SlF.len ((H.item (i := 1) rfl))
              refine RL_do rfl rfl (Do_as (Do_len u22 q237) (congrArg (Value.int .i64) e234)) ?_
              obtain ⟨x238, e239, hF⟩ := letO_some hF
              refine RL_do rfl rfl (Do_as (Do_gtr (a := x233) (b := 30) rfl rfl) (congrArg Value.bool e239)) ?_
              refine RL_do rfl rfl (Do_pick_f (v := .bool x238) rfl rfl) ?_
              refine RL_do rfl rfl (Do_assign (v := .bool x238) rfl) ?_
              have hR := Option.some.inj hF
              subst hR
              refine (RL_nil (thenQ_n (And.intro ?_ ?_)))
              · repeat' (first | with_reducible exact Fr_refl | refine Fr_upd rfl ?_ | refine Fr_over rfl rfl ?_)
              · exact ⟨(), (Sl_cons rfl Sl_nil), H.pick [0, 1] (by decide)⟩
          · rintro _ ρ w224 H
            have hF := hK225
            refine WP_ifb (b := g223) rfl (fun c240 => ?_) (fun c240 => ?_)
            · have hF := iteB_t c240 hF
              refine WP_seq_k fun K241 hK241 => ?_
              refine WP_region ?_
              refine RL_do rfl rfl (Do_assign (v := .int .i64 3) rfl) ?_
              refine (RL_nil (thenQ_n (hK241 _ _ ?_)))
              have hR := Option.some.inj hF
              subst hR
              refine (WP_ret (blockQ_r (thenQ_r (post1 (v1 := .int .i64 3) rfl rfl ?_))))
              exact ⟨rfl, H.pick [] (by decide)⟩
            · have hF := iteB_f c240 hF
              refine (WP_skip (blockQ_n (thenQ_n (hK124 _ _ ?_))))
              refine WP_seq_k fun K242 hK242 => ?_
              refine WP_region ?_
              refine RL_do rfl rfl (fa24_5 rfl) ?_
              refine RL_do rfl rfl (Do_load one22 rfl (Cells.get (Blk.cells (H.item (i := 0) rfl)) (i := 5) rfl)) ?_
              obtain ⟨x243, e244, hF⟩ := bindO_some hF
              refine RL_call rfl rfl (DoC_func en18 rfl) (F_event_CheckTracks_w p0.Tracks v1 _ e244 _ _ _ (H.enter [] [1] (by decide) rfl)) ?_
              rintro _ w245 ⟨rfl, G246⟩
              have H := H.back0 [1] rfl G246
              refine ⟨_, rfl, ?_⟩
              refine RL_do rfl rfl (Do_assign (v := .int .i64 x243) rfl) ?_
              refine (RL_nil (thenQ_n (hK242 _ _ ?_)))
              have hR := Option.some.inj hF
              subst hR
              refine (WP_ret (post1 (v1 := .int .i64 x243) rfl rfl ?_))
              exact ⟨rfl, H.pick [] (by decide)⟩
end Go.Proofs.Ytbjhondbheijiaa
namespace Go.Proofs.Ytbjhondbheijiaa
open Go.RowKit Go.OB Go.Lf
/- orangebox/fleet.trackOf -/
set_option maxHeartbeats 4000000 in
theorem F_fleet_trackOf_w (p0 : Flight) (p1 : Str) (v1 : Value) (r : (Option Track)) (hF : F_fleet_trackOf p0 p1 = some r) (O S : List Nat) (w : World) (H : Hd O w w S [.fz (.sl rTrack v1 p0.Tracks)]) :
    Calls Try.prog 20 ([.agg [.string (bs p0.Tail), .string (bs p0.Route), .int .i64 p0.Day, .int .i64 p0.From, .int .i64 p0.To, v1].toArray, .string (bs p1)] : List Value).toArray w fun e w' => ∃ u3, e = .returned (.pointer u3) ∧ Hd O w w' S [.fz (.pt rTrack u3 r)] := by
  unfold F_fleet_trackOf at hF
  refine calls_of_WP 25 Try.func20 rfl rfl rfl ?_
  refine WP_seq_k fun K4 hK4 => ?_
  refine WP_region ?_
  refine RL_ex rfl rfl (Lx_box (cs := [.string (bs p0.Tail), .string (bs p0.Route), .int .i64 p0.Day, .int .i64 p0.From, .int .i64 p0.To, v1]) rfl H) ?_
  rintro _ w7 ⟨b5, rfl, H⟩
  refine RL_do rfl rfl (Do_assign (v := .pointer none) rfl) ?_
  refine (RL_nil (thenQ_n (hK4 _ _ ?_)))
  obtain ⟨k266, ek267, hF⟩ := joinO_some hF
  refine WP_seqS [4, 5, 6, 7, 8, 9, 10, 11, 12, 13, 14, 15, 16, 17, 18, 19, 20, 21, 22, 23, 24] (fun (g : Unit) => []) (fun g wl => Hd O w wl S [] ∧ k266 () = some r) ?_ ?_
  · skip
    refine WP_seq_k fun K268 hK268 => ?_
    refine WP_region ?_
    refine RL_do rfl rfl (fa24_5 rfl) ?_
    refine RL_do rfl rfl (Do_load one22 rfl (Cells.get (Blk.cells (H.item (i := 1) rfl)) (i := 5) rfl)) ?_
    obtain ⟨x269, e270, hF⟩ := letO_some hF
    obtain ⟨a271, c272, q273⟩ := SlF.len ((H.item (i := 0) rfl))
    refine RL_do rfl rfl (Do_as (Do_len u22 q273) (congrArg (Value.int .i64) e270)) ?_
    refine RL_do rfl rfl (Do_move (v := .int .i64 0) rfl) ?_
    refine (RL_nil (thenQ_n (hK268 _ _ ?_)))
    refine WP_block ?_
    unfold F_fleet_trackOf_L1 at hF
    obtain ⟨B438, n439, eB440, hF⟩ := loopO_some hF
    refine WP_loopS [4, 5, 9, 10, 11, 12, 13, 14, 15, 16, 17, 18, 19, 20, 21, 22, 23, 24] (fun (g : Nat × Int) => [(9, .int .i64 g.2)]) (fun g wl => Hd O w wl S [.blk b5 [.string (bs p0.Tail), .string (bs p0.Route), .int .i64 p0.Day, .int .i64 p0.From, .int .i64 p0.To, v1] 24, .fz (.sl rTrack v1 p0.Tracks)] ∧ loopN B438 g.1 g.2 = some r) (fun g => g.1) (n439, 0) (Sl_cons rfl Sl_nil) ⟨H.pick [1, 0] (by decide), hF⟩ ?_
    clear H hF
    rintro ⟨n439, g437⟩ ρ w442 ⟨H, hF⟩
    obtain ⟨n443, rfl, hF⟩ := loopN_pos hF
    have hF := loop_body eB440 hF
    refine WP_seq_k fun K444 hK444 => ?_
    refine WP_region ?_
    obtain ⟨x445, e446, hF⟩ := letO_some hF
    refine RL_do rfl rfl (Do_as (Do_lss (a := g437) (b := x269) rfl rfl) (congrArg Value.bool e446)) ?_
    refine (RL_nil (thenQ_n (hK444 _ _ ?_)))
    refine WP_seq_k fun K448 hK448 => ?_
    refine WP_ifb (b := x445) rfl (fun c449 => ?_) (fun c449 => ?_)
    · have hF := iteB_t c449 hF
      refine (WP_skip (thenQ_n (hK448 _ _ ?_)))
      refine WP_seq_k fun K486 hK486 => ?_
      refine WP_block ?_
      refine WP_seq_k fun K487 hK487 => ?_
      refine WP_region ?_
      refine RL_do rfl rfl (Do_move (v := .int .i64 g437) rfl) ?_
      refine RL_do rfl rfl (Do_assign (v := .int .i64 g437) rfl) ?_
      refine (RL_nil (thenQ_n (hK487 _ _ ?_)))
      refine WP_seq_k fun K488 hK488 => ?_
      refine WP_region ?_
      refine RL_do rfl rfl (fa24_5 rfl) ?_
      refine RL_do rfl rfl (Do_load one22 rfl (Cells.get (Blk.cells (H.item (i := 0) rfl)) (i := 5) rfl)) ?_
      refine RL_do rfl rfl (Do_move (v := .int .i64 g437) rfl) ?_
      obtain ⟨x489, e490, hF⟩ := bindO_some hF
      obtain ⟨b491, o492, c493, cs494, q495, h498, h496, h497, h499⟩ := rd_at (H.item (i := 1) rfl) e490
      obtain ⟨v500, rfl, h501⟩ := rTrack_open h498
      have H := H.fzs [.at b491 (o492 + g437.toNat * 4) _, .sl rSample v500 x489.Series.Samples] ⟨⟨h496, h497, h499⟩, h501, trivial⟩
      refine RL_do rfl rfl (Do_idx u22 sz60 q495 rfl (at_some e490).1 (at_some e490).2.1 rfl rfl) ?_
      refine RL_do rfl rfl (fa60_0 rfl) ?_
      refine RL_do rfl rfl (Do_load one9 rfl (Cells.get (H.item (i := 2) rfl).2.2 (i := 0) rfl)) ?_
      refine RL_do rfl rfl (Do_move (v := .string (bs p1)) rfl) ?_
      obtain ⟨x504, e505, hF⟩ := letO_some hF
      refine RL_do rfl rfl (Do_as (Do_eqls (s1 := x489.Name) (s2 := p1) rfl rfl) (congrArg Value.bool e505)) ?_
      refine (RL_nil (thenQ_n (hK488 _ _ ?_)))
      refine WP_ifb (b := x504) rfl (fun c506 => ?_) (fun c506 => ?_)
      · have hF := iteB_t c506 hF
        refine WP_seq_k fun K507 hK507 => ?_
        refine WP_region ?_
        refine RL_do rfl rfl (fa24_5 rfl) ?_
        refine RL_do rfl rfl (Do_load one22 rfl (Cells.get (Blk.cells (H.item (i := 0) rfl)) (i := 5) rfl)) ?_
        refine RL_do rfl rfl (Do_move (v := .int .i64 g437) rfl) ?_
        obtain ⟨x508, e509, hF⟩ := bindO_some hF
        obtain ⟨b510, o511, c512, cs513, q514, h517, h515, h516, h518⟩ := rd_at (H.item (i := 1) rfl) e509
        obtain ⟨v519, rfl, h520⟩ := rTrack_open h517
        have H := H.fzs [.at b510 (o511 + g437.toNat * 4) _, .sl rSample v519 x508.Series.Samples] ⟨⟨h515, h516, h518⟩, h520, trivial⟩
        refine RL_do rfl rfl (Do_idx u22 sz60 q514 rfl (at_some e509).1 (at_some e509).2.1 rfl rfl) ?_
        refine RL_do rfl rfl (Do_assign (v := .pointer (some ⟨b510, o511 + g437.toNat * 4, none⟩)) rfl) ?_
        refine (RL_nil (thenQ_n (hK507 _ _ ?_)))
        have H := H.fz (.pt rTrack (some ⟨b510, o511 + g437.toNat * 4, none⟩) (some x508)) ⟨_, _, _, rfl, (H.item (i := 4) rfl).1, (H.item (i := 4) rfl).2.1, (rTrack_mk (x := x508) (H.item (i := 5) rfl)), (H.item (i := 4) rfl).2.2⟩
        have hR := Option.some.inj hF
        subst hR
        refine (WP_ret (blockQ_r (thenQ_r (thenQ_r (blockQ_r (thenQ_r (post1 (v1 := .pointer (some ⟨b510, o511 + g437.toNat * 4, none⟩)) rfl rfl ?_)))))))
        exact ⟨(some ⟨b510, o511 + g437.toNat * 4, none⟩), rfl, H.pick [6] (by decide)⟩
      · have hF := iteB_f c506 hF
        refine (WP_skip (blockQ_n (thenQ_n (hK486 _ _ ?_))))
        refine WP_region ?_
        obtain ⟨x524, e525, hF⟩ := letO_some hF
        refine RL_do rfl rfl (Do_add (a := g437) (b := 1) rfl rfl e525) ?_
        refine RL_do rfl rfl (Do_move (v := .int .i64 x524) rfl) ?_
        refine (RL_nil (thenQ_n (And.intro ?_ ?_)))
        · repeat' (first | with_reducible exact Fr_refl | refine Fr_upd rfl ?_ | refine Fr_over rfl rfl ?_)
        · exact ⟨(n443, x524), (Sl_cons rfl Sl_nil), ⟨H.pick [0, 1] (by decide), hF⟩, Nat.lt_succ_self _⟩
    · have hF := iteB_f c449 hF
      refine (WP_exit (thenQ_x (thenQ_x (blockQ_eq (thenQ_n (And.intro ?_ ?_))))))
      · repeat' (first | with_reducible exact Fr_refl | refine Fr_upd rfl ?_ | refine Fr_over rfl rfl ?_)
      · exact ⟨(), Sl_nil, ⟨H.pick [] (by decide), hF⟩⟩
  · rintro _ ρ w265 ⟨H, hF⟩
    have hF := join_body ek267 hF
    refine WP_seq_k fun K526 hK526 => ?_
    refine WP_region ?_
    refine RL_do rfl rfl (Do_assign (v := .pointer none) rfl) ?_
    refine (RL_nil (thenQ_n (hK526 _ _ ?_)))
    have H := H.fz (.pt rTrack none none) rfl
    have hR := Option.some.inj hF
    subst hR
    refine (WP_ret (post1 (v1 := .pointer none) rfl rfl ?_))
    exact ⟨none, rfl, H.pick [0] (by decide)⟩
end Go.Proofs.Ytbjhondbheijiaa
namespace Go.Proofs.Ytbjhondbheijiaa
open Go.RowKit Go.OB Go.Lf
/- orangebox/fleet.peak -/
set_option maxHeartbeats 4000000 in
theorem F_fleet_peak_w (p0 : Flight) (p1 : Str) (v1 : Value) (r : Int × Bool) (hF : F_fleet_peak p0 p1 = some r) (O S : List Nat) (w : World) (H : Hd O w w S [.fz (.sl rTrack v1 p0.Tracks)]) :
    Calls Try.prog 10 ([.agg [.string (bs p0.Tail), .string (bs p0.Route), .int .i64 p0.Day, .int .i64 p0.From, .int .i64 p0.To, v1].toArray, .string (bs p1)] : List Value).toArray w fun e w' => e = .returned (.tuple #[.int .i64 r.1, .bool r.2]) ∧ Hd O w w' S [] := by
  unfold F_fleet_peak at hF
  refine calls_of_WP 56 Try.func10 rfl rfl rfl ?_
  refine WP_seq_k fun K3 hK3 => ?_
  refine WP_region ?_
  refine RL_ex rfl rfl (Lx_box (cs := [.string (bs p0.Tail), .string (bs p0.Route), .int .i64 p0.Day, .int .i64 p0.From, .int .i64 p0.To, v1]) rfl H) ?_
  rintro _ w6 ⟨b4, rfl, H⟩
  refine RL_do rfl rfl (Do_assign (v := .int .i64 0) rfl) ?_
  refine RL_do rfl rfl (Do_assign (v := .bool false) rfl) ?_
  refine (RL_nil (thenQ_n (hK3 _ _ ?_)))
  refine WP_seq_k fun K7 hK7 => ?_
  refine WP_region ?_
  refine RL_do rfl rfl (Do_as (Do_loads (cs := [.string (bs p0.Tail), .string (bs p0.Route), .int .i64 p0.Day, .int .i64 p0.From, .int .i64 p0.To, v1]) agg24 rfl sz24 rfl (Blk.cells (H.item (i := 1) rfl))) rfl) ?_
  refine RL_do rfl rfl (Do_move (v := .string (bs p1)) rfl) ?_
  obtain ⟨x8, e9, hF⟩ := bindO_some hF
  refine RL_call rfl rfl (DoC_func en20 rfl) (F_fleet_trackOf_w p0 p1 v1 _ e9 _ _ _ (H.enter [] [0] (by decide) rfl)) ?_
  rintro _ w12 ⟨v10, rfl, G13⟩
  have H := H.back1 [0] rfl G13
  refine ⟨_, rfl, ?_⟩
  refine RL_do rfl rfl (Do_assign (v := .pointer v10) rfl) ?_
  refine (RL_nil (thenQ_n (hK7 _ _ ?_)))
  refine WP_seq_k fun K19 hK19 => ?_
  refine WP_seq_k fun K20 hK20 => ?_
  refine WP_region ?_
  refine RL_do rfl rfl (Do_move (v := .pointer v10) rfl) ?_
  obtain ⟨x21, e22, hF⟩ := letO_some hF
  refine RL_do rfl rfl (Do_as (Do_eqlnilp (pv := v10) u54 rfl rfl) (congrArg Value.bool ((congrArg (fun b => b) (PtF.isNone (H.item (i := 2) rfl))).trans e22))) ?_
  refine (RL_nil (thenQ_n (hK20 _ _ ?_)))
  refine WP_ifb (b := x21) rfl (fun c23 => ?_) (fun c23 => ?_)
  · have hF := iteB_t c23 hF
    refine WP_seq_k fun K24 hK24 => ?_
    refine WP_region ?_
    refine RL_do rfl rfl (Do_assign (v := .int .i64 0) rfl) ?_
    refine RL_do rfl rfl (Do_assign (v := .bool false) rfl) ?_
    refine (RL_nil (thenQ_n (hK24 _ _ ?_)))
    have hR := Option.some.inj hF
    subst hR
    refine (WP_ret (thenQ_r (post2 (v1 := .int .i64 0) (v2 := .bool false) rfl rfl rfl ?_)))
    exact ⟨rfl, H.pick [] (by decide)⟩
  · have hF := iteB_f c23 hF
    refine (WP_skip (thenQ_n (hK19 _ _ ?_)))
    refine WP_seq_k fun K25 hK25 => ?_
    refine WP_region ?_
    refine RL_do rfl rfl (Do_assign (v := .int .i64 0) rfl) ?_
    refine RL_do rfl rfl (Do_assign (v := .bool false) rfl) ?_
    refine (RL_nil (thenQ_n (hK25 _ _ ?_)))
    obtain ⟨j723, hF, hK722⟩ := bindO_some hF
    refine WP_seqS [7, 8, 10, 16, 17, 18, 19, 20, 21, 22, 23, 24, 25, 26, 27, 28, 29, 30, 31, 32, 33, 34, 35, 36, 37, 38, 39, 40, 41, 42, 43, 44, 45, 46, 47, 48, 49, 50, 51, 52, 53] (fun (g : Unit) => [(7, .int .i64 j723.1), (8, .bool j723.2)]) (fun g wl => Hd O w wl S []) ?_ ?_
    · skip
      refine WP_seq_k fun K724 hK724 => ?_
      refine WP_region ?_
      refine RL_do rfl rfl (Do_move (v := .pointer v10) rfl) ?_
      obtain ⟨x725, e726, hF⟩ := bindO_some hF
      obtain ⟨b727, o728, cs729, q730, h731, h732, h733, h734⟩ := ptf_some ((H.item (i := 2) rfl) : PtF _ _ _ _ _) e726
      obtain ⟨v735, rfl, h736⟩ := rTrack_open h733
      have H := H.fzs [.at b727 o728 _, .sl rSample v735 x725.Series.Samples] ⟨⟨h731, h732, h734⟩, h736, trivial⟩
      refine RL_do rfl rfl (Do_nilCheck (ad := ⟨b727, o728, none⟩) (congrArg Value.pointer q730)) ?_
      refine RL_do rfl rfl (fa60_1 rfl) ?_
      refine RL_do rfl rfl (fa58_1 rfl) ?_
      refine RL_do rfl rfl (Do_load one56 rfl (Cells.get (H.item (i := 3) rfl).2.2 (i := 2) rfl)) ?_
      obtain ⟨x739, e740, hF⟩ := letO_some hF
      obtain ⟨a741, c742, q743⟩ := SlF.len ((H.item (i := 4) rfl))
      refine RL_do rfl rfl (Do_as (Do_len u56 q743) (congrArg (Value.int .i64) e740)) ?_
      refine RL_do rfl rfl (Do_move (v := .int .i64 0) rfl) ?_
      refine (RL_nil (thenQ_n (hK724 _ _ ?_)))
      refine WP_block ?_
      unfold F_fleet_peak_L1 at hF
      obtain ⟨B1182, n1183, eB1184, hF⟩ := loopO_some hF
      refine WP_loopS [7, 8, 10, 22, 23, 24, 25, 26, 27, 28, 29, 30, 31, 32, 33, 34, 35, 36, 37, 38, 39, 40, 41, 42, 43, 44, 45, 46, 47, 48, 49, 50, 51, 52, 53] (fun (g : Nat × Int × Bool × Int) => [(7, .int .i64 g.2.1), (8, .bool g.2.2.1), (22, .int .i64 g.2.2.2)]) (fun g wl => Hd O w wl S [.blk b4 [.string (bs p0.Tail), .string (bs p0.Route), .int .i64 p0.Day, .int .i64 p0.From, .int .i64 p0.To, v1] 24, .fz (.sl rTrack v1 p0.Tracks), .fz (.sl rSample v735 x725.Series.Samples)] ∧ loopN B1182 g.1 (g.2.1, g.2.2.1, g.2.2.2) = some j723) (fun g => g.1) (n1183, 0, false, 0) (Sl_cons rfl (Sl_cons rfl (Sl_cons rfl Sl_nil))) ⟨H.pick [1, 0, 4] (by decide), hF⟩ ?_
      clear H hF
      rintro ⟨n1183, g1179, g1180, g1181⟩ ρ w1186 ⟨H, hF⟩
      obtain ⟨n1187, rfl, hF⟩ := loopN_pos hF
      have hF := loop_body eB1184 hF
      refine WP_seq_k fun K1188 hK1188 => ?_
      refine WP_region ?_
      obtain ⟨x1189, e1190, hF⟩ := letO_some hF
      refine RL_do rfl rfl (Do_as (Do_lss (a := g1181) (b := x739) rfl rfl) (congrArg Value.bool e1190)) ?_
      refine (RL_nil (thenQ_n (hK1188 _ _ ?_)))
      refine WP_seq_k fun K1192 hK1192 => ?_
      refine WP_ifb (b := x1189) rfl (fun c1193 => ?_) (fun c1193 => ?_)
      · have hF := iteB_t c1193 hF
        refine (WP_skip (thenQ_n (hK1192 _ _ ?_)))
        obtain ⟨j1306, hF, hK1305⟩ := bindO_some hF
        refine WP_seqS [7, 8, 10, 24, 25, 26, 27, 28, 29, 30, 31, 32, 33, 34, 35, 36, 37, 38, 39, 40, 41, 42, 43, 44, 45, 46, 47, 48, 49, 50, 51, 52] (fun (g : Unit) => [(7, .int .i64 j1306.1), (8, .bool j1306.2)]) (fun g wl => Hd O w wl S [.blk b4 [.string (bs p0.Tail), .string (bs p0.Route), .int .i64 p0.Day, .int .i64 p0.From, .int .i64 p0.To, v1] 24, .fz (.sl rTrack v1 p0.Tracks), .fz (.sl rSample v735 x725.Series.Samples)]) ?_ ?_
        · skip
          refine WP_block ?_
          refine WP_seq_k fun K1307 hK1307 => ?_
          refine WP_region ?_
          obtain ⟨x1308, e1309, hF⟩ := bindO_some hF
          obtain ⟨b1310, o1311, c1312, cs1313, q1314, h1317, h1315, h1316, h1318⟩ := rd_at (H.item (i := 2) rfl) e1309
          obtain rfl := rSample_open h1317
          have H := H.fz (.at b1310 (o1311 + g1181.toNat * 3) _) ⟨h1315, h1316, h1318⟩
          refine RL_do rfl rfl (Do_idx u56 sz62 q1314 rfl (at_some e1309).1 (at_some e1309).2.1 rfl rfl) ?_
          refine RL_do rfl rfl (Do_as (Do_loads (cs := [.int .i64 x1308.At, .int .i64 x1308.N, .int .i64 x1308.Mark]) agg62 rfl sz62 rfl (H.item (i := 3) rfl).2.2) rfl) ?_
          refine RL_ex rfl rfl (Lx_alloc zero62 H) ?_
          rintro _ w1322 ⟨b1320, rfl, H⟩
          refine RL_exU rfl (Lx_storeN (vs := [.int .i64 x1308.At, .int .i64 x1308.N, .int .i64 x1308.Mark]) H 4 rfl sz62 rfl rfl rfl ⟨rfl, rfl, rfl, trivial⟩ rfl) ?_
          rintro w1323 H
          refine (RL_nil (thenQ_n (hK1307 _ _ ?_)))
          refine WP_seq_k fun K1362 hK1362 => ?_
          obtain ⟨g1380, hF, hK1382⟩ := bindO_some hF
          refine WP_seqS [26, 27, 28, 29, 30, 31, 32, 33, 34, 35, 36, 37, 38, 39, 40, 41, 42] (fun (g : Unit) => [(42, .bool g1380)]) (fun g wl => Hd O w wl S [.blk b4 [.string (bs p0.Tail), .string (bs p0.Route), .int .i64 p0.Day, .int .i64 p0.From, .int .i64 p0.To, v1] 24, .fz (.sl rTrack v1 p0.Tracks), .fz (.sl rSample v735 x725.Series.Samples), .blk b1320 [.int .i64 x1308.At, .int .i64 x1308.N, .int .i64 x1308.Mark] 62]) ?_ ?_
          · skip
            refine WP_region ?_
            refine RL_do rfl rfl (fa62_2 rfl) ?_
            refine RL_do rfl rfl (Do_load one3 rfl (Cells.get (Blk.cells (H.item (i := 4) rfl)) (i := 2) rfl)) ?_
            obtain ⟨x1383, e1384, hF⟩ := letO_some hF
            refine RL_do rfl rfl (Do_as (Do_lss (a := x1308.Mark) (b := 3) rfl rfl) (congrArg Value.bool e1384)) ?_
            refine RL_splitb (b := x1383) rfl rfl rfl (fun c1385 => ?_) (fun c1385 => ?_)
            · have hF := iteB_t c1385 hF
              refine RL_off rfl rfl ?_
              refine RL_off rfl rfl ?_
              refine RL_off rfl rfl ?_
              refine RL_off rfl rfl ?_
              refine RL_off rfl rfl ?_
              refine RL_off rfl rfl ?_
              refine RL_off rfl rfl ?_
              refine RL_off rfl rfl ?_
              refine RL_off rfl rfl ?_
              refine RL_off rfl rfl ?_
              refine RL_off rfl rfl ?_
              refine RL_off rfl rfl ?_
              refine RL_do rfl rfl (Do_pick_t (v := .bool true) rfl rfl) ?_
              have hR := Option.some.inj hF
              subst hR
              refine (RL_nil (thenQ_n (And.intro ?_ ?_)))
              · repeat' (first | with_reducible exact Fr_refl | refine Fr_upd rfl ?_ | refine Fr_over rfl rfl ?_)
              · exact ⟨(), (Sl_cons rfl Sl_nil), H.pick [0, 1, 2, 4] (by decide)⟩
            · have hF := iteB_f c1385 hF
              refine RL_do rfl rfl (fa62_0 rfl) ?_
              refine RL_do rfl rfl (Do_load one3 rfl (Cells.get (Blk.cells (H.item (i := 4) rfl)) (i := 0) rfl)) ?_
              refine RL_do rfl rfl (fa24_3 rfl) ?_
              refine RL_do rfl rfl (Do_load one3 rfl (Cells.get (Blk.cells (H.item (i := 0) rfl)) (i := 3) rfl)) ?_
              obtain ⟨x1386, e1387, hF⟩ := letO_some hF
              refine RL_do rfl rfl (Do_mul (a := 64) (b := p0.From) rfl rfl e1387) ?_
              refine RL_do rfl rfl (fa24_4 rfl) ?_
              refine RL_do rfl rfl (Do_load one3 rfl (Cells.get (Blk.cells (H.item (i := 0) rfl)) (i := 4) rfl)) ?_
              obtain ⟨x1388, e1389, hF⟩ := letO_some hF
              refine RL_do rfl rfl (Do_mul (a := 64) (b := p0.To) rfl rfl e1389) ?_
              obtain ⟨x1390, e1391, hF⟩ := letO_some hF
              refine RL_do rfl rfl (Do_add (a := x1388) (b := 64) rfl rfl e1391) ?_
              obtain ⟨x1392, e1393, hF⟩ := letO_some hF
              refine RL_do rfl rfl (Do_sub (a := x1390) (b := 1) rfl rfl e1393) ?_
              obtain ⟨x1394, e1395, hF⟩ := bindO_some hF
              refine RL_call rfl rfl (DoC_func en17 rfl) (F_fleet_within_w x1308.At x1386 x1392 _ e1395 _ _ _ (H.enter [] [] (by decide) rfl)) ?_
              rintro _ w1396 ⟨rfl, G1397⟩
              have H := H.back0 [] rfl G1397
              refine ⟨_, rfl, ?_⟩
              obtain ⟨x1398, e1399, hF⟩ := letO_some hF
              refine RL_do rfl rfl (Do_as (Do_not (p := x1394) rfl) (congrArg Value.bool e1399)) ?_
              refine RL_do rfl rfl (Do_pick_f (v := .bool x1398) rfl rfl) ?_
              have hR := Option.some.inj hF
              subst hR
              refine (RL_nil (thenQ_n (And.intro ?_ ?_)))
              · repeat' (first | with_reducible exact Fr_refl | refine Fr_upd rfl ?_ | refine Fr_over rfl rfl ?_)
              · exact ⟨(), (Sl_cons rfl Sl_nil), H.pick [0, 1, 2, 4] (by decide)⟩
          · rintro _ ρ w1381 H
            have hF := hK1382
            refine WP_ifb (b := g1380) rfl (fun c1400 => ?_) (fun c1400 => ?_)
            · have hF := iteB_t c1400 hF
              have hR := Option.some.inj hF
              subst hR
              refine (WP_exit (thenQ_x (blockQ_eq (thenQ_n (And.intro ?_ ?_)))))
              · repeat' (first | with_reducible exact Fr_refl | refine Fr_upd rfl ?_ | refine Fr_over rfl rfl ?_)
              · exact ⟨(), (Sl_cons rfl (Sl_cons rfl Sl_nil)), H.pick [0, 1, 2] (by decide)⟩
            · have hF := iteB_f c1400 hF
              refine (WP_skip (thenQ_n (hK1362 _ _ ?_)))
              obtain ⟨g1406, hF, hK1408⟩ := bindO_some hF
              refine WP_seqS [43, 44, 45, 46, 47, 48, 49, 50] (fun (g : Unit) => [(50, .bool g1406)]) (fun g wl => Hd O w wl S [.blk b4 [.string (bs p0.Tail), .string (bs p0.Route), .int .i64 p0.Day, .int .i64 p0.From, .int .i64 p0.To, v1] 24, .fz (.sl rTrack v1 p0.Tracks), .fz (.sl rSample v735 x725.Series.Samples), .blk b1320 [.int .i64 x1308.At, .int .i64 x1308.N, .int .i64 x1308.Mark] 62]) ?_ ?_
              · skip
                refine WP_region ?_
                refine RL_do rfl rfl (Do_move (v := .bool g1180) rfl) ?_
                obtain ⟨x1409, e1410, hF⟩ := letO_some hF
                refine RL_do rfl rfl (Do_as (Do_not (p := g1180) rfl) (congrArg Value.bool e1410)) ?_
                refine RL_splitb (b := x1409) rfl rfl rfl (fun c1411 => ?_) (fun c1411 => ?_)
                · have hF := iteB_t c1411 hF
                  refine RL_off rfl rfl ?_
                  refine RL_off rfl rfl ?_
                  refine RL_off rfl rfl ?_
                  refine RL_off rfl rfl ?_
                  refine RL_do rfl rfl (Do_pick_t (v := .bool true) rfl rfl) ?_
                  have hR := Option.some.inj hF
                  subst hR
                  refine (RL_nil (thenQ_n (And.intro ?_ ?_)))
                  · repeat' (first | with_reducible exact Fr_refl | refine Fr_upd rfl ?_ | refine Fr_over rfl rfl ?_)
                  · exact ⟨(), (Sl_cons rfl Sl_nil), H.pick [0, 1, 2, 3] (by decide)⟩
                · have hF := iteB_f c1411 hF
                  refine RL_do rfl rfl (fa62_1 rfl) ?_
                  refine RL_do rfl rfl (Do_load one3 rfl (Cells.get (Blk.cells (H.item (i := 3) rfl)) (i := 1) rfl)) ?_
                  refine RL_do rfl rfl (Do_move (v := .int .i64 g1179) rfl) ?_
                  obtain ⟨x1412, e1413, hF⟩ := letO_some hF
                  refine RL_do rfl rfl (Do_as (Do_gtr (a := x1308.N) (b := g1179) rfl rfl) (congrArg Value.bool e1413)) ?_
                  refine RL_do rfl rfl (Do_pick_f (v := .bool x1412) rfl rfl) ?_
                  have hR := Option.some.inj hF
                  subst hR
                  refine (RL_nil (thenQ_n (And.intro ?_ ?_)))
                  · repeat' (first | with_reducible exact Fr_refl | refine Fr_upd rfl ?_ | refine Fr_over rfl rfl ?_)
                  · exact ⟨(), (Sl_cons rfl Sl_nil), H.pick [0, 1, 2, 3] (by decide)⟩
              · rintro _ ρ w1407 H
                have hF := hK1408
                refine WP_ifb (b := g1406) rfl (fun c1414 => ?_) (fun c1414 => ?_)
                · have hF := iteB_t c1414 hF
                  refine WP_region ?_
                  refine RL_do rfl rfl (fa62_1 rfl) ?_
                  refine RL_do rfl rfl (Do_load one3 rfl (Cells.get (Blk.cells (H.item (i := 3) rfl)) (i := 1) rfl)) ?_
                  refine RL_do rfl rfl (Do_assign (v := .int .i64 x1308.N) rfl) ?_
                  refine RL_do rfl rfl (Do_assign (v := .bool true) rfl) ?_
                  have hR := Option.some.inj hF
                  subst hR
                  refine (RL_nil (blockQ_n (thenQ_n (And.intro ?_ ?_))))
                  · repeat' (first | with_reducible exact Fr_refl | refine Fr_upd rfl ?_ | refine Fr_over rfl rfl ?_)
                  · exact ⟨(), (Sl_cons rfl (Sl_cons rfl Sl_nil)), H.pick [0, 1, 2] (by decide)⟩
                · have hF := iteB_f c1414 hF
                  have hR := Option.some.inj hF
                  subst hR
                  refine (WP_skip (blockQ_n (thenQ_n (And.intro ?_ ?_))))
                  · repeat' (first | with_reducible exact Fr_refl | refine Fr_upd rfl ?_ | refine Fr_over rfl rfl ?_)
                  · exact ⟨(), (Sl_cons rfl (Sl_cons rfl Sl_nil)), H.pick [0, 1, 2] (by decide)⟩
        · rintro _ ρ w1304 H
          have hF := hK1305
          obtain ⟨g1302, g1303⟩ := j1306
          refine WP_region ?_
          obtain ⟨x1415, e1416, hF⟩ := letO_some hF
          refine RL_do rfl rfl (Do_add (a := g1181) (b := 1) rfl rfl e1416) ?_
          refine RL_do rfl rfl (Do_move (v := .int .i64 x1415) rfl) ?_
          refine (RL_nil (thenQ_n (And.intro ?_ ?_)))
          · repeat' (first | with_reducible exact Fr_refl | refine Fr_upd rfl ?_ | refine Fr_over rfl rfl ?_)
          · exact ⟨(n1187, g1302, g1303, x1415), (Sl_cons rfl (Sl_cons rfl (Sl_cons rfl Sl_nil))), ⟨H.pick [0, 1, 2] (by decide), hF⟩, Nat.lt_succ_self _⟩
      · have hF := iteB_f c1193 hF
        have hR := Option.some.inj hF
        subst hR
        refine (WP_exit (thenQ_x (thenQ_x (blockQ_eq (thenQ_n (And.intro ?_ ?_))))))
        · repeat' (first | with_reducible exact Fr_refl | refine Fr_upd rfl ?_ | refine Fr_over rfl rfl ?_)
        · exact ⟨(), (Sl_cons rfl (Sl_cons rfl Sl_nil)), H.pick [] (by decide)⟩
    · rintro _ ρ w721 H
      have hF := hK722
      obtain ⟨g719, g720⟩ := j723
      refine WP_seq_k fun K1417 hK1417 => ?_
      refine WP_region ?_
      refine RL_do rfl rfl (Do_move (v := .int .i64 g719) rfl) ?_
      refine RL_do rfl rfl (Do_move (v := .bool g720) rfl) ?_
      refine RL_do rfl rfl (Do_assign (v := .int .i64 g719) rfl) ?_
      refine RL_do rfl rfl (Do_assign (v := .bool g720) rfl) ?_
      refine (RL_nil (thenQ_n (hK1417 _ _ ?_)))
      have hR := Option.some.inj hF
      subst hR
      refine (WP_ret (post2 (v1 := .int .i64 g719) (v2 := .bool g720) rfl rfl rfl ?_))
      exact ⟨rfl, H.pick [] (by decide)⟩
end Go.Proofs.Ytbjhondbheijiaa
namespace Go.Proofs.Ytbjhondbheijiaa
open Go.RowKit Go.OB Go.Lf
/- orangebox/fleet.Peak -/
set_option maxHeartbeats 4000000 in
theorem F_fleet_Peak_w (p0 : Flight) (p1 : Str) (v1 : Value) (r : Int × Bool × Int) (hF : F_fleet_Peak p0 p1 = some r) (O S : List Nat) (w : World) (H : Hd O w w S [.fz (.sl rTrack v1 p0.Tracks)]) :
    Calls Try.prog 4 ([.agg [.string (bs p0.Tail), .string (bs p0.Route), .int .i64 p0.Day, .int .i64 p0.From, .int .i64 p0.To, v1].toArray, .string (bs p1)] : List Value).toArray w fun e w' => e = .returned (.tuple #[.int .i64 r.1, .bool r.2.1, .int .i64 r.2.2]) ∧ Hd O w w' S [] := by
  unfold F_fleet_Peak at hF
  refine calls_of_WP 26 Try.func4 rfl rfl rfl ?_
  refine WP_seq_k fun K3 hK3 => ?_
  refine WP_region ?_
  refine RL_ex rfl rfl (Lx_box (cs := [.string (bs p0.Tail), .string (bs p0.Route), .int .i64 p0.Day, .int .i64 p0.From, .int .i64 p0.To, v1]) rfl H) ?_
  rintro _ w6 ⟨b4, rfl, H⟩
  refine RL_do rfl rfl (Do_assign (v := .int .i64 0) rfl) ?_
  refine RL_do rfl rfl (Do_assign (v := .bool false) rfl) ?_
  refine RL_do rfl rfl (Do_assign (v := .int .i64 0) rfl) ?_
  refine (RL_nil (thenQ_n (hK3 _ _ ?_)))
  refine WP_seq_k fun K17 hK17 => ?_
  refine WP_seq_k fun K18 hK18 => ?_
  refine WP_region ?_
  refine RL_do rfl rfl (Do_as (Do_loads (cs := [.string (bs p0.Tail), .string (bs p0.Route), .int .i64 p0.Day, .int .i64 p0.From, .int .i64 p0.To, v1]) agg24 rfl sz24 rfl (Blk.cells (H.item (i := 1) rfl))) rfl) ?_
  obtain ⟨x19, e20, hF⟩ := bindO_some hF
  refine RL_call rfl rfl (DoC_func en8 rfl) (F_fleet_CheckFlight_w p0 v1 _ e20 _ _ _ (H.enter [] [0] (by decide) rfl)) ?_
  rintro _ w21 ⟨rfl, G22⟩
  have H := H.back0 [0] rfl G22
  refine ⟨_, rfl, ?_⟩
  refine RL_do rfl rfl (Do_assign (v := .int .i64 x19) rfl) ?_
  refine (RL_nil (thenQ_n (hK18 _ _ ?_)))
  refine WP_seq_k fun K23 hK23 => ?_
  refine WP_region ?_
  refine RL_do rfl rfl (Do_move (v := .int .i64 x19) rfl) ?_
  obtain ⟨x24, e25, hF⟩ := letO_some hF
  refine RL_do rfl rfl (Do_as (Do_neq (a := x19) (b := 0) rfl rfl) (congrArg Value.bool e25)) ?_
  refine (RL_nil (thenQ_n (hK23 _ _ ?_)))
  refine WP_ifb (b := x24) rfl (fun c26 => ?_) (fun c26 => ?_)
  · have hF := iteB_t c26 hF
    refine WP_seq_k fun K27 hK27 => ?_
    refine WP_region ?_
    refine RL_do rfl rfl (Do_move (v := .int .i64 x19) rfl) ?_
    refine RL_do rfl rfl (Do_assign (v := .int .i64 0) rfl) ?_
    refine RL_do rfl rfl (Do_assign (v := .bool false) rfl) ?_
    refine RL_do rfl rfl (Do_assign (v := .int .i64 x19) rfl) ?_
    refine (RL_nil (thenQ_n (hK27 _ _ ?_)))
    have hR := Option.some.inj hF
    subst hR
    refine (WP_ret (thenQ_r (post3 (v1 := .int .i64 0) (v2 := .bool false) (v3 := .int .i64 x19) rfl rfl rfl rfl ?_)))
    exact ⟨rfl, H.pick [] (by decide)⟩
  · have hF := iteB_f c26 hF
    refine (WP_skip (thenQ_n (hK17 _ _ ?_)))
    refine WP_seq_k fun K37 hK37 => ?_
    refine WP_seq_k fun K38 hK38 => ?_
    refine WP_region ?_
    refine RL_do rfl rfl (Do_move (v := .string (bs p1)) rfl) ?_
    obtain ⟨x39, e40, hF⟩ := bindO_some hF
    refine RL_call rfl rfl (DoC_func en9 rfl) (F_event_IsName_w p1 _ e40 _ _ _ (H.enter [] [] (by decide) rfl)) ?_
    rintro _ w41 ⟨rfl, G42⟩
    have H := H.back0 [] rfl G42
    refine ⟨_, rfl, ?_⟩
    obtain ⟨x43, e44, hF⟩ := letO_some hF
    refine RL_do rfl rfl (Do_as (Do_not (p := x39) rfl) (congrArg Value.bool e44)) ?_
    refine (RL_nil (thenQ_n (hK38 _ _ ?_)))
    refine WP_ifb (b := x43) rfl (fun c45 => ?_) (fun c45 => ?_)
    · have hF := iteB_t c45 hF
      refine WP_seq_k fun K46 hK46 => ?_
      refine WP_region ?_
      refine RL_do rfl rfl (Do_assign (v := .int .i64 0) rfl) ?_
      refine RL_do rfl rfl (Do_assign (v := .bool false) rfl) ?_
      refine RL_do rfl rfl (Do_assign (v := .int .i64 8) rfl) ?_
      refine (RL_nil (thenQ_n (hK46 _ _ ?_)))
      have hR := Option.some.inj hF
      subst hR
      refine (WP_ret (thenQ_r (post3 (v1 := .int .i64 0) (v2 := .bool false) (v3 := .int .i64 8) rfl rfl rfl rfl ?_)))
      exact ⟨rfl, H.pick [] (by decide)⟩
    · have hF := iteB_f c45 hF
      refine (WP_skip (thenQ_n (hK37 _ _ ?_)))
      refine WP_seq_k fun K47 hK47 => ?_
      refine WP_region ?_
      refine RL_do rfl rfl (Do_as (Do_loads (cs := [.string (bs p0.Tail), .string (bs p0.Route), .int .i64 p0.Day, .int .i64 p0.From, .int .i64 p0.To, v1]) agg24 rfl sz24 rfl (Blk.cells (H.item (i := 1) rfl))) rfl) ?_
      refine RL_do rfl rfl (Do_move (v := .string (bs p1)) rfl) ?_
      obtain ⟨⟨x48, x49⟩, e50, hF⟩ := bindO_some hF
      refine RL_call rfl rfl (DoC_func en10 rfl) (F_fleet_peak_w p0 p1 v1 _ e50 _ _ _ (H.enter [] [0] (by decide) rfl)) ?_
      rintro _ w51 ⟨rfl, G52⟩
      have H := H.back0 [0] rfl G52
      refine ⟨_, rfl, ?_⟩
      refine RL_do rfl rfl (Do_move (v := .tuple #[.int .i64 x48, .bool x49]) rfl) ?_
      refine RL_do rfl rfl (Do_extract (v := .int .i64 x48) rfl rfl) ?_
      refine RL_do rfl rfl (Do_extract (v := .bool x49) rfl rfl) ?_
      refine RL_do rfl rfl (Do_assign (v := .int .i64 x48) rfl) ?_
      refine RL_do rfl rfl (Do_assign (v := .bool x49) rfl) ?_
      refine (RL_nil (thenQ_n (hK47 _ _ ?_)))
      refine WP_seq_k fun K53 hK53 => ?_
      refine WP_region ?_
      refine RL_do rfl rfl (Do_move (v := .int .i64 x48) rfl) ?_
      refine RL_do rfl rfl (Do_move (v := .bool x49) rfl) ?_
      refine RL_do rfl rfl (Do_assign (v := .int .i64 x48) rfl) ?_
      refine RL_do rfl rfl (Do_assign (v := .bool x49) rfl) ?_
      refine RL_do rfl rfl (Do_assign (v := .int .i64 0) rfl) ?_
      refine (RL_nil (thenQ_n (hK53 _ _ ?_)))
      have hR := Option.some.inj hF
      subst hR
      refine (WP_ret (post3 (v1 := .int .i64 x48) (v2 := .bool x49) (v3 := .int .i64 0) rfl rfl rfl rfl ?_))
      exact ⟨rfl, H.pick [] (by decide)⟩
end Go.Proofs.Ytbjhondbheijiaa
