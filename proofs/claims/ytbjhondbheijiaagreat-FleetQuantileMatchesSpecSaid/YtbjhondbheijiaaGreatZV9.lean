/- Walks: what each function computes, for every argument; no condition but those that stand in the statements. -/
import Derived.Test.YtbjhondbheijiaaGreatZV0
import Derived.Test.YtbjhondbheijiaaGreatZV8
import Derived.Test.YtbjhondbheijiaaGreatZV3
import Derived.Test.YtbjhondbheijiaaGreatZV7
namespace Go.Proofs.YtbjhondbheijiaaGreat.L
open Go.RowKit Go.OB Go.Lf
/- orangebox/fleet.Total -/
set_option maxHeartbeats 4000000 in
theorem F_fleet_Total_w (p0 : List FleetRow) (v1 : Value) (r : FleetRow × Int) (hF : F_fleet_Total p0 = some r) (O S : List Nat) (w : World) (H : Hd O w w S [.fz (.sl rFleetRow v1 p0)]) :
    Calls Tryz.prog 21 ([v1] : List Value).toArray w fun e w' => ∃ u3, e = .returned (.tuple #[.agg [.string (bs r.1.Key), .bool r.1.Hidden, .int .i64 r.1.Flights, u3].toArray, .int .i64 r.2]) ∧ Hd O w w' S [.fz (.sl (Rp.int .i64) u3 r.1.Events)] := by
  unfold F_fleet_Total at hF
  refine calls_of_WP 57 Tryz.func21 rfl rfl rfl ?_
  refine WP_seq_k fun K4 hK4 => ?_
  refine WP_region ?_
  refine RL_ex rfl rfl (Lx_alloc zero57 H) ?_
  rintro _ w7 ⟨b5, rfl, H⟩
  refine RL_do rfl rfl (Do_assign (v := .int .i64 0) rfl) ?_
  refine (RL_nil (thenQ_n (hK4 _ _ ?_)))
  refine WP_seq_k fun K20 hK20 => ?_
  refine WP_seq_k fun K21 hK21 => ?_
  refine WP_region ?_
  refine RL_do rfl rfl (Do_move (v := v1) rfl) ?_
  have H22 := H
  obtain ⟨x23, e24, hF⟩ := bindO_some hF
  refine RL_call rfl rfl (DoC_func en41 rfl) (F_fleet_CheckTable_w p0 v1 _ e24 _ _ _ (H.enter [] [0] (by decide) rfl)) ?_
  rintro _ w25 ⟨rfl, G26⟩
  have H := H22.step (G26.only : Only [] _ _)
  refine ⟨_, rfl, ?_⟩
  refine RL_do rfl rfl (Do_assign (v := .int .i64 x23) rfl) ?_
  refine (RL_nil (thenQ_n (hK21 _ _ ?_)))
  refine WP_seq_k fun K27 hK27 => ?_
  refine WP_region ?_
  refine RL_do rfl rfl (Do_move (v := .int .i64 x23) rfl) ?_
  obtain ⟨x28, e29, hF⟩ := letO_some hF
  refine RL_do rfl rfl (Do_as (Do_neq (a := x23) (b := 0) rfl rfl) (congrArg Value.bool e29)) ?_
  refine (RL_nil (thenQ_n (hK27 _ _ ?_)))
  refine WP_ifb (b := x28) rfl (fun c30 => ?_) (fun c30 => ?_)
  · have hF := iteB_t c30 hF
    refine WP_seq_k fun K31 hK31 => ?_
    refine WP_region ?_
    refine RL_do rfl rfl (Do_build (cs := [.string (bs []), .bool false, .int .i64 0, .slice none 0 0]) bz57) ?_
    refine RL_do rfl rfl (Do_move (v := .int .i64 x23) rfl) ?_
    refine RL_exU rfl (Lx_storeN (vs := [.string (bs []), .bool false, .int .i64 0, .slice none 0 0]) H 1 rfl sz57 rfl rfl rfl ⟨rfl, rfl, rfl, rfl, trivial⟩ rfl) ?_
    rintro w32 H
    refine RL_do rfl rfl (Do_assign (v := .int .i64 x23) rfl) ?_
    refine (RL_nil (thenQ_n (hK31 _ _ ?_)))
    have H := H.fz (.sl (Rp.int .i64) (.slice none 0 0) []) SlF.nil
    have hR := Option.some.inj hF
    subst hR
    refine (WP_ret (thenQ_r (postc1 (v1 := .int .i64 x23) rfl rfl (run_loadVar_agg agg57 sz57 rfl (Blk.cells (H.item (i := 1) rfl))) rfl ?_)))
    exact ⟨.slice none 0 0, rfl, H.pick [2] (by decide)⟩
  · have hF := iteB_f c30 hF
    refine (WP_skip (thenQ_n (hK20 _ _ ?_)))
    refine WP_seq_k fun K34 hK34 => ?_
    refine WP_region ?_
    refine RL_ex rfl rfl (Lx_alloc zero57 H) ?_
    rintro _ w37 ⟨b35, rfl, H⟩
    refine (RL_nil (thenQ_n (hK34 _ _ ?_)))
    obtain ⟨j598, hF, hK597⟩ := bindO_some hF
    refine WP_seqS [7, 8, 9, 16, 17, 18, 19, 20, 21, 22, 23, 24, 25, 26, 27, 28, 29, 30, 31, 32, 33, 34, 35, 36, 37, 38, 39, 40, 41, 42, 43, 44, 45, 46, 47, 48, 49, 50, 51, 52, 53, 54, 55] (fun (g : Value) => []) (fun g wl => Hd O w wl S [.blk b5 [.string (bs []), .bool false, .int .i64 0, .slice none 0 0] 57, .blk b35 [.string (bs []), .bool false, .int .i64 j598.1, g] 57, .own (Rp.int .i64) g 3 j598.2.1, .fz (.nl g j598.2.2)]) ?_ ?_
    · skip
      refine WP_seq_k fun K599 hK599 => ?_
      refine WP_region ?_
      refine RL_do rfl rfl (Do_move (v := v1) rfl) ?_
      obtain ⟨x600, e601, hF⟩ := letO_some hF
      obtain ⟨a602, c603, q604⟩ := SlF.len ((H.item (i := 0) rfl))
      refine RL_do rfl rfl (Do_as (Do_len u60 q604) (congrArg (Value.int .i64) e601)) ?_
      refine RL_do rfl rfl (Do_move (v := .int .i64 0) rfl) ?_
      refine (RL_nil (thenQ_n (hK599 _ _ ?_)))
      refine WP_block ?_
      have H := own_nil H (Rp.int .i64) 3
      have H := H.fz (.nl (.slice none 0 0) true) rfl
      unfold F_fleet_Total_L1 at hF
      obtain ⟨B1152, n1153, eB1154, hF⟩ := loopO_some hF
      refine WP_loopS [7, 8, 9, 18, 19, 20, 21, 22, 23, 24, 25, 26, 27, 28, 29, 30, 31, 32, 33, 34, 35, 36, 37, 38, 39, 40, 41, 42, 43, 44, 45, 46, 47, 48, 49, 50, 51, 52, 53, 54, 55] (fun (g : Nat × Int × Int × (List Int) × Bool × Value) => [(18, .int .i64 g.2.1)]) (fun g wl => Hd O w wl S [.fz (.sl rFleetRow v1 p0), .blk b5 [.string (bs []), .bool false, .int .i64 0, .slice none 0 0] 57, .blk b35 [.string (bs []), .bool false, .int .i64 g.2.2.1, g.2.2.2.2.2] 57, .own (Rp.int .i64) g.2.2.2.2.2 3 g.2.2.2.1, .fz (.nl g.2.2.2.2.2 g.2.2.2.2.1)] ∧ loopN B1152 g.1 (g.2.1, g.2.2.1, g.2.2.2.1, g.2.2.2.2.1) = some j598) (fun g => g.1) (n1153, 0, 0, [], true, .slice none 0 0) (Sl_cons rfl Sl_nil) ⟨H.pick [0, 1, 2, 3, 4] (by decide), hF⟩ ?_
      clear H hF
      rintro ⟨n1153, g1143, g1144, g1146, g1148, v1147⟩ ρ w1156 ⟨H, hF⟩
      obtain ⟨n1157, rfl, hF⟩ := loopN_pos hF
      have hF := loop_body eB1154 hF
      refine WP_seq_k fun K1158 hK1158 => ?_
      refine WP_region ?_
      obtain ⟨x1159, e1160, hF⟩ := letO_some hF
      refine RL_do rfl rfl (Do_as (Do_lss (a := g1143) (b := x600) rfl rfl) (congrArg Value.bool e1160)) ?_
      refine (RL_nil (thenQ_n (hK1158 _ _ ?_)))
      refine WP_seq_k fun K1162 hK1162 => ?_
      refine WP_ifb (b := x1159) rfl (fun c1163 => ?_) (fun c1163 => ?_)
      · have hF := iteB_t c1163 hF
        refine (WP_skip (thenQ_n (hK1162 _ _ ?_)))
        obtain ⟨j1419, hF, hK1418⟩ := bindO_some hF
        refine WP_seqS [7, 8, 9, 20, 21, 22, 23, 24, 25, 26, 27, 28, 29, 30, 31, 32, 33, 34, 35, 36, 37, 38, 39, 40, 41, 42, 43, 44, 45, 46, 47, 48, 49, 50, 51, 52, 53, 54] (fun (g : Value) => []) (fun g wl => Hd O w wl S [.fz (.sl rFleetRow v1 p0), .blk b5 [.string (bs []), .bool false, .int .i64 0, .slice none 0 0] 57, .blk b35 [.string (bs []), .bool false, .int .i64 j1419.1, g] 57, .own (Rp.int .i64) g 3 j1419.2.1, .fz (.nl g j1419.2.2)]) ?_ ?_
        · skip
          refine WP_block ?_
          refine WP_seq_k fun K1420 hK1420 => ?_
          refine WP_region ?_
          obtain ⟨x1421, e1422, hF⟩ := bindO_some hF
          obtain ⟨b1423, o1424, c1425, cs1426, q1427, h1430, h1428, h1429, h1431⟩ := rd_at (H.item (i := 0) rfl) e1422
          obtain ⟨v1432, rfl, h1433⟩ := rFleetRow_open h1430
          have H := H.fzs [.at b1423 (o1424 + g1143.toNat * 4) _, .sl (Rp.int .i64) v1432 x1421.Events] ⟨⟨h1428, h1429, h1431⟩, h1433, trivial⟩
          refine RL_do rfl rfl (Do_idx u60 sz57 q1427 rfl (at_some e1422).1 (at_some e1422).2.1 rfl rfl) ?_
          refine RL_do rfl rfl (Do_as (Do_loads (cs := [.string (bs x1421.Key), .bool x1421.Hidden, .int .i64 x1421.Flights, v1432]) agg57 rfl sz57 rfl (H.item (i := 5) rfl).2.2) rfl) ?_
          refine RL_ex rfl rfl (Lx_alloc zero57 H) ?_
          rintro _ w1438 ⟨b1436, rfl, H⟩
          refine RL_exU rfl (Lx_storeN (vs := [.string (bs x1421.Key), .bool x1421.Hidden, .int .i64 x1421.Flights, v1432]) H 7 rfl sz57 rfl rfl rfl ⟨rfl, rfl, rfl, (slf_one (H.item (i := 6) rfl)), trivial⟩ rfl) ?_
          rintro w1439 H
          refine (RL_nil (thenQ_n (hK1420 _ _ ?_)))
          refine WP_seq_k fun K1442 hK1442 => ?_
          refine WP_seq_k fun K1443 hK1443 => ?_
          refine WP_region ?_
          refine RL_do rfl rfl (fa57_1 rfl) ?_
          refine RL_do rfl rfl (Do_load one4 rfl (Cells.get (Blk.cells (H.item (i := 7) rfl)) (i := 1) rfl)) ?_
          refine (RL_nil (thenQ_n (hK1443 _ _ ?_)))
          refine WP_ifb (b := x1421.Hidden) rfl (fun c1444 => ?_) (fun c1444 => ?_)
          · have hF := iteB_t c1444 hF
            have hR := Option.some.inj hF
            subst hR
            refine (WP_exit (thenQ_x (blockQ_eq (thenQ_n (And.intro ?_ ?_)))))
            · repeat' (first | with_reducible exact Fr_refl | refine Fr_upd rfl ?_ | refine Fr_over rfl rfl ?_)
            · exact ⟨v1147, Sl_nil, H.pick [0, 1, 2, 3, 4] (by decide)⟩
          · have hF := iteB_f c1444 hF
            refine (WP_skip (thenQ_n (hK1442 _ _ ?_)))
            obtain ⟨j1470, hF, hK1469⟩ := bindO_some hF
            refine WP_seqS [24, 25, 26, 27, 28, 29, 30, 31] (fun (g : Value) => []) (fun g wl => Hd O w wl S [.fz (.sl rFleetRow v1 p0), .blk b5 [.string (bs []), .bool false, .int .i64 0, .slice none 0 0] 57, .blk b35 [.string (bs []), .bool false, .int .i64 g1144, g] 57, .own (Rp.int .i64) g 3 j1470.1, .fz (.nl g j1470.2), .blk b1436 [.string (bs x1421.Key), .bool x1421.Hidden, .int .i64 x1421.Flights, v1432] 57, .fz (.sl (Rp.int .i64) v1432 x1421.Events)]) ?_ ?_
            · skip
              refine WP_seq_k fun K1471 hK1471 => ?_
              refine WP_region ?_
              refine RL_do rfl rfl (fa57_3 rfl) ?_
              refine RL_do rfl rfl (Do_load one42 rfl (Cells.get (Blk.cells (H.item (i := 2) rfl)) (i := 3) rfl)) ?_
              refine RL_do rfl rfl (Do_eqlnl u42 (own_sl (H.item (i := 3) rfl)) rfl rfl (H.item (i := 4) rfl)) ?_
              refine (RL_nil (thenQ_n (hK1471 _ _ ?_)))
              refine WP_ifb (b := g1148) rfl (fun c1475 => ?_) (fun c1475 => ?_)
              · have hF := iteB_t c1475 hF
                refine WP_region ?_
                refine RL_do rfl rfl (fa57_3 rfl) ?_
                refine RL_do rfl rfl (Do_load one42 rfl (Cells.get (Blk.cells (H.item (i := 7) rfl)) (i := 3) rfl)) ?_
                obtain ⟨x1476, e1477, hF⟩ := letO_some hF
                obtain ⟨a1478, c1479, q1480⟩ := SlF.len ((H.item (i := 6) rfl))
                refine RL_do rfl rfl (Do_as (Do_len u42 q1480) (congrArg (Value.int .i64) e1477)) ?_
                obtain ⟨x1481, e1482, hF⟩ := bindO_some hF
                refine RL_ex rfl rfl (Lx_makeN (r := (Rp.int .i64)) (zv := .int .i64 0) u42 el3 rfl (fun _ _ => rfl) rfl rfl e1482 H) ?_
                rintro v1484 w1486 ⟨H, h1485⟩
                have H := H.fz (.nl v1484 false) h1485
                refine RL_do rfl rfl (fa57_3 rfl) ?_
                refine RL_exU rfl (Lx_store1 H 2 rfl sz42 rfl (v := v1484) rfl (own_one (H.item (i := 8) rfl)) rfl) ?_
                rintro w1488 H
                have hR := Option.some.inj hF
                subst hR
                refine (RL_nil (thenQ_n (And.intro ?_ ?_)))
                · repeat' (first | with_reducible exact Fr_refl | refine Fr_upd rfl ?_ | refine Fr_over rfl rfl ?_)
                · exact ⟨v1484, Sl_nil, H.pick [0, 1, 2, 8, 9, 7, 6] (by decide)⟩
              · have hF := iteB_f c1475 hF
                have hR := Option.some.inj hF
                subst hR
                refine (WP_skip (thenQ_n (And.intro ?_ ?_)))
                · repeat' (first | with_reducible exact Fr_refl | refine Fr_upd rfl ?_ | refine Fr_over rfl rfl ?_)
                · exact ⟨v1147, Sl_nil, H.pick [0, 1, 2, 3, 4, 7, 6] (by decide)⟩
            · rintro v1465 ρ w1468 H
              have hF := hK1469
              obtain ⟨g1464, g1466⟩ := j1470
              refine WP_seq_k fun K1489 hK1489 => ?_
              refine WP_region ?_
              refine RL_do rfl rfl (fa57_2 rfl) ?_
              refine RL_do rfl rfl (Do_load one3 rfl (Cells.get (Blk.cells (H.item (i := 2) rfl)) (i := 2) rfl)) ?_
              refine RL_do rfl rfl (fa57_2 rfl) ?_
              refine RL_do rfl rfl (Do_load one3 rfl (Cells.get (Blk.cells (H.item (i := 5) rfl)) (i := 2) rfl)) ?_
              obtain ⟨x1490, e1491, hF⟩ := letO_some hF
              refine RL_do rfl rfl (Do_add (a := g1144) (b := x1421.Flights) rfl rfl e1491) ?_
              refine RL_do rfl rfl (fa57_2 rfl) ?_
              refine RL_exU rfl (Lx_store1 H 2 rfl sz3 rfl (v := .int .i64 x1490) rfl rfl rfl) ?_
              rintro w1492 H
              refine (RL_nil (thenQ_n (hK1489 _ _ ?_)))
              refine WP_seq_k fun K1493 hK1493 => ?_
              refine WP_region ?_
              refine RL_do rfl rfl (fa57_3 rfl) ?_
              refine RL_do rfl rfl (Do_load one42 rfl (Cells.get (Blk.cells (H.item (i := 5) rfl)) (i := 3) rfl)) ?_
              obtain ⟨x1494, e1495, hF⟩ := letO_some hF
              obtain ⟨a1496, c1497, q1498⟩ := SlF.len ((H.item (i := 6) rfl))
              refine RL_do rfl rfl (Do_as (Do_len u42 q1498) (congrArg (Value.int .i64) e1495)) ?_
              refine RL_do rfl rfl (Do_move (v := .int .i64 0) rfl) ?_
              refine (RL_nil (thenQ_n (hK1493 _ _ ?_)))
              refine WP_block ?_
              unfold F_fleet_Total_L2 at hF
              obtain ⟨B1681, n1682, eB1683, hF⟩ := loopO_some hF
              refine WP_loopS [8, 9, 41, 42, 43, 44, 45, 46, 47, 48, 49, 50, 51, 52, 53, 54] (fun (g : Nat × Int × (List Int)) => [(41, .int .i64 g.2.1)]) (fun g wl => Hd O w wl S [.fz (.sl rFleetRow v1 p0), .blk b5 [.string (bs []), .bool false, .int .i64 0, .slice none 0 0] 57, .blk b35 [.string (bs []), .bool false, .int .i64 x1490, v1465] 57, .own (Rp.int .i64) v1465 3 g.2.2, .fz (.nl v1465 g1466), .fz (.sl (Rp.int .i64) v1432 x1421.Events)] ∧ loopN B1681 g.1 (g.2.1, g.2.2) = some j1419) (fun g => g.1) (n1682, 0, g1464) (Sl_cons rfl Sl_nil) ⟨H.pick [0, 1, 2, 3, 4, 6] (by decide), hF⟩ ?_
              clear H hF
              rintro ⟨n1682, g1679, g1680⟩ ρ w1685 ⟨H, hF⟩
              obtain ⟨n1686, rfl, hF⟩ := loopN_pos hF
              have hF := loop_body eB1683 hF
              refine WP_seq_k fun K1687 hK1687 => ?_
              refine WP_region ?_
              obtain ⟨x1688, e1689, hF⟩ := letO_some hF
              refine RL_do rfl rfl (Do_as (Do_lss (a := g1679) (b := x1494) rfl rfl) (congrArg Value.bool e1689)) ?_
              refine (RL_nil (thenQ_n (hK1687 _ _ ?_)))
              refine WP_seq_k fun K1691 hK1691 => ?_
              refine WP_ifb (b := x1688) rfl (fun c1692 => ?_) (fun c1692 => ?_)
              · have hF := iteB_t c1692 hF
                refine (WP_skip (thenQ_n (hK1691 _ _ ?_)))
                refine WP_seq_k fun K1733 hK1733 => ?_
                refine WP_block ?_
                refine WP_seq_k fun K1734 hK1734 => ?_
                refine WP_region ?_
                refine RL_do rfl rfl (Do_move (v := .int .i64 g1679) rfl) ?_
                obtain ⟨x1735, e1736, hF⟩ := bindO_some hF
                obtain ⟨b1737, o1738, c1739, cs1740, q1741, h1744, h1742, h1743, h1745⟩ := rd_at (H.item (i := 5) rfl) e1736
                obtain rfl : cs1740 = [.int .i64 x1735] := h1744
                have H := H.fz (.at b1737 (o1738 + g1679.toNat * 1) _) ⟨h1742, h1743, h1745⟩
                refine RL_do rfl rfl (Do_idx u42 sz3 q1741 rfl (at_some e1736).1 (at_some e1736).2.1 rfl rfl) ?_
                refine RL_do rfl rfl (Do_load one3 rfl (Cells.get (H.item (i := 6) rfl).2.2 (i := 0) rfl)) ?_
                refine RL_do rfl rfl (Do_assign (v := .int .i64 g1679) rfl) ?_
                refine RL_do rfl rfl (Do_assign (v := .int .i64 x1735) rfl) ?_
                refine (RL_nil (thenQ_n (hK1734 _ _ ?_)))
                refine WP_region ?_
                refine RL_do rfl rfl (fa57_3 rfl) ?_
                refine RL_do rfl rfl (Do_load one42 rfl (Cells.get (Blk.cells (H.item (i := 2) rfl)) (i := 3) rfl)) ?_
                refine RL_do rfl rfl (Do_move (v := .int .i64 g1679) rfl) ?_
                obtain ⟨x1747, e1748, hF⟩ := bindO_some hF
                obtain ⟨b1749, c1751, cs1752, q1753, h1756, h1757⟩ := own_at (H.item (i := 3) rfl) e1748
                obtain rfl : cs1752 = [.int .i64 x1747] := h1756
                refine RL_do rfl rfl (Do_idx u42 sz3 q1753 rfl (at_some e1748).1 (at_some e1748).2.1 rfl rfl) ?_
                refine RL_do rfl rfl (Do_load one3 rfl (Cells.get h1757 (i := 0) rfl)) ?_
                refine RL_do rfl rfl (Do_move (v := .int .i64 x1735) rfl) ?_
                obtain ⟨x1758, e1759, hF⟩ := letO_some hF
                refine RL_do rfl rfl (Do_add (a := x1747) (b := x1735) rfl rfl e1759) ?_
                obtain ⟨x1760, e1761, hF⟩ := bindO_some hF
                obtain ⟨b1762, c1764, cs1765, q1766, h1769, h1770⟩ := own_at (H.item (i := 3) rfl) e1761
                obtain rfl : cs1765 = [.int .i64 x1760] := h1769
                refine RL_do rfl rfl (Do_idx u42 sz3 q1766 rfl (at_some e1761).1 (at_some e1761).2.1 rfl rfl) ?_
                obtain ⟨x1771, e1772, hF⟩ := bindO_some hF
                refine RL_exU rfl (Lx_own_store (vs := [.int .i64 x1758]) (off := 0) H 3 rfl q1766 h1770 rfl sz3 rfl rfl rfl (allone_mem ⟨rfl, trivial⟩) e1772 (by decide) rfl rfl) ?_
                rintro w1773 H
                refine (RL_nil (blockQ_n (thenQ_n (hK1733 _ _ ?_))))
                refine WP_region ?_
                obtain ⟨x1774, e1775, hF⟩ := letO_some hF
                refine RL_do rfl rfl (Do_add (a := g1679) (b := 1) rfl rfl e1775) ?_
                refine RL_do rfl rfl (Do_move (v := .int .i64 x1774) rfl) ?_
                refine (RL_nil (thenQ_n (And.intro ?_ ?_)))
                · repeat' (first | with_reducible exact Fr_refl | refine Fr_upd rfl ?_ | refine Fr_over rfl rfl ?_)
                · exact ⟨(n1686, x1774, x1771), (Sl_cons rfl Sl_nil), ⟨H.pick [0, 1, 2, 3, 4, 5] (by decide), hF⟩, Nat.lt_succ_self _⟩
              · have hF := iteB_f c1692 hF
                have hR := Option.some.inj hF
                subst hR
                refine (WP_exit (thenQ_x (thenQ_x (blockQ_eq (blockQ_n (thenQ_n (And.intro ?_ ?_)))))))
                · repeat' (first | with_reducible exact Fr_refl | refine Fr_upd rfl ?_ | refine Fr_over rfl rfl ?_)
                · exact ⟨v1465, Sl_nil, H.pick [0, 1, 2, 3, 4] (by decide)⟩
        · rintro v1414 ρ w1417 H
          have hF := hK1418
          obtain ⟨g1411, g1413, g1415⟩ := j1419
          refine WP_region ?_
          obtain ⟨x1776, e1777, hF⟩ := letO_some hF
          refine RL_do rfl rfl (Do_add (a := g1143) (b := 1) rfl rfl e1777) ?_
          refine RL_do rfl rfl (Do_move (v := .int .i64 x1776) rfl) ?_
          refine (RL_nil (thenQ_n (And.intro ?_ ?_)))
          · repeat' (first | with_reducible exact Fr_refl | refine Fr_upd rfl ?_ | refine Fr_over rfl rfl ?_)
          · exact ⟨(n1157, x1776, g1411, g1413, g1415, v1414), (Sl_cons rfl Sl_nil), ⟨H.pick [0, 1, 2, 3, 4] (by decide), hF⟩, Nat.lt_succ_self _⟩
      · have hF := iteB_f c1163 hF
        have hR := Option.some.inj hF
        subst hR
        refine (WP_exit (thenQ_x (thenQ_x (blockQ_eq (thenQ_n (And.intro ?_ ?_))))))
        · repeat' (first | with_reducible exact Fr_refl | refine Fr_upd rfl ?_ | refine Fr_over rfl rfl ?_)
        · exact ⟨v1147, Sl_nil, H.pick [1, 2, 3, 4] (by decide)⟩
    · rintro v593 ρ w596 H
      have hF := hK597
      obtain ⟨g590, g592, g594⟩ := j598
      refine WP_seq_k fun K1778 hK1778 => ?_
      refine WP_region ?_
      refine RL_do rfl rfl (Do_as (Do_loads (cs := [.string (bs []), .bool false, .int .i64 g590, v593]) agg57 rfl sz57 rfl (Blk.cells (H.item (i := 1) rfl))) rfl) ?_
      refine RL_exU rfl (Lx_storeN (vs := [.string (bs []), .bool false, .int .i64 g590, v593]) H 0 rfl sz57 rfl rfl rfl ⟨rfl, rfl, rfl, (own_one (H.item (i := 2) rfl)), trivial⟩ rfl) ?_
      rintro w1779 H
      refine RL_do rfl rfl (Do_assign (v := .int .i64 0) rfl) ?_
      refine (RL_nil (thenQ_n (hK1778 _ _ ?_)))
      have H := H.freeze (i := 2) rfl
      have hR := Option.some.inj hF
      subst hR
      refine (WP_ret (postc1 (v1 := .int .i64 0) rfl rfl (run_loadVar_agg agg57 sz57 rfl (Blk.cells (H.item (i := 0) rfl))) rfl ?_))
      exact ⟨v593, rfl, H.pick [2] (by decide)⟩
end Go.Proofs.YtbjhondbheijiaaGreat.L
namespace Go.Proofs.YtbjhondbheijiaaGreat.L
open Go.RowKit Go.OB Go.Lf
/- orangebox/orangeboxlaw9.totals -/
set_option maxHeartbeats 4000000 in
theorem F_law9_totals_w (r : Bool) (hF : F_law9_totals = some r) (O S : List Nat) (w : World) (H : Hd O w w S []) :
    Calls Tryz.prog 8 ([] : List Value).toArray w fun e w' => e = .returned (.bool r) ∧ Hd O w w' S [] := by
  unfold F_law9_totals at hF
  refine calls_of_WP 32 Tryz.func8 rfl rfl rfl ?_
  refine WP_seq_k fun K1 hK1 => ?_
  refine WP_region ?_
  refine RL_do rfl rfl (Do_assign (v := .bool false) rfl) ?_
  refine (RL_nil (thenQ_n (hK1 _ _ ?_)))
  refine WP_seq_k fun K2 hK2 => ?_
  refine WP_region ?_
  obtain ⟨x3, e4, hF⟩ := letO_some hF
  subst e4
  refine RL_ex rfl rfl (Lx_bs (r := (Rp.int .i64)) (xl := [1]) (cs := [.int .i64 1]) u42 el3 (by decide) (by decide) rfl (fillB_parts (vs := [.int .i64 1]) (by decide) rfl rfl ⟨rfl, trivial⟩ rfl) H ⟨[.int .i64 1], [], rfl, rfl, rfl⟩) ?_
  rintro v6 w7 H
  obtain ⟨a8, c9, q10⟩ := Sr.len (Sr.of_own (H.item (i := 0) rfl))
  refine RL_do rfl rfl (Do_build (cs := [.string (bs [97]), .bool false, .int .i64 2, v6]) (by rw [q10]; exact bt57_0_2_3 _ _ a8 _ c9)) ?_
  obtain ⟨x11, e12, hF⟩ := letO_some hF
  subst e12
  refine RL_ex rfl rfl (Lx_bs (r := (Rp.int .i64)) (xl := [4]) (cs := [.int .i64 4]) u42 el3 (by decide) (by decide) rfl (fillB_parts (vs := [.int .i64 4]) (by decide) rfl rfl ⟨rfl, trivial⟩ rfl) H ⟨[.int .i64 4], [], rfl, rfl, rfl⟩) ?_
  rintro v14 w15 H
  obtain ⟨a16, c17, q18⟩ := Sr.len (Sr.of_own (H.item (i := 1) rfl))
  refine RL_do rfl rfl (Do_build (cs := [.string (bs [98]), .bool false, .int .i64 3, v14]) (by rw [q18]; exact bt57_0_2_3 _ _ a16 _ c17)) ?_
  have H := H.freeze (i := 0) rfl
  have H := H.freeze (i := 1) rfl
  obtain ⟨x19, e20, hF⟩ := letO_some hF
  subst e20
  refine RL_ex rfl rfl (Lx_bs (r := rFleetRow) (xl := [FleetRow.mk [97] false 2 ([1] : List Int), FleetRow.mk [98] false 3 ([4] : List Int)]) (cs := [.string (bs [97]), .bool false, .int .i64 2, v6, .string (bs [98]), .bool false, .int .i64 3, v14]) u60 el57 (by decide) (by decide) rfl (fillB_parts (vs := [.agg [.string (bs [97]), .bool false, .int .i64 2, v6].toArray, .agg [.string (bs [98]), .bool false, .int .i64 3, v14].toArray]) (by decide) rfl rfl ⟨rfl, rfl, trivial⟩ rfl) H ⟨[.string (bs [97]), .bool false, .int .i64 2, v6], [.string (bs [98]), .bool false, .int .i64 3, v14], rfl, (rFleetRow_mk (x := FleetRow.mk [97] false 2 ([1] : List Int)) (H.item (i := 0) rfl)), ⟨[.string (bs [98]), .bool false, .int .i64 3, v14], [], rfl, (rFleetRow_mk (x := FleetRow.mk [98] false 3 ([4] : List Int)) (H.item (i := 1) rfl)), rfl⟩⟩) ?_
  rintro v22 w23 H
  have H := H.freeze (i := 2) rfl
  obtain ⟨⟨x24, x25⟩, e26, hF⟩ := bindO_some hF
  refine RL_call rfl rfl (DoC_func en21 rfl) (F_fleet_Total_w ([FleetRow.mk [97] false 2 ([1] : List Int), FleetRow.mk [98] false 3 ([4] : List Int)] : List FleetRow) v22 _ e26 _ _ _ (H.enter [] [2] (by decide) rfl)) ?_
  rintro _ w29 ⟨v27, rfl, G30⟩
  have H := H.back1 [2] rfl G30
  refine ⟨_, rfl, ?_⟩
  refine RL_do rfl rfl (Do_move (v := .tuple #[.agg [.string (bs x24.Key), .bool x24.Hidden, .int .i64 x24.Flights, v27].toArray, .int .i64 x25]) rfl) ?_
  refine RL_do rfl rfl (Do_extract (v := .agg [.string (bs x24.Key), .bool x24.Hidden, .int .i64 x24.Flights, v27].toArray) rfl rfl) ?_
  refine RL_do rfl rfl (Do_extract (v := .int .i64 x25) rfl rfl) ?_
  refine RL_ex rfl rfl (Lx_alloc zero57 H) ?_
  rintro _ w33 ⟨b31, rfl, H⟩
  refine RL_exU rfl (Lx_storeN (vs := [.string (bs x24.Key), .bool x24.Hidden, .int .i64 x24.Flights, v27]) H 4 rfl sz57 rfl rfl rfl ⟨rfl, rfl, rfl, (slf_one (H.item (i := 3) rfl)), trivial⟩ rfl) ?_
  rintro w34 H
  refine RL_do rfl rfl (Do_assign (v := .int .i64 x25) rfl) ?_
  refine (RL_nil (thenQ_n (hK2 _ _ ?_)))
  obtain ⟨g63, hF, hK65⟩ := bindO_some hF
  refine WP_seqS [0, 12, 13, 14, 15, 16, 17, 18, 19, 20, 21, 22, 23, 24, 25, 26, 27, 28, 29, 30, 31] (fun (g : Unit) => [(0, .bool g63)]) (fun g wl => Hd O w wl S []) ?_ ?_
  · skip
    refine WP_region ?_
    refine RL_do rfl rfl (Do_move (v := .int .i64 x25) rfl) ?_
    obtain ⟨x66, e67, hF⟩ := letO_some hF
    refine RL_do rfl rfl (Do_as (Do_eql (a := x25) (b := 0) rfl rfl) (congrArg Value.bool e67)) ?_
    refine RL_splitb (b := x66) rfl rfl rfl (fun c68 => ?_) (fun c68 => ?_)
    · have hF := iteB_t c68 hF
      refine RL_do rfl rfl (fa57_2 rfl) ?_
      refine RL_do rfl rfl (Do_load one3 rfl (Cells.get (Blk.cells (H.item (i := 4) rfl)) (i := 2) rfl)) ?_
      obtain ⟨x69, e70, hF⟩ := letO_some hF
      refine RL_do rfl rfl (Do_as (Do_eql (a := x24.Flights) (b := 5) rfl rfl) (congrArg Value.bool e70)) ?_
      refine RL_do rfl rfl (Do_pick_t (v := .bool x69) rfl rfl) ?_
      refine RL_splitb (b := x69) rfl rfl rfl (fun c71 => ?_) (fun c71 => ?_)
      · have hF := iteB_t c71 hF
        refine RL_do rfl rfl (fa57_3 rfl) ?_
        refine RL_do rfl rfl (Do_load one42 rfl (Cells.get (Blk.cells (H.item (i := 4) rfl)) (i := 3) rfl)) ?_
        obtain ⟨x72, e73, hF⟩ := letO_some hF
        obtain ⟨a74, c75, q76⟩ := SlF.len ((H.item (i := 3) rfl))
        refine RL_do rfl rfl (Do_as (Do_len u42 q76) (congrArg (Value.int .i64) e73)) ?_
        obtain ⟨x77, e78, hF⟩ := letO_some hF
        refine RL_do rfl rfl (Do_as (Do_eql (a := x72) (b := 1) rfl rfl) (congrArg Value.bool e78)) ?_
        refine RL_do rfl rfl (Do_pick_t (v := .bool x77) rfl rfl) ?_
        refine RL_splitb (b := x77) rfl rfl rfl (fun c79 => ?_) (fun c79 => ?_)
        · have hF := iteB_t c79 hF
          refine RL_do rfl rfl (fa57_3 rfl) ?_
          refine RL_do rfl rfl (Do_load one42 rfl (Cells.get (Blk.cells (H.item (i := 4) rfl)) (i := 3) rfl)) ?_
          obtain ⟨x80, e81, hF⟩ := bindO_some hF
          obtain ⟨b82, o83, c84, cs85, q86, h89, h87, h88, h90⟩ := rd_at (H.item (i := 3) rfl) e81
          obtain rfl : cs85 = [.int .i64 x80] := h89
          have H := H.fz (.at b82 (o83 + (0 : Int).toNat * 1) _) ⟨h87, h88, h90⟩
          refine RL_do rfl rfl (Do_idx u42 sz3 q86 rfl (at_some e81).1 (at_some e81).2.1 rfl rfl) ?_
          refine RL_do rfl rfl (Do_load one3 rfl (Cells.get (H.item (i := 5) rfl).2.2 (i := 0) rfl)) ?_
          obtain ⟨x92, e93, hF⟩ := letO_some hF
          refine RL_do rfl rfl (Do_as (Do_eql (a := x80) (b := 5) rfl rfl) (congrArg Value.bool e93)) ?_
          refine RL_do rfl rfl (Do_pick_t (v := .bool x92) rfl rfl) ?_
          refine RL_do rfl rfl (Do_assign (v := .bool x92) rfl) ?_
          have hR := Option.some.inj hF
          subst hR
          refine (RL_nil (thenQ_n (And.intro ?_ ?_)))
          · repeat' (first | with_reducible exact Fr_refl | refine Fr_upd rfl ?_ | refine Fr_over rfl rfl ?_)
          · exact ⟨(), (Sl_cons rfl Sl_nil), H.pick [] (by decide)⟩
        · have hF := iteB_f c79 hF
          refine RL_off rfl rfl ?_
          refine RL_off rfl rfl ?_
          refine RL_off rfl rfl ?_
          refine RL_off rfl rfl ?_
          refine RL_off rfl rfl ?_
          refine RL_do rfl rfl (Do_pick_f (v := .bool false) rfl rfl) ?_
          refine RL_do rfl rfl (Do_assign (v := .bool false) rfl) ?_
          have hR := Option.some.inj hF
          subst hR
          refine (RL_nil (thenQ_n (And.intro ?_ ?_)))
          · repeat' (first | with_reducible exact Fr_refl | refine Fr_upd rfl ?_ | refine Fr_over rfl rfl ?_)
          · exact ⟨(), (Sl_cons rfl Sl_nil), H.pick [] (by decide)⟩
      · have hF := iteB_f c71 hF
        refine RL_off rfl rfl ?_
        refine RL_off rfl rfl ?_
        refine RL_off rfl rfl ?_
        refine RL_off rfl rfl ?_
        refine RL_do rfl rfl (Do_pick_f (v := .bool false) rfl rfl) ?_
        refine RL_do rfl rfl (Do_move (v := .bool false) rfl) ?_
        refine RL_off rfl rfl ?_
        refine RL_off rfl rfl ?_
        refine RL_off rfl rfl ?_
        refine RL_off rfl rfl ?_
        refine RL_off rfl rfl ?_
        refine RL_do rfl rfl (Do_pick_f (v := .bool false) rfl rfl) ?_
        refine RL_do rfl rfl (Do_assign (v := .bool false) rfl) ?_
        have hR := Option.some.inj hF
        subst hR
        refine (RL_nil (thenQ_n (And.intro ?_ ?_)))
        · repeat' (first | with_reducible exact Fr_refl | refine Fr_upd rfl ?_ | refine Fr_over rfl rfl ?_)
        · exact ⟨(), (Sl_cons rfl Sl_nil), H.pick [] (by decide)⟩
    · have hF := iteB_f c68 hF
      refine RL_off rfl rfl ?_
      refine RL_off rfl rfl ?_
      refine RL_off rfl rfl ?_
      refine RL_do rfl rfl (Do_pick_f (v := .bool false) rfl rfl) ?_
      refine RL_do rfl rfl (Do_move (v := .bool false) rfl) ?_
      refine RL_off rfl rfl ?_
      refine RL_off rfl rfl ?_
      refine RL_off rfl rfl ?_
      refine RL_off rfl rfl ?_
      refine RL_do rfl rfl (Do_pick_f (v := .bool false) rfl rfl) ?_
      refine RL_do rfl rfl (Do_move (v := .bool false) rfl) ?_
      refine RL_off rfl rfl ?_
      refine RL_off rfl rfl ?_
      refine RL_off rfl rfl ?_
      refine RL_off rfl rfl ?_
      refine RL_off rfl rfl ?_
      refine RL_do rfl rfl (Do_pick_f (v := .bool false) rfl rfl) ?_
      refine RL_do rfl rfl (Do_assign (v := .bool false) rfl) ?_
      have hR := Option.some.inj hF
      subst hR
      refine (RL_nil (thenQ_n (And.intro ?_ ?_)))
      · repeat' (first | with_reducible exact Fr_refl | refine Fr_upd rfl ?_ | refine Fr_over rfl rfl ?_)
      · exact ⟨(), (Sl_cons rfl Sl_nil), H.pick [] (by decide)⟩
  · rintro _ ρ w64 H
    have hF := hK65
    have hR := Option.some.inj hF
    subst hR
    refine (WP_ret (post1 (v1 := .bool g63) rfl rfl ?_))
    exact ⟨rfl, H.pick [] (by decide)⟩
end Go.Proofs.YtbjhondbheijiaaGreat.L
namespace Go.Proofs.YtbjhondbheijiaaGreat.L
open Go.RowKit Go.OB Go.Lf
/- orangebox/orangeboxlaw9.FleetQuantileMatchesSpec -/
set_option maxHeartbeats 4000000 in
theorem F_law9_FleetQuantileMatchesSpec_w (p0 : List Flight) (p1 : Mask) (p2 : Str) (p3 : Int) (p4 : Int) (v1 : Value) (v3 : Value) (v4 : Value) (r : Bool) (hF : F_law9_FleetQuantileMatchesSpec p0 p1 p2 p3 p4 = some r) (O S : List Nat) (w : World) (H : Hd O w w S [.fz (.sl rFlight v1 p0), .fz (.sl Rp.str v3 p1.Hide), .fz (.sl rGrain v4 p1.Grains)]) :
    Calls Tryz.prog 3 ([v1, .agg [.bool p1.Tails, .int .i64 p1.Days, v3, v4, .int .i64 p1.Least].toArray, .string (bs p2), .int .i64 p3, .int .i64 p4] : List Value).toArray w fun e w' => e = .returned (.bool r) ∧ Hd O w w' S [] := by
  unfold F_law9_FleetQuantileMatchesSpec at hF
  refine calls_of_WP 68 Tryz.func3 rfl rfl rfl ?_
  refine WP_seq_k fun K7 hK7 => ?_
  refine WP_region ?_
  refine RL_ex rfl rfl (Lx_box (cs := [.bool p1.Tails, .int .i64 p1.Days, v3, v4, .int .i64 p1.Least]) rfl H) ?_
  rintro _ w10 ⟨b8, rfl, H⟩
  refine RL_do rfl rfl (Do_assign (v := .bool false) rfl) ?_
  refine (RL_nil (thenQ_n (hK7 _ _ ?_)))
  refine WP_seq_k fun K11 hK11 => ?_
  refine WP_region ?_
  refine RL_do rfl rfl (Do_move (v := v1) rfl) ?_
  refine RL_do rfl rfl (Do_as (Do_loads (cs := [.bool p1.Tails, .int .i64 p1.Days, v3, v4, .int .i64 p1.Least]) agg26 rfl sz26 rfl (Blk.cells (H.item (i := 3) rfl))) rfl) ?_
  refine RL_do rfl rfl (Do_move (v := .string (bs p2)) rfl) ?_
  refine RL_do rfl rfl (Do_move (v := .int .i64 p3) rfl) ?_
  refine RL_do rfl rfl (Do_move (v := .int .i64 p4) rfl) ?_
  have H12 := H
  obtain ⟨⟨x13, x14⟩, e15, hF⟩ := bindO_some hF
  refine RL_call rfl rfl (DoC_func en4 rfl) (F_fleet_Quantile_w p0 p1 p2 p3 p4 v1 v3 v4 _ e15 _ _ _ (H.enter [] [0, 1, 2] (by decide) rfl)) ?_
  rintro _ w16 ⟨rfl, G17⟩
  have H := H12.step (G17.only : Only [] _ _)
  refine ⟨_, rfl, ?_⟩
  refine RL_do rfl rfl (Do_move (v := .tuple #[.int .i64 x13, .int .i64 x14]) rfl) ?_
  refine RL_do rfl rfl (Do_extract (v := .int .i64 x13) rfl rfl) ?_
  refine RL_do rfl rfl (Do_extract (v := .int .i64 x14) rfl rfl) ?_
  refine RL_do rfl rfl (Do_assign (v := .int .i64 x13) rfl) ?_
  refine RL_do rfl rfl (Do_assign (v := .int .i64 x14) rfl) ?_
  refine (RL_nil (thenQ_n (hK11 _ _ ?_)))
  refine WP_seq_k fun K18 hK18 => ?_
  refine WP_region ?_
  refine RL_do rfl rfl (Do_move (v := v1) rfl) ?_
  refine RL_do rfl rfl (Do_as (Do_loads (cs := [.bool p1.Tails, .int .i64 p1.Days, v3, v4, .int .i64 p1.Least]) agg26 rfl sz26 rfl (Blk.cells (H.item (i := 3) rfl))) rfl) ?_
  refine RL_do rfl rfl (Do_move (v := .string (bs p2)) rfl) ?_
  refine RL_do rfl rfl (Do_move (v := .int .i64 p3) rfl) ?_
  refine RL_do rfl rfl (Do_move (v := .int .i64 p4) rfl) ?_
  have H19 := H
  obtain ⟨⟨x20, x21⟩, e22, hF⟩ := bindO_some hF
  refine RL_call rfl rfl (DoC_func en5 rfl) (F_ref9_Quantile_w p0 p1 p2 p3 p4 v1 v3 v4 _ e22 _ _ _ (H.enter [] [0, 1, 2] (by decide) rfl)) ?_
  rintro _ w23 ⟨rfl, G24⟩
  have H := H19.step (G24.only : Only [] _ _)
  refine ⟨_, rfl, ?_⟩
  refine RL_do rfl rfl (Do_move (v := .tuple #[.int .i64 x20, .int .i64 x21]) rfl) ?_
  refine RL_do rfl rfl (Do_extract (v := .int .i64 x20) rfl rfl) ?_
  refine RL_do rfl rfl (Do_extract (v := .int .i64 x21) rfl rfl) ?_
  refine RL_do rfl rfl (Do_assign (v := .int .i64 x20) rfl) ?_
  refine RL_do rfl rfl (Do_assign (v := .int .i64 x21) rfl) ?_
  refine (RL_nil (thenQ_n (hK18 _ _ ?_)))
  refine WP_seq_k fun K35 hK35 => ?_
  obtain ⟨g41, hF, hK43⟩ := bindO_some hF
  refine WP_seqS [35, 36, 37, 38, 39, 40, 41, 42] (fun (g : Unit) => [(42, .bool g41)]) (fun g wl => Hd O w wl S [.fz (.sl rFlight v1 p0), .blk b8 [.bool p1.Tails, .int .i64 p1.Days, v3, v4, .int .i64 p1.Least] 26, .fz (.sl Rp.str v3 p1.Hide), .fz (.sl rGrain v4 p1.Grains)]) ?_ ?_
  · skip
    refine WP_region ?_
    refine RL_do rfl rfl (Do_move (v := .int .i64 x13) rfl) ?_
    refine RL_do rfl rfl (Do_move (v := .int .i64 x20) rfl) ?_
    obtain ⟨x44, e45, hF⟩ := letO_some hF
    refine RL_do rfl rfl (Do_as (Do_neq (a := x13) (b := x20) rfl rfl) (congrArg Value.bool e45)) ?_
    refine RL_splitb (b := x44) rfl rfl rfl (fun c46 => ?_) (fun c46 => ?_)
    · have hF := iteB_t c46 hF
      refine RL_off rfl rfl ?_
      refine RL_off rfl rfl ?_
      refine RL_off rfl rfl ?_
      refine RL_do rfl rfl (Do_pick_t (v := .bool true) rfl rfl) ?_
      have hR := Option.some.inj hF
      subst hR
      refine (RL_nil (thenQ_n (And.intro ?_ ?_)))
      · repeat' (first | with_reducible exact Fr_refl | refine Fr_upd rfl ?_ | refine Fr_over rfl rfl ?_)
      · exact ⟨(), (Sl_cons rfl Sl_nil), H.pick [0, 3, 1, 2] (by decide)⟩
    · have hF := iteB_f c46 hF
      refine RL_do rfl rfl (Do_move (v := .int .i64 x14) rfl) ?_
      refine RL_do rfl rfl (Do_move (v := .int .i64 x21) rfl) ?_
      obtain ⟨x47, e48, hF⟩ := letO_some hF
      refine RL_do rfl rfl (Do_as (Do_neq (a := x14) (b := x21) rfl rfl) (congrArg Value.bool e48)) ?_
      refine RL_do rfl rfl (Do_pick_f (v := .bool x47) rfl rfl) ?_
      have hR := Option.some.inj hF
      subst hR
      refine (RL_nil (thenQ_n (And.intro ?_ ?_)))
      · repeat' (first | with_reducible exact Fr_refl | refine Fr_upd rfl ?_ | refine Fr_over rfl rfl ?_)
      · exact ⟨(), (Sl_cons rfl Sl_nil), H.pick [0, 3, 1, 2] (by decide)⟩
  · rintro _ ρ w42 H
    have hF := hK43
    refine WP_ifb (b := g41) rfl (fun c49 => ?_) (fun c49 => ?_)
    · have hF := iteB_t c49 hF
      refine WP_seq_k fun K50 hK50 => ?_
      refine WP_region ?_
      refine RL_do rfl rfl (Do_assign (v := .bool false) rfl) ?_
      refine (RL_nil (thenQ_n (hK50 _ _ ?_)))
      have hR := Option.some.inj hF
      subst hR
      refine (WP_ret (thenQ_r (post1 (v1 := .bool false) rfl rfl ?_)))
      exact ⟨rfl, H.pick [] (by decide)⟩
    · have hF := iteB_f c49 hF
      refine (WP_skip (thenQ_n (hK35 _ _ ?_)))
      refine WP_seq_k fun K51 hK51 => ?_
      refine WP_region ?_
      refine RL_do rfl rfl (Do_move (v := v1) rfl) ?_
      refine RL_do rfl rfl (Do_as (Do_loads (cs := [.bool p1.Tails, .int .i64 p1.Days, v3, v4, .int .i64 p1.Least]) agg26 rfl sz26 rfl (Blk.cells (H.item (i := 1) rfl))) rfl) ?_
      refine RL_do rfl rfl (Do_move (v := .string (bs p2)) rfl) ?_
      have H52 := H
      obtain ⟨⟨x53, x54⟩, e55, hF⟩ := bindO_some hF
      refine RL_call rfl rfl (DoC_func en6 rfl) (F_fleet_Mean_w p0 p1 p2 v1 v3 v4 _ e55 _ _ _ (H.enter [] [0, 2, 3] (by decide) rfl)) ?_
      rintro _ w56 ⟨rfl, G57⟩
      have H := H52.step (G57.only : Only [] _ _)
      refine ⟨_, rfl, ?_⟩
      refine RL_do rfl rfl (Do_move (v := .tuple #[.agg [.int .i64 x53.Num, .int .i64 x53.Den].toArray, .int .i64 x54]) rfl) ?_
      refine RL_do rfl rfl (Do_extract (v := .agg [.int .i64 x53.Num, .int .i64 x53.Den].toArray) rfl rfl) ?_
      refine RL_do rfl rfl (Do_extract (v := .int .i64 x54) rfl rfl) ?_
      refine RL_ex rfl rfl (Lx_alloc zero31 H) ?_
      rintro _ w60 ⟨b58, rfl, H⟩
      refine RL_exU rfl (Lx_storeN (vs := [.int .i64 x53.Num, .int .i64 x53.Den]) H 4 rfl sz31 rfl rfl rfl ⟨rfl, rfl, trivial⟩ rfl) ?_
      rintro w61 H
      refine RL_do rfl rfl (Do_assign (v := .int .i64 x54) rfl) ?_
      refine (RL_nil (thenQ_n (hK51 _ _ ?_)))
      refine WP_seq_k fun K62 hK62 => ?_
      refine WP_region ?_
      refine RL_do rfl rfl (Do_move (v := v1) rfl) ?_
      refine RL_do rfl rfl (Do_as (Do_loads (cs := [.bool p1.Tails, .int .i64 p1.Days, v3, v4, .int .i64 p1.Least]) agg26 rfl sz26 rfl (Blk.cells (H.item (i := 1) rfl))) rfl) ?_
      refine RL_do rfl rfl (Do_move (v := .string (bs p2)) rfl) ?_
      have H63 := H
      obtain ⟨⟨x64, x65⟩, e66, hF⟩ := bindO_some hF
      refine RL_call rfl rfl (DoC_func en7 rfl) (F_ref9_Mean_w p0 p1 p2 v1 v3 v4 _ e66 _ _ _ (H.enter [] [0, 2, 3] (by decide) rfl)) ?_
      rintro _ w67 ⟨rfl, G68⟩
      have H := H63.step (G68.only : Only [] _ _)
      refine ⟨_, rfl, ?_⟩
      refine RL_do rfl rfl (Do_move (v := .tuple #[.agg [.int .i64 x64.Num, .int .i64 x64.Den].toArray, .int .i64 x65]) rfl) ?_
      refine RL_do rfl rfl (Do_extract (v := .agg [.int .i64 x64.Num, .int .i64 x64.Den].toArray) rfl rfl) ?_
      refine RL_do rfl rfl (Do_extract (v := .int .i64 x65) rfl rfl) ?_
      refine RL_ex rfl rfl (Lx_alloc zero31 H) ?_
      rintro _ w71 ⟨b69, rfl, H⟩
      refine RL_exU rfl (Lx_storeN (vs := [.int .i64 x64.Num, .int .i64 x64.Den]) H 5 rfl sz31 rfl rfl rfl ⟨rfl, rfl, trivial⟩ rfl) ?_
      rintro w72 H
      refine RL_do rfl rfl (Do_assign (v := .int .i64 x65) rfl) ?_
      refine (RL_nil (thenQ_n (hK62 _ _ ?_)))
      obtain ⟨g84, hF, hK86⟩ := bindO_some hF
      refine WP_seqS [10, 57, 58, 59, 60, 61, 62, 63, 64, 65, 66, 67] (fun (g : Unit) => [(10, .bool g84)]) (fun g wl => Hd O w wl S []) ?_ ?_
      · skip
        refine WP_region ?_
        refine RL_do rfl rfl (Do_as (Do_loads (cs := [.int .i64 x53.Num, .int .i64 x53.Den]) agg31 rfl sz31 rfl (Blk.cells (H.item (i := 4) rfl))) rfl) ?_
        refine RL_do rfl rfl (Do_as (Do_loads (cs := [.int .i64 x64.Num, .int .i64 x64.Den]) agg31 rfl sz31 rfl (Blk.cells (H.item (i := 5) rfl))) rfl) ?_
        obtain ⟨x87, e88, hF⟩ := letO_some hF
        refine RL_do rfl rfl (Do_as (Do_eqlF (e := flRatio) (a := x53) (b := x64) (by kernel_rfl) eqf31 (by decide) agg31 sz31 rfl rfl) (congrArg Value.bool e88)) ?_
        refine RL_splitb (b := x87) rfl rfl rfl (fun c89 => ?_) (fun c89 => ?_)
        · have hF := iteB_t c89 hF
          refine RL_do rfl rfl (Do_move (v := .int .i64 x54) rfl) ?_
          refine RL_do rfl rfl (Do_move (v := .int .i64 x65) rfl) ?_
          obtain ⟨x90, e91, hF⟩ := letO_some hF
          refine RL_do rfl rfl (Do_as (Do_eql (a := x54) (b := x65) rfl rfl) (congrArg Value.bool e91)) ?_
          refine RL_do rfl rfl (Do_pick_t (v := .bool x90) rfl rfl) ?_
          refine RL_splitb (b := x90) rfl rfl rfl (fun c92 => ?_) (fun c92 => ?_)
          · have hF := iteB_t c92 hF
            have H93 := H
            obtain ⟨x94, e95, hF⟩ := bindO_some hF
            refine RL_call rfl rfl (DoC_func en8 rfl) (F_law9_totals_w _ e95 _ _ _ (H.enter [] [] (by decide) rfl)) ?_
            rintro _ w96 ⟨rfl, G97⟩
            have H := H93.step (G97.only : Only [] _ _)
            refine ⟨_, rfl, ?_⟩
            refine RL_do rfl rfl (Do_pick_t (v := .bool x94) rfl rfl) ?_
            refine RL_do rfl rfl (Do_assign (v := .bool x94) rfl) ?_
            have hR := Option.some.inj hF
            subst hR
            refine (RL_nil (thenQ_n (And.intro ?_ ?_)))
            · repeat' (first | with_reducible exact Fr_refl | refine Fr_upd rfl ?_ | refine Fr_over rfl rfl ?_)
            · exact ⟨(), (Sl_cons rfl Sl_nil), H.pick [] (by decide)⟩
          · have hF := iteB_f c92 hF
            refine RL_off rfl rfl ?_
            refine RL_do rfl rfl (Do_pick_f (v := .bool false) rfl rfl) ?_
            refine RL_do rfl rfl (Do_assign (v := .bool false) rfl) ?_
            have hR := Option.some.inj hF
            subst hR
            refine (RL_nil (thenQ_n (And.intro ?_ ?_)))
            · repeat' (first | with_reducible exact Fr_refl | refine Fr_upd rfl ?_ | refine Fr_over rfl rfl ?_)
            · exact ⟨(), (Sl_cons rfl Sl_nil), H.pick [] (by decide)⟩
        · have hF := iteB_f c89 hF
          refine RL_off rfl rfl ?_
          refine RL_off rfl rfl ?_
          refine RL_off rfl rfl ?_
          refine RL_do rfl rfl (Do_pick_f (v := .bool false) rfl rfl) ?_
          refine RL_do rfl rfl (Do_move (v := .bool false) rfl) ?_
          refine RL_off rfl rfl ?_
          refine RL_do rfl rfl (Do_pick_f (v := .bool false) rfl rfl) ?_
          refine RL_do rfl rfl (Do_assign (v := .bool false) rfl) ?_
          have hR := Option.some.inj hF
          subst hR
          refine (RL_nil (thenQ_n (And.intro ?_ ?_)))
          · repeat' (first | with_reducible exact Fr_refl | refine Fr_upd rfl ?_ | refine Fr_over rfl rfl ?_)
          · exact ⟨(), (Sl_cons rfl Sl_nil), H.pick [] (by decide)⟩
      · rintro _ ρ w85 H
        have hF := hK86
        have hR := Option.some.inj hF
        subst hR
        refine (WP_ret (post1 (v1 := .bool g84) rfl rfl ?_))
        exact ⟨rfl, H.pick [] (by decide)⟩
end Go.Proofs.YtbjhondbheijiaaGreat.L
