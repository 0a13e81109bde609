/- Walks: what each function computes, for every argument; no condition but those that stand in the statements. -/
import Derived.Test.YtbjhondbheijiaaQV0
import Derived.Test.YtbjhondbheijiaaQV3
namespace Go.Proofs.Ytbjhondbheijiaa
open Go.RowKit Go.OB Go.Lf
/- orangebox/fleet.CheckTable -/
set_option maxHeartbeats 4000000 in
theorem F_fleet_CheckTable_w (p0 : List FleetRow) (v1 : Value) (r : Int) (hF : F_fleet_CheckTable p0 = some r) (O S : List Nat) (w : World) (H : Hd O w w S [.fz (.sl rFleetRow v1 p0)]) :
    Calls Try.prog 24 ([v1] : List Value).toArray w fun e w' => e = .returned (.int .i64 r) ∧ Hd O w w' S [] := by
  unfold F_fleet_CheckTable at hF
  refine calls_of_WP 67 Try.func24 rfl rfl rfl ?_
  refine WP_seq_k fun K3 hK3 => ?_
  refine WP_region ?_
  refine RL_do rfl rfl (Do_assign (v := .int .i64 0) rfl) ?_
  refine (RL_nil (thenQ_n (hK3 _ _ ?_)))
  refine WP_seq_k fun K14 hK14 => ?_
  refine WP_seq_k fun K15 hK15 => ?_
  refine WP_region ?_
  refine RL_do rfl rfl (Do_move (v := v1) rfl) ?_
  obtain ⟨x16, e17, hF⟩ := letO_some hF
  obtain ⟨a18, c19, q20⟩ := SlF.len ((H.item (i := 0) rfl))
  refine RL_do rfl rfl (Do_as (Do_len u49 q20) (congrArg (Value.int .i64) e17)) ?_
  obtain ⟨x21, e22, hF⟩ := letO_some hF
  refine RL_do rfl rfl (Do_as (Do_gtr (a := x16) (b := 300) rfl rfl) (congrArg Value.bool e22)) ?_
  refine (RL_nil (thenQ_n (hK15 _ _ ?_)))
  refine WP_ifb (b := x21) rfl (fun c23 => ?_) (fun c23 => ?_)
  · have hF := iteB_t c23 hF
    refine WP_seq_k fun K24 hK24 => ?_
    refine WP_region ?_
    refine RL_do rfl rfl (Do_assign (v := .int .i64 3) rfl) ?_
    refine (RL_nil (thenQ_n (hK24 _ _ ?_)))
    have hR := Option.some.inj hF
    subst hR
    refine (WP_ret (thenQ_r (post1 (v1 := .int .i64 3) rfl rfl ?_)))
    exact ⟨rfl, H.pick [] (by decide)⟩
  · have hF := iteB_f c23 hF
    refine (WP_skip (thenQ_n (hK14 _ _ ?_)))
    refine WP_seq_k fun K25 hK25 => ?_
    refine WP_region ?_
    refine RL_do rfl rfl (Do_move (v := v1) rfl) ?_
    obtain ⟨x26, e27, hF⟩ := bindO_some hF
    refine RL_call rfl rfl (DoC_func en40 rfl) (F_slices_IndexFunc___api_FleetRow_api_FleetRow__fleet_CheckTable_1_w p0 v1 _ e27 _ _ _ (H.enter [] [0] (by decide) rfl)) ?_
    rintro _ w28 ⟨rfl, G29⟩
    have H := H.back0 [0] rfl G29
    refine ⟨_, rfl, ?_⟩
    refine RL_do rfl rfl (Do_assign (v := .int .i64 x26) rfl) ?_
    refine (RL_nil (thenQ_n (hK25 _ _ ?_)))
    refine WP_seq_k fun K30 hK30 => ?_
    refine WP_region ?_
    refine RL_do rfl rfl (Do_assign (v := .func (.func 42) #[] #[]) rfl) ?_
    refine (RL_nil (thenQ_n (hK30 _ _ ?_)))
    obtain ⟨k979, ek980, hF⟩ := joinO_some hF
    refine WP_seqS [2, 5, 6, 12, 13, 14, 15, 16, 17, 18, 19, 20, 21, 22, 23, 24, 25, 26, 27, 28, 29, 30, 31, 32, 33, 34, 35, 36, 37, 38, 39, 40, 41, 42, 43, 44, 45, 46, 47, 48, 49, 50, 51, 52, 53, 54, 55, 56, 57, 58, 59, 60, 61, 62, 63, 64, 65, 66] (fun (g : Unit) => []) (fun g wl => Hd O w wl S [] ∧ k979 () = some r) ?_ ?_
    · skip
      refine WP_seq_k fun K981 hK981 => ?_
      refine WP_region ?_
      refine RL_do rfl rfl (Do_move (v := v1) rfl) ?_
      obtain ⟨x982, e983, hF⟩ := letO_some hF
      obtain ⟨a984, c985, q986⟩ := SlF.len ((H.item (i := 0) rfl))
      refine RL_do rfl rfl (Do_as (Do_len u49 q986) (congrArg (Value.int .i64) e983)) ?_
      refine RL_do rfl rfl (Do_move (v := .int .i64 0) rfl) ?_
      refine (RL_nil (thenQ_n (hK981 _ _ ?_)))
      refine WP_block ?_
      unfold F_fleet_CheckTable_L1 at hF
      obtain ⟨B1611, n1612, eB1613, hF⟩ := loopO_some hF
      refine WP_loopS [2, 5, 6, 14, 15, 16, 17, 18, 19, 20, 21, 22, 23, 24, 25, 26, 27, 28, 29, 30, 31, 32, 33, 34, 35, 36, 37, 38, 39, 40, 41, 42, 43, 44, 45, 46, 47, 48, 49, 50, 51, 52, 53, 54, 55, 56, 57, 58, 59, 60, 61, 62, 63, 64, 65, 66] (fun (g : Nat × Int) => [(14, .int .i64 g.2)]) (fun g wl => Hd O w wl S [.fz (.sl rFleetRow v1 p0)] ∧ loopN B1611 g.1 g.2 = some r) (fun g => g.1) (n1612, 0) (Sl_cons rfl Sl_nil) ⟨H.pick [0] (by decide), hF⟩ ?_
      clear H hF
      rintro ⟨n1612, g1610⟩ ρ w1615 ⟨H, hF⟩
      obtain ⟨n1616, rfl, hF⟩ := loopN_pos hF
      have hF := loop_body eB1613 hF
      refine WP_seq_k fun K1617 hK1617 => ?_
      refine WP_region ?_
      obtain ⟨x1618, e1619, hF⟩ := letO_some hF
      refine RL_do rfl rfl (Do_as (Do_lss (a := g1610) (b := x982) rfl rfl) (congrArg Value.bool e1619)) ?_
      refine (RL_nil (thenQ_n (hK1617 _ _ ?_)))
      refine WP_seq_k fun K1621 hK1621 => ?_
      refine WP_ifb (b := x1618) rfl (fun c1622 => ?_) (fun c1622 => ?_)
      · have hF := iteB_t c1622 hF
        refine (WP_skip (thenQ_n (hK1621 _ _ ?_)))
        refine WP_seq_k fun K1774 hK1774 => ?_
        refine WP_block ?_
        refine WP_seq_k fun K1775 hK1775 => ?_
        refine WP_region ?_
        refine RL_do rfl rfl (Do_move (v := .int .i64 g1610) rfl) ?_
        obtain ⟨x1776, e1777, hF⟩ := bindO_some hF
        obtain ⟨b1778, o1779, c1780, cs1781, q1782, h1785, h1783, h1784, h1786⟩ := rd_at (H.item (i := 0) rfl) e1777
        obtain ⟨v1787, rfl, h1788⟩ := rFleetRow_open h1785
        have H := H.fzs [.at b1778 (o1779 + g1610.toNat * 4) _, .sl (Rp.int .i64) v1787 x1776.Events] ⟨⟨h1783, h1784, h1786⟩, h1788, trivial⟩
        refine RL_do rfl rfl (Do_idx u49 sz46 q1782 rfl (at_some e1777).1 (at_some e1777).2.1 rfl rfl) ?_
        refine RL_do rfl rfl (Do_as (Do_loads (cs := [.string (bs x1776.Key), .bool x1776.Hidden, .int .i64 x1776.Flights, v1787]) agg46 rfl sz46 rfl (H.item (i := 1) rfl).2.2) rfl) ?_
        refine RL_ex rfl rfl (Lx_alloc zero46 H) ?_
        rintro _ w1793 ⟨b1791, rfl, H⟩
        refine RL_do rfl rfl (Do_assign (v := .int .i64 g1610) rfl) ?_
        refine RL_exU rfl (Lx_storeN (vs := [.string (bs x1776.Key), .bool x1776.Hidden, .int .i64 x1776.Flights, v1787]) H 3 rfl sz46 rfl rfl rfl ⟨rfl, rfl, rfl, (slf_one (H.item (i := 2) rfl)), trivial⟩ rfl) ?_
        rintro w1794 H
        refine (RL_nil (thenQ_n (hK1775 _ _ ?_)))
        refine WP_block ?_
        refine WP_seq_k fun K1795 hK1795 => ?_
        refine WP_region ?_
        refine RL_do rfl rfl (Do_move (v := v1) rfl) ?_
        refine RL_do rfl rfl (Do_move (v := .int .i64 g1610) rfl) ?_
        obtain ⟨x1796, e1797, hF⟩ := bindO_some hF
        refine RL_exP rfl rfl (Lx_slice_h u49 sz46 (H.item (i := 0) rfl) rfl rfl e1797) ?_
        rintro v1798 h1799
        have H := H.fz (.sl rFleetRow v1798 x1796) h1799
        refine RL_do rfl rfl (Do_makeFunc rfl) ?_
        obtain ⟨x1801, e1802, hF⟩ := bindO_some hF
        refine RL_call rfl rfl (DoC_func en43 rfl) (F_slices_ContainsFunc___api_FleetRow_api_FleetRow__fleet_CheckTable_3_w x1796 x1776 v1798 b1791 v1787 _ e1802 _ _ _ (H.enter [3] [4, 2] (by decide) rfl)) ?_
        rintro _ w1803 ⟨rfl, G1804⟩
        have H : Hd O w w1803 S [.fz (.sl rFleetRow v1 p0), .fz (.at b1778 (o1779 + g1610.toNat * 4) [.string (bs x1776.Key), .bool x1776.Hidden, .int .i64 x1776.Flights, v1787]), .fz (.sl (Rp.int .i64) v1787 x1776.Events), .fz (.sl rFleetRow v1798 x1796), .blk b1791 [.string (bs x1776.Key), .bool x1776.Hidden, .int .i64 x1776.Flights, v1787] 46] := H.back [3] [4, 2] rfl G1804
        refine ⟨_, rfl, ?_⟩
        refine RL_do rfl rfl (Do_assign (v := .bool x1801) rfl) ?_
        refine (RL_nil (thenQ_n (hK1795 _ _ ?_)))
        refine WP_ifb (b := x1801) rfl (fun c1805 => ?_) (fun c1805 => ?_)
        · have hF := iteB_t c1805 hF
          refine WP_seq_k fun K1806 hK1806 => ?_
          refine WP_region ?_
          refine RL_do rfl rfl (Do_assign (v := .int .i64 5) rfl) ?_
          refine (RL_nil (thenQ_n (hK1806 _ _ ?_)))
          have hR := Option.some.inj hF
          subst hR
          refine (WP_ret (blockQ_r (blockQ_r (thenQ_r (thenQ_r (blockQ_r (thenQ_r (post1 (v1 := .int .i64 5) rfl rfl ?_))))))))
          exact ⟨rfl, H.pick [] (by decide)⟩
        · have hF := iteB_f c1805 hF
          obtain ⟨g1818, hF, hK1820⟩ := bindO_some hF
          refine WP_seqS [25, 26, 27, 28, 29, 30, 31, 32, 33, 34, 35, 36, 37, 38] (fun (g : Unit) => [(25, .bool g1818)]) (fun g wl => Hd O w wl S [.fz (.sl rFleetRow v1 p0), .blk b1791 [.string (bs x1776.Key), .bool x1776.Hidden, .int .i64 x1776.Flights, v1787] 46, .fz (.sl (Rp.int .i64) v1787 x1776.Events)]) ?_ ?_
          · skip
            refine WP_region ?_
            refine RL_do rfl rfl (fa46_1 rfl) ?_
            refine RL_do rfl rfl (Do_load one4 rfl (Cells.get (Blk.cells (H.item (i := 4) rfl)) (i := 1) rfl)) ?_
            refine RL_splitb (b := x1776.Hidden) rfl rfl rfl (fun c1821 => ?_) (fun c1821 => ?_)
            · have hF := iteB_t c1821 hF
              refine RL_do rfl rfl (fa46_2 rfl) ?_
              refine RL_do rfl rfl (Do_load one3 rfl (Cells.get (Blk.cells (H.item (i := 4) rfl)) (i := 2) rfl)) ?_
              obtain ⟨x1822, e1823, hF⟩ := letO_some hF
              refine RL_do rfl rfl (Do_as (Do_neq (a := x1776.Flights) (b := 0) rfl rfl) (congrArg Value.bool e1823)) ?_
              refine RL_splitb (b := x1822) rfl rfl rfl (fun c1824 => ?_) (fun c1824 => ?_)
              · have hF := iteB_t c1824 hF
                refine RL_off rfl rfl ?_
                refine RL_off rfl rfl ?_
                refine RL_off rfl rfl ?_
                refine RL_off rfl rfl ?_
                refine RL_do rfl rfl (Do_pick_t (v := .bool true) rfl rfl) ?_
                refine RL_do rfl rfl (Do_pick_t (v := .bool true) rfl rfl) ?_
                refine RL_do rfl rfl (Do_assign (v := .bool true) rfl) ?_
                have hR := Option.some.inj hF
                subst hR
                refine (RL_nil (thenQ_n (And.intro ?_ ?_)))
                · repeat' (first | with_reducible exact Fr_refl | refine Fr_upd rfl ?_ | refine Fr_over rfl rfl ?_)
                · exact ⟨(), (Sl_cons rfl Sl_nil), H.pick [0, 4, 2] (by decide)⟩
              · have hF := iteB_f c1824 hF
                refine RL_do rfl rfl (fa46_3 rfl) ?_
                refine RL_do rfl rfl (Do_load one44 rfl (Cells.get (Blk.cells (H.item (i := 4) rfl)) (i := 3) rfl)) ?_
                obtain ⟨x1825, e1826, hF⟩ := letO_some hF
                obtain ⟨a1827, c1828, q1829⟩ := SlF.len ((H.item (i := 2) rfl))
                refine RL_do rfl rfl (Do_as (Do_len u44 q1829) (congrArg (Value.int .i64) e1826)) ?_
                obtain ⟨x1830, e1831, hF⟩ := letO_some hF
                refine RL_do rfl rfl (Do_as (Do_gtr (a := x1825) (b := 0) rfl rfl) (congrArg Value.bool e1831)) ?_
                refine RL_do rfl rfl (Do_pick_f (v := .bool x1830) rfl rfl) ?_
                refine RL_do rfl rfl (Do_pick_t (v := .bool x1830) rfl rfl) ?_
                refine RL_do rfl rfl (Do_assign (v := .bool x1830) rfl) ?_
                have hR := Option.some.inj hF
                subst hR
                refine (RL_nil (thenQ_n (And.intro ?_ ?_)))
                · repeat' (first | with_reducible exact Fr_refl | refine Fr_upd rfl ?_ | refine Fr_over rfl rfl ?_)
                · exact ⟨(), (Sl_cons rfl Sl_nil), H.pick [0, 4, 2] (by decide)⟩
            · have hF := iteB_f c1821 hF
              refine RL_off rfl rfl ?_
              refine RL_off rfl rfl ?_
              refine RL_off rfl rfl ?_
              refine RL_off rfl rfl ?_
              refine RL_off rfl rfl ?_
              refine RL_off rfl rfl ?_
              refine RL_off rfl rfl ?_
              refine RL_off rfl rfl ?_
              refine RL_off rfl rfl ?_
              refine RL_do rfl rfl (Do_pick_f (v := .bool false) rfl rfl) ?_
              refine RL_do rfl rfl (Do_assign (v := .bool false) rfl) ?_
              have hR := Option.some.inj hF
              subst hR
              refine (RL_nil (thenQ_n (And.intro ?_ ?_)))
              · repeat' (first | with_reducible exact Fr_refl | refine Fr_upd rfl ?_ | refine Fr_over rfl rfl ?_)
              · exact ⟨(), (Sl_cons rfl Sl_nil), H.pick [0, 4, 2] (by decide)⟩
          · rintro _ ρ w1819 H
            have hF := hK1820
            refine WP_ifb (b := g1818) rfl (fun c1832 => ?_) (fun c1832 => ?_)
            · have hF := iteB_t c1832 hF
              refine WP_seq_k fun K1833 hK1833 => ?_
              refine WP_region ?_
              refine RL_do rfl rfl (Do_assign (v := .int .i64 2) rfl) ?_
              refine (RL_nil (thenQ_n (hK1833 _ _ ?_)))
              have hR := Option.some.inj hF
              subst hR
              refine (WP_ret (blockQ_r (blockQ_r (thenQ_r (thenQ_r (blockQ_r (thenQ_r (post1 (v1 := .int .i64 2) rfl rfl ?_))))))))
              exact ⟨rfl, H.pick [] (by decide)⟩
            · have hF := iteB_f c1832 hF
              obtain ⟨g1843, hF, hK1845⟩ := bindO_some hF
              refine WP_seqS [39, 40, 41, 42, 43, 44, 45, 46, 47, 48, 49] (fun (g : Unit) => [(39, .bool g1843)]) (fun g wl => Hd O w wl S [.fz (.sl rFleetRow v1 p0), .blk b1791 [.string (bs x1776.Key), .bool x1776.Hidden, .int .i64 x1776.Flights, v1787] 46, .fz (.sl (Rp.int .i64) v1787 x1776.Events)]) ?_ ?_
              · skip
                refine WP_region ?_
                refine RL_do rfl rfl (Do_move (v := .func (.func 42) #[] #[]) rfl) ?_
                refine RL_do rfl rfl (fa46_2 rfl) ?_
                refine RL_do rfl rfl (Do_load one3 rfl (Cells.get (Blk.cells (H.item (i := 1) rfl)) (i := 2) rfl)) ?_
                obtain ⟨x1846, e1847, hF⟩ := bindO_some hF
                refine RL_call rfl rfl (DoC_clo en42 rfl rfl) (F_fleet_CheckTable_2_w x1776.Flights _ e1847 _ _ _ (H.enter [] [] (by decide) rfl)) ?_
                rintro _ w1848 ⟨rfl, G1849⟩
                have H := H.back0 [] rfl G1849
                refine ⟨_, rfl, ?_⟩
                refine RL_splitb (b := x1846) rfl rfl rfl (fun c1850 => ?_) (fun c1850 => ?_)
                · have hF := iteB_t c1850 hF
                  refine RL_off rfl rfl ?_
                  refine RL_off rfl rfl ?_
                  refine RL_off rfl rfl ?_
                  refine RL_off rfl rfl ?_
                  refine RL_do rfl rfl (Do_pick_t (v := .bool true) rfl rfl) ?_
                  refine RL_do rfl rfl (Do_assign (v := .bool true) rfl) ?_
                  have hR := Option.some.inj hF
                  subst hR
                  refine (RL_nil (thenQ_n (And.intro ?_ ?_)))
                  · repeat' (first | with_reducible exact Fr_refl | refine Fr_upd rfl ?_ | refine Fr_over rfl rfl ?_)
                  · exact ⟨(), (Sl_cons rfl Sl_nil), H.pick [0, 1, 2] (by decide)⟩
                · have hF := iteB_f c1850 hF
                  refine RL_do rfl rfl (fa46_3 rfl) ?_
                  refine RL_do rfl rfl (Do_load one44 rfl (Cells.get (Blk.cells (H.item (i := 1) rfl)) (i := 3) rfl)) ?_
                  refine RL_do rfl rfl (Do_move (v := .func (.func 42) #[] #[]) rfl) ?_
                  obtain ⟨x1851, e1852, hF⟩ := bindO_some hF
                  refine RL_call rfl rfl (DoC_func en45 rfl) (F_slices_ContainsFunc___int_int__fleet_CheckTable_2_w x1776.Events v1787 _ e1852 _ _ _ (H.enter [] [2] (by decide) rfl)) ?_
                  rintro _ w1853 ⟨rfl, G1854⟩
                  have H := H.back0 [2] rfl G1854
                  refine ⟨_, rfl, ?_⟩
                  refine RL_do rfl rfl (Do_pick_f (v := .bool x1851) rfl rfl) ?_
                  refine RL_do rfl rfl (Do_assign (v := .bool x1851) rfl) ?_
                  have hR := Option.some.inj hF
                  subst hR
                  refine (RL_nil (thenQ_n (And.intro ?_ ?_)))
                  · repeat' (first | with_reducible exact Fr_refl | refine Fr_upd rfl ?_ | refine Fr_over rfl rfl ?_)
                  · exact ⟨(), (Sl_cons rfl Sl_nil), H.pick [0, 1, 2] (by decide)⟩
              · rintro _ ρ w1844 H
                have hF := hK1845
                refine WP_ifb (b := g1843) rfl (fun c1855 => ?_) (fun c1855 => ?_)
                · have hF := iteB_t c1855 hF
                  refine WP_seq_k fun K1856 hK1856 => ?_
                  refine WP_region ?_
                  refine RL_do rfl rfl (Do_assign (v := .int .i64 9) rfl) ?_
                  refine (RL_nil (thenQ_n (hK1856 _ _ ?_)))
                  have hR := Option.some.inj hF
                  subst hR
                  refine (WP_ret (blockQ_r (blockQ_r (thenQ_r (thenQ_r (blockQ_r (thenQ_r (post1 (v1 := .int .i64 9) rfl rfl ?_))))))))
                  exact ⟨rfl, H.pick [] (by decide)⟩
                · have hF := iteB_f c1855 hF
                  obtain ⟨g1889, hF, hK1891⟩ := bindO_some hF
                  refine WP_seqS [50, 51, 52, 53, 54, 55, 56, 57, 58, 59, 60, 61, 62, 63, 64, 65] (fun (g : Unit) => [(50, .bool g1889)]) (fun g wl => Hd O w wl S [.fz (.sl rFleetRow v1 p0)]) ?_ ?_
                  · skip
                    refine WP_mix [.pure, .read, .pure, .pure, .pure, .read, .pure, .pure, .pure, .pure, .pure, .read, .pure, .pure, .pure, .pure] mixed (by kernel_rfl) (by kernel_rfl) (by kernel_rfl) ?_
                    refine XL_pure rfl rfl rfl (fun w' => fa46_1 rfl) ?_
                    refine XL_read rfl rfl rfl (fun w' hw' => Do_load one4 rfl (Cells.get (Blk.cells ((H.sees hw').item (i := 1) rfl)) (i := 1) rfl)) ?_
                    obtain ⟨x1892, e1893, hF⟩ := letO_some hF
                    refine XL_pure rfl rfl rfl (fun w' => Do_as (Do_not (p := x1776.Hidden) rfl) (congrArg Value.bool e1893)) ?_
                    refine XL_splitb (b := x1892) rfl rfl rfl rfl (fun c1894 => ?_) (fun c1894 => ?_)
                    · have hF := iteB_t c1894 hF
                      refine XL_pure rfl rfl rfl (fun w' => fa46_3 rfl) ?_
                      refine XL_read rfl rfl rfl (fun w' hw' => Do_load one44 rfl (Cells.get (Blk.cells ((H.sees hw').item (i := 1) rfl)) (i := 3) rfl)) ?_
                      obtain ⟨x1895, e1896, hF⟩ := letO_some hF
                      obtain ⟨a1897, c1898, q1899⟩ := SlF.len ((H.item (i := 2) rfl))
                      refine XL_pure rfl rfl rfl (fun w' => Do_as (Do_len u44 q1899) (congrArg (Value.int .i64) e1896)) ?_
                      refine XL_pure rfl rfl rfl (fun w' => Do_move (v := v1) rfl) ?_
                      refine XL_pure rfl rfl rfl (fun w' => Do_move (v := .int .i64 x26) rfl) ?_
                      obtain ⟨x1900, e1901, hF⟩ := bindO_some hF
                      obtain ⟨b1902, o1903, c1904, cs1905, q1906, h1909, h1907, h1908, h1910⟩ := rd_at (H.item (i := 0) rfl) e1901
                      obtain ⟨v1911, rfl, h1912⟩ := rFleetRow_open h1909
                      have H := H.fzs [.at b1902 (o1903 + x26.toNat * 4) _, .sl (Rp.int .i64) v1911 x1900.Events] ⟨⟨h1907, h1908, h1910⟩, h1912, trivial⟩
                      refine XL_pure rfl rfl rfl (fun w' => Do_idx u49 sz46 q1906 rfl (at_some e1901).1 (at_some e1901).2.1 rfl rfl) ?_
                      refine XL_pure rfl rfl rfl (fun w' => fa46_3 rfl) ?_
                      refine XL_read rfl rfl rfl (fun w' hw' => Do_load one44 rfl (Cells.get ((H.sees hw').item (i := 3) rfl).2.2 (i := 3) rfl)) ?_
                      obtain ⟨x1915, e1916, hF⟩ := letO_some hF
                      obtain ⟨a1917, c1918, q1919⟩ := SlF.len ((H.item (i := 4) rfl))
                      refine XL_pure rfl rfl rfl (fun w' => Do_as (Do_len u44 q1919) (congrArg (Value.int .i64) e1916)) ?_
                      obtain ⟨x1920, e1921, hF⟩ := letO_some hF
                      refine XL_pure rfl rfl rfl (fun w' => Do_as (Do_neq (a := x1895) (b := x1915) rfl rfl) (congrArg Value.bool e1921)) ?_
                      refine XL_pure rfl rfl rfl (fun w' => Do_pick_t (v := .bool x1920) rfl rfl) ?_
                      refine XL_pure rfl rfl rfl (fun w' => Do_assign (v := .bool x1920) rfl) ?_
                      refine XL_nil fun w1922 hS => ?_
                      have H := H.sees hS
                      have hR := Option.some.inj hF
                      subst hR
                      refine (thenQ_n (And.intro ?_ ?_))
                      · repeat' (first | with_reducible exact Fr_refl | refine Fr_upd rfl ?_ | refine Fr_over rfl rfl ?_)
                      · exact ⟨(), (Sl_cons rfl Sl_nil), H.pick [0] (by decide)⟩
                    · have hF := iteB_f c1894 hF
                      refine XL_offp rfl rfl rfl ?_
                      refine XL_offr rfl rfl rfl ?_
                      refine XL_offp rfl rfl rfl ?_
                      refine XL_offp rfl rfl rfl ?_
                      refine XL_offp rfl rfl rfl ?_
                      refine XL_offp rfl rfl rfl ?_
                      refine XL_offp rfl rfl rfl ?_
                      refine XL_offr rfl rfl rfl ?_
                      refine XL_offp rfl rfl rfl ?_
                      refine XL_offp rfl rfl rfl ?_
                      refine XL_pure rfl rfl rfl (fun w' => Do_pick_f (v := .bool false) rfl rfl) ?_
                      refine XL_pure rfl rfl rfl (fun w' => Do_assign (v := .bool false) rfl) ?_
                      refine XL_nil fun w1923 hS => ?_
                      have H := H.sees hS
                      have hR := Option.some.inj hF
                      subst hR
                      refine (thenQ_n (And.intro ?_ ?_))
                      · repeat' (first | with_reducible exact Fr_refl | refine Fr_upd rfl ?_ | refine Fr_over rfl rfl ?_)
                      · exact ⟨(), (Sl_cons rfl Sl_nil), H.pick [0] (by decide)⟩
                  · rintro _ ρ w1890 H
                    have hF := hK1891
                    refine WP_ifb (b := g1889) rfl (fun c1924 => ?_) (fun c1924 => ?_)
                    · have hF := iteB_t c1924 hF
                      refine WP_seq_k fun K1925 hK1925 => ?_
                      refine WP_region ?_
                      refine RL_do rfl rfl (Do_assign (v := .int .i64 2) rfl) ?_
                      refine (RL_nil (thenQ_n (hK1925 _ _ ?_)))
                      have hR := Option.some.inj hF
                      subst hR
                      refine (WP_ret (blockQ_r (blockQ_r (thenQ_r (thenQ_r (blockQ_r (thenQ_r (post1 (v1 := .int .i64 2) rfl rfl ?_))))))))
                      exact ⟨rfl, H.pick [] (by decide)⟩
                    · have hF := iteB_f c1924 hF
                      refine (WP_skip (blockQ_n (blockQ_n (thenQ_n (hK1774 _ _ ?_)))))
                      refine WP_region ?_
                      obtain ⟨x1926, e1927, hF⟩ := letO_some hF
                      refine RL_do rfl rfl (Do_add (a := g1610) (b := 1) rfl rfl e1927) ?_
                      refine RL_do rfl rfl (Do_move (v := .int .i64 x1926) rfl) ?_
                      refine (RL_nil (thenQ_n (And.intro ?_ ?_)))
                      · repeat' (first | with_reducible exact Fr_refl | refine Fr_upd rfl ?_ | refine Fr_over rfl rfl ?_)
                      · exact ⟨(n1616, x1926), (Sl_cons rfl Sl_nil), ⟨H.pick [0] (by decide), hF⟩, Nat.lt_succ_self _⟩
      · have hF := iteB_f c1622 hF
        refine (WP_exit (thenQ_x (thenQ_x (blockQ_eq (thenQ_n (And.intro ?_ ?_))))))
        · repeat' (first | with_reducible exact Fr_refl | refine Fr_upd rfl ?_ | refine Fr_over rfl rfl ?_)
        · exact ⟨(), Sl_nil, ⟨H.pick [] (by decide), hF⟩⟩
    · rintro _ ρ w978 ⟨H, hF⟩
      have hF := join_body ek980 hF
      refine WP_seq_k fun K1928 hK1928 => ?_
      refine WP_region ?_
      refine RL_do rfl rfl (Do_assign (v := .int .i64 0) rfl) ?_
      refine (RL_nil (thenQ_n (hK1928 _ _ ?_)))
      have hR := Option.some.inj hF
      subst hR
      refine (WP_ret (post1 (v1 := .int .i64 0) rfl rfl ?_))
      exact ⟨rfl, H.pick [] (by decide)⟩
end Go.Proofs.Ytbjhondbheijiaa
namespace Go.Proofs.Ytbjhondbheijiaa
open Go.RowKit Go.OB Go.Lf
/- orangebox/fleet.Total -/
set_option maxHeartbeats 4000000 in
theorem F_fleet_Total_w (p0 : List FleetRow) (v1 : Value) (r : FleetRow × Int) (hF : F_fleet_Total p0 = some r) (O S : List Nat) (w : World) (H : Hd O w w S [.fz (.sl rFleetRow v1 p0)]) :
    Calls Try.prog 14 ([v1] : List Value).toArray w fun e w' => ∃ u3, e = .returned (.tuple #[.agg [.string (bs r.1.Key), .bool r.1.Hidden, .int .i64 r.1.Flights, u3].toArray, .int .i64 r.2]) ∧ Hd O w w' S [.fz (.sl (Rp.int .i64) u3 r.1.Events)] := by
  unfold F_fleet_Total at hF
  refine calls_of_WP 57 Try.func14 rfl rfl rfl ?_
  refine WP_seq_k fun K4 hK4 => ?_
  refine WP_region ?_
  refine RL_ex rfl rfl (Lx_alloc zero46 H) ?_
  rintro _ w7 ⟨b5, rfl, H⟩
  refine RL_do rfl rfl (Do_assign (v := .int .i64 0) rfl) ?_
  refine (RL_nil (thenQ_n (hK4 _ _ ?_)))
  refine WP_seq_k fun K19 hK19 => ?_
  refine WP_seq_k fun K20 hK20 => ?_
  refine WP_region ?_
  refine RL_do rfl rfl (Do_move (v := v1) rfl) ?_
  obtain ⟨x21, e22, hF⟩ := bindO_some hF
  refine RL_call rfl rfl (DoC_func en24 rfl) (F_fleet_CheckTable_w p0 v1 _ e22 _ _ _ (H.enter [] [0] (by decide) rfl)) ?_
  rintro _ w23 ⟨rfl, G24⟩
  have H := H.back0 [0] rfl G24
  refine ⟨_, rfl, ?_⟩
  refine RL_do rfl rfl (Do_assign (v := .int .i64 x21) rfl) ?_
  refine (RL_nil (thenQ_n (hK20 _ _ ?_)))
  refine WP_seq_k fun K25 hK25 => ?_
  refine WP_region ?_
  refine RL_do rfl rfl (Do_move (v := .int .i64 x21) rfl) ?_
  obtain ⟨x26, e27, hF⟩ := letO_some hF
  refine RL_do rfl rfl (Do_as (Do_neq (a := x21) (b := 0) rfl rfl) (congrArg Value.bool e27)) ?_
  refine (RL_nil (thenQ_n (hK25 _ _ ?_)))
  refine WP_ifb (b := x26) rfl (fun c28 => ?_) (fun c28 => ?_)
  · have hF := iteB_t c28 hF
    refine WP_seq_k fun K29 hK29 => ?_
    refine WP_region ?_
    refine RL_do rfl rfl (Do_build (cs := [.string (bs []), .bool false, .int .i64 0, .slice none 0 0]) bz46) ?_
    refine RL_do rfl rfl (Do_move (v := .int .i64 x21) rfl) ?_
    refine RL_exU rfl (Lx_storeN (vs := [.string (bs []), .bool false, .int .i64 0, .slice none 0 0]) H 1 rfl sz46 rfl rfl rfl ⟨rfl, rfl, rfl, rfl, trivial⟩ rfl) ?_
    rintro w30 H
    refine RL_do rfl rfl (Do_assign (v := .int .i64 x21) rfl) ?_
    refine (RL_nil (thenQ_n (hK29 _ _ ?_)))
    have H := H.fz (.sl (Rp.int .i64) (.slice none 0 0) []) SlF.nil
    have hR := Option.some.inj hF
    subst hR
    refine (WP_ret (thenQ_r (postc1 (v1 := .int .i64 x21) rfl rfl (run_loadVar_agg agg46 sz46 rfl (Blk.cells (H.item (i := 1) rfl))) rfl ?_)))
    exact ⟨.slice none 0 0, rfl, H.pick [2] (by decide)⟩
  · have hF := iteB_f c28 hF
    refine (WP_skip (thenQ_n (hK19 _ _ ?_)))
    refine WP_seq_k fun K32 hK32 => ?_
    refine WP_region ?_
    refine RL_ex rfl rfl (Lx_alloc zero46 H) ?_
    rintro _ w35 ⟨b33, rfl, H⟩
    refine (RL_nil (thenQ_n (hK32 _ _ ?_)))
    obtain ⟨j2231, hF, hK2230⟩ := bindO_some hF
    refine WP_seqS [7, 8, 9, 16, 17, 18, 19, 20, 21, 22, 23, 24, 25, 26, 27, 28, 29, 30, 31, 32, 33, 34, 35, 36, 37, 38, 39, 40, 41, 42, 43, 44, 45, 46, 47, 48, 49, 50, 51, 52, 53, 54, 55] (fun (g : Value) => []) (fun g wl => Hd O w wl S [.blk b5 [.string (bs []), .bool false, .int .i64 0, .slice none 0 0] 46, .blk b33 [.string (bs []), .bool false, .int .i64 j2231.1, g] 46, .own (Rp.int .i64) g 3 j2231.2.1, .fz (.nl g j2231.2.2)]) ?_ ?_
    · skip
      refine WP_seq_k fun K2232 hK2232 => ?_
      refine WP_region ?_
      refine RL_do rfl rfl (Do_move (v := v1) rfl) ?_
      obtain ⟨x2233, e2234, hF⟩ := letO_some hF
      obtain ⟨a2235, c2236, q2237⟩ := SlF.len ((H.item (i := 0) rfl))
      refine RL_do rfl rfl (Do_as (Do_len u49 q2237) (congrArg (Value.int .i64) e2234)) ?_
      refine RL_do rfl rfl (Do_move (v := .int .i64 0) rfl) ?_
      refine (RL_nil (thenQ_n (hK2232 _ _ ?_)))
      refine WP_block ?_
      have H := own_nil H (Rp.int .i64) 3
      have H := H.fz (.nl (.slice none 0 0) true) rfl
      unfold F_fleet_Total_L1 at hF
      obtain ⟨B3684, n3685, eB3686, hF⟩ := loopO_some hF
      refine WP_loopS [7, 8, 9, 18, 19, 20, 21, 22, 23, 24, 25, 26, 27, 28, 29, 30, 31, 32, 33, 34, 35, 36, 37, 38, 39, 40, 41, 42, 43, 44, 45, 46, 47, 48, 49, 50, 51, 52, 53, 54, 55] (fun (g : Nat × Int × Int × (List Int) × Bool × Value) => [(18, .int .i64 g.2.1)]) (fun g wl => Hd O w wl S [.fz (.sl rFleetRow v1 p0), .blk b5 [.string (bs []), .bool false, .int .i64 0, .slice none 0 0] 46, .blk b33 [.string (bs []), .bool false, .int .i64 g.2.2.1, g.2.2.2.2.2] 46, .own (Rp.int .i64) g.2.2.2.2.2 3 g.2.2.2.1, .fz (.nl g.2.2.2.2.2 g.2.2.2.2.1)] ∧ loopN B3684 g.1 (g.2.1, g.2.2.1, g.2.2.2.1, g.2.2.2.2.1) = some j2231) (fun g => g.1) (n3685, 0, 0, [], true, .slice none 0 0) (Sl_cons rfl Sl_nil) ⟨H.pick [0, 1, 2, 3, 4] (by decide), hF⟩ ?_
      clear H hF
      rintro ⟨n3685, g3675, g3676, g3678, g3680, v3679⟩ ρ w3688 ⟨H, hF⟩
      obtain ⟨n3689, rfl, hF⟩ := loopN_pos hF
      have hF := loop_body eB3686 hF
      refine WP_seq_k fun K3690 hK3690 => ?_
      refine WP_region ?_
      obtain ⟨x3691, e3692, hF⟩ := letO_some hF
      refine RL_do rfl rfl (Do_as (Do_lss (a := g3675) (b := x2233) rfl rfl) (congrArg Value.bool e3692)) ?_
      refine (RL_nil (thenQ_n (hK3690 _ _ ?_)))
      refine WP_seq_k fun K3694 hK3694 => ?_
      refine WP_ifb (b := x3691) rfl (fun c3695 => ?_) (fun c3695 => ?_)
      · have hF := iteB_t c3695 hF
        refine (WP_skip (thenQ_n (hK3694 _ _ ?_)))
        obtain ⟨j4060, hF, hK4059⟩ := bindO_some hF
        refine WP_seqS [7, 8, 9, 20, 21, 22, 23, 24, 25, 26, 27, 28, 29, 30, 31, 32, 33, 34, 35, 36, 37, 38, 39, 40, 41, 42, 43, 44, 45, 46, 47, 48, 49, 50, 51, 52, 53, 54] (fun (g : Value) => []) (fun g wl => Hd O w wl S [.fz (.sl rFleetRow v1 p0), .blk b5 [.string (bs []), .bool false, .int .i64 0, .slice none 0 0] 46, .blk b33 [.string (bs []), .bool false, .int .i64 j4060.1, g] 46, .own (Rp.int .i64) g 3 j4060.2.1, .fz (.nl g j4060.2.2)]) ?_ ?_
        · skip
          refine WP_block ?_
          refine WP_seq_k fun K4061 hK4061 => ?_
          refine WP_region ?_
          obtain ⟨x4062, e4063, hF⟩ := bindO_some hF
          obtain ⟨b4064, o4065, c4066, cs4067, q4068, h4071, h4069, h4070, h4072⟩ := rd_at (H.item (i := 0) rfl) e4063
          obtain ⟨v4073, rfl, h4074⟩ := rFleetRow_open h4071
          have H := H.fzs [.at b4064 (o4065 + g3675.toNat * 4) _, .sl (Rp.int .i64) v4073 x4062.Events] ⟨⟨h4069, h4070, h4072⟩, h4074, trivial⟩
          refine RL_do rfl rfl (Do_idx u49 sz46 q4068 rfl (at_some e4063).1 (at_some e4063).2.1 rfl rfl) ?_
          refine RL_do rfl rfl (Do_as (Do_loads (cs := [.string (bs x4062.Key), .bool x4062.Hidden, .int .i64 x4062.Flights, v4073]) agg46 rfl sz46 rfl (H.item (i := 5) rfl).2.2) rfl) ?_
          refine RL_ex rfl rfl (Lx_alloc zero46 H) ?_
          rintro _ w4079 ⟨b4077, rfl, H⟩
          refine RL_exU rfl (Lx_storeN (vs := [.string (bs x4062.Key), .bool x4062.Hidden, .int .i64 x4062.Flights, v4073]) H 7 rfl sz46 rfl rfl rfl ⟨rfl, rfl, rfl, (slf_one (H.item (i := 6) rfl)), trivial⟩ rfl) ?_
          rintro w4080 H
          refine (RL_nil (thenQ_n (hK4061 _ _ ?_)))
          refine WP_seq_k fun K4083 hK4083 => ?_
          refine WP_seq_k fun K4084 hK4084 => ?_
          refine WP_region ?_
          refine RL_do rfl rfl (fa46_1 rfl) ?_
          refine RL_do rfl rfl (Do_load one4 rfl (Cells.get (Blk.cells (H.item (i := 7) rfl)) (i := 1) rfl)) ?_
          refine (RL_nil (thenQ_n (hK4084 _ _ ?_)))
          refine WP_ifb (b := x4062.Hidden) rfl (fun c4085 => ?_) (fun c4085 => ?_)
          · have hF := iteB_t c4085 hF
            have hR := Option.some.inj hF
            subst hR
            refine (WP_exit (thenQ_x (blockQ_eq (thenQ_n (And.intro ?_ ?_)))))
            · repeat' (first | with_reducible exact Fr_refl | refine Fr_upd rfl ?_ | refine Fr_over rfl rfl ?_)
            · exact ⟨v3679, Sl_nil, H.pick [0, 1, 2, 3, 4] (by decide)⟩
          · have hF := iteB_f c4085 hF
            refine (WP_skip (thenQ_n (hK4083 _ _ ?_)))
            obtain ⟨j4111, hF, hK4110⟩ := bindO_some hF
            refine WP_seqS [24, 25, 26, 27, 28, 29, 30, 31] (fun (g : Value) => []) (fun g wl => Hd O w wl S [.fz (.sl rFleetRow v1 p0), .blk b5 [.string (bs []), .bool false, .int .i64 0, .slice none 0 0] 46, .blk b33 [.string (bs []), .bool false, .int .i64 g3676, g] 46, .own (Rp.int .i64) g 3 j4111.1, .fz (.nl g j4111.2), .blk b4077 [.string (bs x4062.Key), .bool x4062.Hidden, .int .i64 x4062.Flights, v4073] 46, .fz (.sl (Rp.int .i64) v4073 x4062.Events)]) ?_ ?_
            · skip
              refine WP_seq_k fun K4112 hK4112 => ?_
              refine WP_region ?_
              refine RL_do rfl rfl (fa46_3 rfl) ?_
              refine RL_do rfl rfl (Do_load one44 rfl (Cells.get (Blk.cells (H.item (i := 2) rfl)) (i := 3) rfl)) ?_
              refine RL_do rfl rfl (Do_eqlnl u44 (own_sl (H.item (i := 3) rfl)) rfl rfl (H.item (i := 4) rfl)) ?_
              refine (RL_nil (thenQ_n (hK4112 _ _ ?_)))
              refine WP_ifb (b := g3680) rfl (fun c4116 => ?_) (fun c4116 => ?_)
              · have hF := iteB_t c4116 hF
                refine WP_region ?_
                refine RL_do rfl rfl (fa46_3 rfl) ?_
                refine RL_do rfl rfl (Do_load one44 rfl (Cells.get (Blk.cells (H.item (i := 7) rfl)) (i := 3) rfl)) ?_
                obtain ⟨x4117, e4118, hF⟩ := letO_some hF
                obtain ⟨a4119, c4120, q4121⟩ := SlF.len ((H.item (i := 6) rfl))
                refine RL_do rfl rfl (Do_as (Do_len u44 q4121) (congrArg (Value.int .i64) e4118)) ?_
                obtain ⟨x4122, e4123, hF⟩ := bindO_some hF
                refine RL_ex rfl rfl (Lx_makeN (r := (Rp.int .i64)) (zv := .int .i64 0) u44 el3 rfl (fun _ _ => rfl) rfl rfl e4123 H) ?_
                rintro v4125 w4127 ⟨H, h4126⟩
                have H := H.fz (.nl v4125 false) h4126
                refine RL_do rfl rfl (fa46_3 rfl) ?_
                refine RL_exU rfl (Lx_store1 H 2 rfl sz44 rfl (v := v4125) rfl (own_one (H.item (i := 8) rfl)) rfl) ?_
                rintro w4129 H
                have hR := Option.some.inj hF
                subst hR
                refine (RL_nil (thenQ_n (And.intro ?_ ?_)))
                · repeat' (first | with_reducible exact Fr_refl | refine Fr_upd rfl ?_ | refine Fr_over rfl rfl ?_)
                · exact ⟨v4125, Sl_nil, H.pick [0, 1, 2, 8, 9, 7, 6] (by decide)⟩
              · have hF := iteB_f c4116 hF
                have hR := Option.some.inj hF
                subst hR
                refine (WP_skip (thenQ_n (And.intro ?_ ?_)))
                · repeat' (first | with_reducible exact Fr_refl | refine Fr_upd rfl ?_ | refine Fr_over rfl rfl ?_)
                · exact ⟨v3679, Sl_nil, H.pick [0, 1, 2, 3, 4, 7, 6] (by decide)⟩
            · rintro v4106 ρ w4109 H
              have hF := hK4110
              obtain ⟨g4105, g4107⟩ := j4111
              refine WP_seq_k fun K4130 hK4130 => ?_
              refine WP_region ?_
              refine RL_do rfl rfl (fa46_2 rfl) ?_
              refine RL_do rfl rfl (Do_load one3 rfl (Cells.get (Blk.cells (H.item (i := 2) rfl)) (i := 2) rfl)) ?_
              refine RL_do rfl rfl (fa46_2 rfl) ?_
              refine RL_do rfl rfl (Do_load one3 rfl (Cells.get (Blk.cells (H.item (i := 5) rfl)) (i := 2) rfl)) ?_
              obtain ⟨x4131, e4132, hF⟩ := letO_some hF
              refine RL_do rfl rfl (Do_add (a := g3676) (b := x4062.Flights) rfl rfl e4132) ?_
              refine RL_do rfl rfl (fa46_2 rfl) ?_
              refine RL_exU rfl (Lx_store1 H 2 rfl sz3 rfl (v := .int .i64 x4131) rfl rfl rfl) ?_
              rintro w4133 H
              refine (RL_nil (thenQ_n (hK4130 _ _ ?_)))
              refine WP_seq_k fun K4134 hK4134 => ?_
              refine WP_region ?_
              refine RL_do rfl rfl (fa46_3 rfl) ?_
              refine RL_do rfl rfl (Do_load one44 rfl (Cells.get (Blk.cells (H.item (i := 5) rfl)) (i := 3) rfl)) ?_
              obtain ⟨x4135, e4136, hF⟩ := letO_some hF
              obtain ⟨a4137, c4138, q4139⟩ := SlF.len ((H.item (i := 6) rfl))
              refine RL_do rfl rfl (Do_as (Do_len u44 q4139) (congrArg (Value.int .i64) e4136)) ?_
              refine RL_do rfl rfl (Do_move (v := .int .i64 0) rfl) ?_
              refine (RL_nil (thenQ_n (hK4134 _ _ ?_)))
              refine WP_block ?_
              unfold F_fleet_Total_L2 at hF
              obtain ⟨B4322, n4323, eB4324, hF⟩ := loopO_some hF
              refine WP_loopS [8, 9, 41, 42, 43, 44, 45, 46, 47, 48, 49, 50, 51, 52, 53, 54] (fun (g : Nat × Int × (List Int)) => [(41, .int .i64 g.2.1)]) (fun g wl => Hd O w wl S [.fz (.sl rFleetRow v1 p0), .blk b5 [.string (bs []), .bool false, .int .i64 0, .slice none 0 0] 46, .blk b33 [.string (bs []), .bool false, .int .i64 x4131, v4106] 46, .own (Rp.int .i64) v4106 3 g.2.2, .fz (.nl v4106 g4107), .fz (.sl (Rp.int .i64) v4073 x4062.Events)] ∧ loopN B4322 g.1 (g.2.1, g.2.2) = some j4060) (fun g => g.1) (n4323, 0, g4105) (Sl_cons rfl Sl_nil) ⟨H.pick [0, 1, 2, 3, 4, 6] (by decide), hF⟩ ?_
              clear H hF
              rintro ⟨n4323, g4320, g4321⟩ ρ w4326 ⟨H, hF⟩
              obtain ⟨n4327, rfl, hF⟩ := loopN_pos hF
              have hF := loop_body eB4324 hF
              refine WP_seq_k fun K4328 hK4328 => ?_
              refine WP_region ?_
              obtain ⟨x4329, e4330, hF⟩ := letO_some hF
              refine RL_do rfl rfl (Do_as (Do_lss (a := g4320) (b := x4135) rfl rfl) (congrArg Value.bool e4330)) ?_
              refine (RL_nil (thenQ_n (hK4328 _ _ ?_)))
              refine WP_seq_k fun K4332 hK4332 => ?_
              refine WP_ifb (b := x4329) rfl (fun c4333 => ?_) (fun c4333 => ?_)
              · have hF := iteB_t c4333 hF
                refine (WP_skip (thenQ_n (hK4332 _ _ ?_)))
                refine WP_seq_k fun K4374 hK4374 => ?_
                refine WP_block ?_
                refine WP_seq_k fun K4375 hK4375 => ?_
                refine WP_region ?_
                refine RL_do rfl rfl (Do_move (v := .int .i64 g4320) rfl) ?_
                obtain ⟨x4376, e4377, hF⟩ := bindO_some hF
                obtain ⟨b4378, o4379, c4380, cs4381, q4382, h4385, h4383, h4384, h4386⟩ := rd_at (H.item (i := 5) rfl) e4377
                obtain rfl : cs4381 = [.int .i64 x4376] := h4385
                have H := H.fz (.at b4378 (o4379 + g4320.toNat * 1) _) ⟨h4383, h4384, h4386⟩
                refine RL_do rfl rfl (Do_idx u44 sz3 q4382 rfl (at_some e4377).1 (at_some e4377).2.1 rfl rfl) ?_
                refine RL_do rfl rfl (Do_load one3 rfl (Cells.get (H.item (i := 6) rfl).2.2 (i := 0) rfl)) ?_
                refine RL_do rfl rfl (Do_assign (v := .int .i64 g4320) rfl) ?_
                refine RL_do rfl rfl (Do_assign (v := .int .i64 x4376) rfl) ?_
                refine (RL_nil (thenQ_n (hK4375 _ _ ?_)))
                refine WP_region ?_
                refine RL_do rfl rfl (fa46_3 rfl) ?_
                refine RL_do rfl rfl (Do_load one44 rfl (Cells.get (Blk.cells (H.item (i := 2) rfl)) (i := 3) rfl)) ?_
                refine RL_do rfl rfl (Do_move (v := .int .i64 g4320) rfl) ?_
                obtain ⟨x4388, e4389, hF⟩ := bindO_some hF
                obtain ⟨b4390, c4392, cs4393, q4394, h4397, h4398⟩ := own_at (H.item (i := 3) rfl) e4389
                obtain rfl : cs4393 = [.int .i64 x4388] := h4397
                refine RL_do rfl rfl (Do_idx u44 sz3 q4394 rfl (at_some e4389).1 (at_some e4389).2.1 rfl rfl) ?_
                refine RL_do rfl rfl (Do_load one3 rfl (Cells.get h4398 (i := 0) rfl)) ?_
                refine RL_do rfl rfl (Do_move (v := .int .i64 x4376) rfl) ?_
                obtain ⟨x4399, e4400, hF⟩ := letO_some hF
                refine RL_do rfl rfl (Do_add (a := x4388) (b := x4376) rfl rfl e4400) ?_
                obtain ⟨x4401, e4402, hF⟩ := bindO_some hF
                obtain ⟨b4403, c4405, cs4406, q4407, h4410, h4411⟩ := own_at (H.item (i := 3) rfl) e4402
                obtain rfl : cs4406 = [.int .i64 x4401] := h4410
                refine RL_do rfl rfl (Do_idx u44 sz3 q4407 rfl (at_some e4402).1 (at_some e4402).2.1 rfl rfl) ?_
                obtain ⟨x4412, e4413, hF⟩ := bindO_some hF
                refine RL_exU rfl (Lx_own_store (vs := [.int .i64 x4399]) (off := 0) H 3 rfl q4407 h4411 rfl sz3 rfl rfl rfl (allone_mem ⟨rfl, trivial⟩) e4413 (by decide) rfl rfl) ?_
                rintro w4414 H
                refine (RL_nil (blockQ_n (thenQ_n (hK4374 _ _ ?_))))
                refine WP_region ?_
                obtain ⟨x4415, e4416, hF⟩ := letO_some hF
                refine RL_do rfl rfl (Do_add (a := g4320) (b := 1) rfl rfl e4416) ?_
                refine RL_do rfl rfl (Do_move (v := .int .i64 x4415) rfl) ?_
                refine (RL_nil (thenQ_n (And.intro ?_ ?_)))
                · repeat' (first | with_reducible exact Fr_refl | refine Fr_upd rfl ?_ | refine Fr_over rfl rfl ?_)
                · exact ⟨(n4327, x4415, x4412), (Sl_cons rfl Sl_nil), ⟨H.pick [0, 1, 2, 3, 4, 5] (by decide), hF⟩, Nat.lt_succ_self _⟩
              · have hF := iteB_f c4333 hF
                have hR := Option.some.inj hF
                subst hR
                refine (WP_exit (thenQ_x (thenQ_x (blockQ_eq (blockQ_n (thenQ_n (And.intro ?_ ?_)))))))
                · repeat' (first | with_reducible exact Fr_refl | refine Fr_upd rfl ?_ | refine Fr_over rfl rfl ?_)
                · exact ⟨v4106, Sl_nil, H.pick [0, 1, 2, 3, 4] (by decide)⟩
        · rintro v4055 ρ w4058 H
          have hF := hK4059
          obtain ⟨g4052, g4054, g4056⟩ := j4060
          refine WP_region ?_
          obtain ⟨x4417, e4418, hF⟩ := letO_some hF
          refine RL_do rfl rfl (Do_add (a := g3675) (b := 1) rfl rfl e4418) ?_
          refine RL_do rfl rfl (Do_move (v := .int .i64 x4417) rfl) ?_
          refine (RL_nil (thenQ_n (And.intro ?_ ?_)))
          · repeat' (first | with_reducible exact Fr_refl | refine Fr_upd rfl ?_ | refine Fr_over rfl rfl ?_)
          · exact ⟨(n3689, x4417, g4052, g4054, g4056, v4055), (Sl_cons rfl Sl_nil), ⟨H.pick [0, 1, 2, 3, 4] (by decide), hF⟩, Nat.lt_succ_self _⟩
      · have hF := iteB_f c3695 hF
        have hR := Option.some.inj hF
        subst hR
        refine (WP_exit (thenQ_x (thenQ_x (blockQ_eq (thenQ_n (And.intro ?_ ?_))))))
        · repeat' (first | with_reducible exact Fr_refl | refine Fr_upd rfl ?_ | refine Fr_over rfl rfl ?_)
        · exact ⟨v3679, Sl_nil, H.pick [1, 2, 3, 4] (by decide)⟩
    · rintro v2226 ρ w2229 H
      have hF := hK2230
      obtain ⟨g2223, g2225, g2227⟩ := j2231
      refine WP_seq_k fun K4419 hK4419 => ?_
      refine WP_region ?_
      refine RL_do rfl rfl (Do_as (Do_loads (cs := [.string (bs []), .bool false, .int .i64 g2223, v2226]) agg46 rfl sz46 rfl (Blk.cells (H.item (i := 1) rfl))) rfl) ?_
      refine RL_exU rfl (Lx_storeN (vs := [.string (bs []), .bool false, .int .i64 g2223, v2226]) H 0 rfl sz46 rfl rfl rfl ⟨rfl, rfl, rfl, (own_one (H.item (i := 2) rfl)), trivial⟩ rfl) ?_
      rintro w4420 H
      refine RL_do rfl rfl (Do_assign (v := .int .i64 0) rfl) ?_
      refine (RL_nil (thenQ_n (hK4419 _ _ ?_)))
      have H := H.freeze (i := 2) rfl
      have hR := Option.some.inj hF
      subst hR
      refine (WP_ret (postc1 (v1 := .int .i64 0) rfl rfl (run_loadVar_agg agg46 sz46 rfl (Blk.cells (H.item (i := 0) rfl))) rfl ?_))
      exact ⟨v2226, rfl, H.pick [2] (by decide)⟩
end Go.Proofs.Ytbjhondbheijiaa
namespace Go.Proofs.Ytbjhondbheijiaa
open Go.RowKit Go.OB Go.Lf
/- orangebox/orangeboxlaw9.totals -/
set_option maxHeartbeats 4000000 in
theorem F_law9_totals_w (r : Bool) (hF : F_law9_totals = some r) (O S : List Nat) (w : World) (H : Hd O w w S []) :
    Calls Try.prog 6 ([] : List Value).toArray w fun e w' => e = .returned (.bool r) ∧ Hd O w w' S [] := by
  unfold F_law9_totals at hF
  refine calls_of_WP 32 Try.func6 rfl rfl rfl ?_
  refine WP_seq_k fun K1 hK1 => ?_
  refine WP_region ?_
  refine RL_do rfl rfl (Do_assign (v := .bool false) rfl) ?_
  refine (RL_nil (thenQ_n (hK1 _ _ ?_)))
  refine WP_seq_k fun K2 hK2 => ?_
  refine WP_region ?_
  obtain ⟨x3, e4, hF⟩ := letO_some hF
  subst e4
  refine RL_ex rfl rfl (Lx_bs (r := (Rp.int .i64)) (xl := [1]) (cs := [.int .i64 1]) u44 el3 (by decide) (by decide) rfl (fillB_parts (vs := [.int .i64 1]) (by decide) rfl rfl ⟨rfl, trivial⟩ rfl) H ⟨[.int .i64 1], [], rfl, rfl, rfl⟩) ?_
  rintro v6 w7 H
  obtain ⟨a8, c9, q10⟩ := Sr.len (Sr.of_own (H.item (i := 0) rfl))
  refine RL_do rfl rfl (Do_build (cs := [.string (bs [97]), .bool false, .int .i64 2, v6]) (by rw [q10]; exact bt46_0_2_3 _ _ a8 _ c9)) ?_
  obtain ⟨x11, e12, hF⟩ := letO_some hF
  subst e12
  refine RL_ex rfl rfl (Lx_bs (r := (Rp.int .i64)) (xl := [4]) (cs := [.int .i64 4]) u44 el3 (by decide) (by decide) rfl (fillB_parts (vs := [.int .i64 4]) (by decide) rfl rfl ⟨rfl, trivial⟩ rfl) H ⟨[.int .i64 4], [], rfl, rfl, rfl⟩) ?_
  rintro v14 w15 H
  obtain ⟨a16, c17, q18⟩ := Sr.len (Sr.of_own (H.item (i := 1) rfl))
  refine RL_do rfl rfl (Do_build (cs := [.string (bs [98]), .bool false, .int .i64 3, v14]) (by rw [q18]; exact bt46_0_2_3 _ _ a16 _ c17)) ?_
  have H := H.freeze (i := 0) rfl
  have H := H.freeze (i := 1) rfl
  obtain ⟨x19, e20, hF⟩ := letO_some hF
  subst e20
  refine RL_ex rfl rfl (Lx_bs (r := rFleetRow) (xl := [FleetRow.mk [97] false 2 ([1] : List Int), FleetRow.mk [98] false 3 ([4] : List Int)]) (cs := [.string (bs [97]), .bool false, .int .i64 2, v6, .string (bs [98]), .bool false, .int .i64 3, v14]) u49 el46 (by decide) (by decide) rfl (fillB_parts (vs := [.agg [.string (bs [97]), .bool false, .int .i64 2, v6].toArray, .agg [.string (bs [98]), .bool false, .int .i64 3, v14].toArray]) (by decide) rfl rfl ⟨rfl, rfl, trivial⟩ rfl) H ⟨[.string (bs [97]), .bool false, .int .i64 2, v6], [.string (bs [98]), .bool false, .int .i64 3, v14], rfl, (rFleetRow_mk (x := FleetRow.mk [97] false 2 ([1] : List Int)) (H.item (i := 0) rfl)), ⟨[.string (bs [98]), .bool false, .int .i64 3, v14], [], rfl, (rFleetRow_mk (x := FleetRow.mk [98] false 3 ([4] : List Int)) (H.item (i := 1) rfl)), rfl⟩⟩) ?_
  rintro v22 w23 H
  have H := H.freeze (i := 2) rfl
  obtain ⟨⟨x24, x25⟩, e26, hF⟩ := bindO_some hF
  refine RL_call rfl rfl (DoC_func en14 rfl) (F_fleet_Total_w ([FleetRow.mk [97] false 2 ([1] : List Int), FleetRow.mk [98] false 3 ([4] : List Int)] : List FleetRow) v22 _ e26 _ _ _ (H.enter [] [2] (by decide) rfl)) ?_
  rintro _ w29 ⟨v27, rfl, G30⟩
  have H := H.back1 [2] rfl G30
  refine ⟨_, rfl, ?_⟩
  refine RL_do rfl rfl (Do_move (v := .tuple #[.agg [.string (bs x24.Key), .bool x24.Hidden, .int .i64 x24.Flights, v27].toArray, .int .i64 x25]) rfl) ?_
  refine RL_do rfl rfl (Do_extract (v := .agg [.string (bs x24.Key), .bool x24.Hidden, .int .i64 x24.Flights, v27].toArray) rfl rfl) ?_
  refine RL_do rfl rfl (Do_extract (v := .int .i64 x25) rfl rfl) ?_
  refine RL_ex rfl rfl (Lx_alloc zero46 H) ?_
  rintro _ w33 ⟨b31, rfl, H⟩
  refine RL_exU rfl (Lx_storeN (vs := [.string (bs x24.Key), .bool x24.Hidden, .int .i64 x24.Flights, v27]) H 4 rfl sz46 rfl rfl rfl ⟨rfl, rfl, rfl, (slf_one (H.item (i := 3) rfl)), trivial⟩ rfl) ?_
  rintro w34 H
  refine RL_do rfl rfl (Do_assign (v := .int .i64 x25) rfl) ?_
  refine (RL_nil (thenQ_n (hK2 _ _ ?_)))
  obtain ⟨g63, hF, hK65⟩ := bindO_some hF
  refine WP_seqS [0, 12, 13, 14, 15, 16, 17, 18, 19, 20, 21, 22, 23, 24, 25, 26, 27, 28, 29, 30, 31] (fun (g : Unit) => [(0, .bool g63)]) (fun g wl => Hd O w wl S []) ?_ ?_
  · skip
    refine WP_region ?_
    refine RL_do rfl rfl (Do_move (v := .int .i64 x25) rfl) ?_
    obtain ⟨x66, e67, hF⟩ := letO_some hF
    refine RL_do rfl rfl (Do_as (Do_eql (a := x25) (b := 0) rfl rfl) (congrArg Value.bool e67)) ?_
    refine RL_splitb (b := x66) rfl rfl rfl (fun c68 => ?_) (fun c68 => ?_)
    · have hF := iteB_t c68 hF
      refine RL_do rfl rfl (fa46_2 rfl) ?_
      refine RL_do rfl rfl (Do_load one3 rfl (Cells.get (Blk.cells (H.item (i := 4) rfl)) (i := 2) rfl)) ?_
      obtain ⟨x69, e70, hF⟩ := letO_some hF
      refine RL_do rfl rfl (Do_as (Do_eql (a := x24.Flights) (b := 5) rfl rfl) (congrArg Value.bool e70)) ?_
      refine RL_do rfl rfl (Do_pick_t (v := .bool x69) rfl rfl) ?_
      refine RL_splitb (b := x69) rfl rfl rfl (fun c71 => ?_) (fun c71 => ?_)
      · have hF := iteB_t c71 hF
        refine RL_do rfl rfl (fa46_3 rfl) ?_
        refine RL_do rfl rfl (Do_load one44 rfl (Cells.get (Blk.cells (H.item (i := 4) rfl)) (i := 3) rfl)) ?_
        obtain ⟨x72, e73, hF⟩ := letO_some hF
        obtain ⟨a74, c75, q76⟩ := SlF.len ((H.item (i := 3) rfl))
        refine RL_do rfl rfl (Do_as (Do_len u44 q76) (congrArg (Value.int .i64) e73)) ?_
        obtain ⟨x77, e78, hF⟩ := letO_some hF
        refine RL_do rfl rfl (Do_as (Do_eql (a := x72) (b := 1) rfl rfl) (congrArg Value.bool e78)) ?_
        refine RL_do rfl rfl (Do_pick_t (v := .bool x77) rfl rfl) ?_
        refine RL_splitb (b := x77) rfl rfl rfl (fun c79 => ?_) (fun c79 => ?_)
        · have hF := iteB_t c79 hF
          refine RL_do rfl rfl (fa46_3 rfl) ?_
          refine RL_do rfl rfl (Do_load one44 rfl (Cells.get (Blk.cells (H.item (i := 4) rfl)) (i := 3) rfl)) ?_
          obtain ⟨x80, e81, hF⟩ := bindO_some hF
          obtain ⟨b82, o83, c84, cs85, q86, h89, h87, h88, h90⟩ := rd_at (H.item (i := 3) rfl) e81
          obtain rfl : cs85 = [.int .i64 x80] := h89
          have H := H.fz (.at b82 (o83 + (0 : Int).toNat * 1) _) ⟨h87, h88, h90⟩
          refine RL_do rfl rfl (Do_idx u44 sz3 q86 rfl (at_some e81).1 (at_some e81).2.1 rfl rfl) ?_
          refine RL_do rfl rfl (Do_load one3 rfl (Cells.get (H.item (i := 5) rfl).2.2 (i := 0) rfl)) ?_
          obtain ⟨x92, e93, hF⟩ := letO_some hF
          refine RL_do rfl rfl (Do_as (Do_eql (a := x80) (b := 5) rfl rfl) (congrArg Value.bool e93)) ?_
          refine RL_do rfl rfl (Do_pick_t (v := .bool x92) rfl rfl) ?_
          refine RL_do rfl rfl (Do_assign (v := .bool x92) rfl) ?_
          have hR := Option.some.inj hF
          subst hR
          refine (RL_nil (thenQ_n (And.intro ?_ ?_)))
          · repeat' (first | with_reducible exact Fr_refl | refine Fr_upd rfl ?_ | refine Fr_over rfl rfl ?_)
          · exact ⟨(), (Sl_cons rfl Sl_nil), H.pick [] (by decide)⟩
        · have hF := iteB_f c79 hF
          refine RL_off rfl rfl ?_
          refine RL_off rfl rfl ?_
          refine RL_off rfl rfl ?_
          refine RL_off rfl rfl ?_
          refine RL_off rfl rfl ?_
          refine RL_do rfl rfl (Do_pick_f (v := .bool false) rfl rfl) ?_
          refine RL_do rfl rfl (Do_assign (v := .bool false) rfl) ?_
          have hR := Option.some.inj hF
          subst hR
          refine (RL_nil (thenQ_n (And.intro ?_ ?_)))
          · repeat' (first | with_reducible exact Fr_refl | refine Fr_upd rfl ?_ | refine Fr_over rfl rfl ?_)
          · exact ⟨(), (Sl_cons rfl Sl_nil), H.pick [] (by decide)⟩
      · have hF := iteB_f c71 hF
        refine RL_off rfl rfl ?_
        refine RL_off rfl rfl ?_
        refine RL_off rfl rfl ?_
        refine RL_off rfl rfl ?_
        refine RL_do rfl rfl (Do_pick_f (v := .bool false) rfl rfl) ?_
        refine RL_do rfl rfl (Do_move (v := .bool false) rfl) ?_
        refine RL_off rfl rfl ?_
        refine RL_off rfl rfl ?_
        refine RL_off rfl rfl ?_
        refine RL_off rfl rfl ?_
        refine RL_off rfl rfl ?_
        refine RL_do rfl rfl (Do_pick_f (v := .bool false) rfl rfl) ?_
        refine RL_do rfl rfl (Do_assign (v := .bool false) rfl) ?_
        have hR := Option.some.inj hF
        subst hR
        refine (RL_nil (thenQ_n (And.intro ?_ ?_)))
        · repeat' (first | with_reducible exact Fr_refl | refine Fr_upd rfl ?_ | refine Fr_over rfl rfl ?_)
        · exact ⟨(), (Sl_cons rfl Sl_nil), H.pick [] (by decide)⟩
    · have hF := iteB_f c68 hF
      refine RL_off rfl rfl ?_
      refine RL_off rfl rfl ?_
      refine RL_off rfl rfl ?_
      refine RL_do rfl rfl (Do_pick_f (v := .bool false) rfl rfl) ?_
      refine RL_do rfl rfl (Do_move (v := .bool false) rfl) ?_
      refine RL_off rfl rfl ?_
      refine RL_off rfl rfl ?_
      refine RL_off rfl rfl ?_
      refine RL_off rfl rfl ?_
      refine RL_do rfl rfl (Do_pick_f (v := .bool false) rfl rfl) ?_
      refine RL_do rfl rfl (Do_move (v := .bool false) rfl) ?_
      refine RL_off rfl rfl ?_
      refine RL_off rfl rfl ?_
      refine RL_off rfl rfl ?_
      refine RL_off rfl rfl ?_
      refine RL_off rfl rfl ?_
      refine RL_do rfl rfl (Do_pick_f (v := .bool false) rfl rfl) ?_
      refine RL_do rfl rfl (Do_assign (v := .bool false) rfl) ?_
      have hR := Option.some.inj hF
      subst hR
      refine (RL_nil (thenQ_n (And.intro ?_ ?_)))
      · repeat' (first | with_reducible exact Fr_refl | refine Fr_upd rfl ?_ | refine Fr_over rfl rfl ?_)
      · exact ⟨(), (Sl_cons rfl Sl_nil), H.pick [] (by decide)⟩
  · rintro _ ρ w64 H
    have hF := hK65
    have hR := Option.some.inj hF
    subst hR
    refine (WP_ret (post1 (v1 := .bool g63) rfl rfl ?_))
    exact ⟨rfl, H.pick [] (by decide)⟩
end Go.Proofs.Ytbjhondbheijiaa
namespace Go.Proofs.Ytbjhondbheijiaa
open Go.RowKit Go.OB Go.Lf
/- slices.Index[[]string,string] -/
set_option maxHeartbeats 4000000 in
theorem F_slices_Index___string_string__w (p0 : List Str) (p1 : Str) (v1 : Value) (r : Int) (hF : F_slices_Index___string_string_ p0 p1 = some r) (O S : List Nat) (w : World) (H : Hd O w w S [.fz (.sl Rp.str v1 p0)]) :
    Calls Try.prog 47 ([v1, .string (bs p1)] : List Value).toArray w fun e w' => e = .returned (.int .i64 r) ∧ Hd O w w' S [] := by
  unfold F_slices_Index___string_string_ at hF
  refine calls_of_WP 19 Try.func47 rfl rfl rfl ?_
  refine WP_seq_k fun K3 hK3 => ?_
  refine WP_region ?_
  refine RL_do rfl rfl (Do_assign (v := .int .i64 0) rfl) ?_
  refine (RL_nil (thenQ_n (hK3 _ _ ?_)))
  obtain ⟨k154, ek155, hF⟩ := joinO_some hF
  refine WP_seqS [4, 5, 6, 7, 8, 9, 10, 11, 12, 13, 14, 15, 16, 17, 18] (fun (g : Unit) => []) (fun g wl => Hd O w wl S [] ∧ k154 () = some r) ?_ ?_
  · skip
    refine WP_seq_k fun K156 hK156 => ?_
    refine WP_region ?_
    refine RL_do rfl rfl (Do_move (v := v1) rfl) ?_
    obtain ⟨x157, e158, hF⟩ := letO_some hF
    obtain ⟨a159, c160, q161⟩ := SlF.len ((H.item (i := 0) rfl))
    refine RL_do rfl rfl (Do_as (Do_len u32 q161) (congrArg (Value.int .i64) e158)) ?_
    refine RL_do rfl rfl (Do_move (v := .int .i64 0) rfl) ?_
    refine (RL_nil (thenQ_n (hK156 _ _ ?_)))
    refine WP_block ?_
    unfold F_slices_Index___string_string__L1 at hF
    obtain ⟨B254, n255, eB256, hF⟩ := loopO_some hF
    refine WP_loopS [4, 5, 8, 9, 10, 11, 12, 13, 14, 15, 16, 17, 18] (fun (g : Nat × Int) => [(8, .int .i64 g.2)]) (fun g wl => Hd O w wl S [.fz (.sl Rp.str v1 p0)] ∧ loopN B254 g.1 g.2 = some r) (fun g => g.1) (n255, 0) (Sl_cons rfl Sl_nil) ⟨H.pick [0] (by decide), hF⟩ ?_
    clear H hF
    rintro ⟨n255, g253⟩ ρ w258 ⟨H, hF⟩
    obtain ⟨n259, rfl, hF⟩ := loopN_pos hF
    have hF := loop_body eB256 hF
    refine WP_seq_k fun K260 hK260 => ?_
    refine WP_region ?_
    obtain ⟨x261, e262, hF⟩ := letO_some hF
    refine RL_do rfl rfl (Do_as (Do_lss (a := g253) (b := x157) rfl rfl) (congrArg Value.bool e262)) ?_
    refine (RL_nil (thenQ_n (hK260 _ _ ?_)))
    refine WP_seq_k fun K264 hK264 => ?_
    refine WP_ifb (b := x261) rfl (fun c265 => ?_) (fun c265 => ?_)
    · have hF := iteB_t c265 hF
      refine (WP_skip (thenQ_n (hK264 _ _ ?_)))
      refine WP_seq_k fun K284 hK284 => ?_
      refine WP_block ?_
      refine WP_seq_k fun K285 hK285 => ?_
      refine WP_region ?_
      refine RL_do rfl rfl (Do_move (v := .int .i64 g253) rfl) ?_
      refine RL_do rfl rfl (Do_assign (v := .int .i64 g253) rfl) ?_
      refine (RL_nil (thenQ_n (hK285 _ _ ?_)))
      refine WP_seq_k fun K286 hK286 => ?_
      refine WP_region ?_
      refine RL_do rfl rfl (Do_move (v := .string (bs p1)) rfl) ?_
      refine RL_do rfl rfl (Do_move (v := v1) rfl) ?_
      refine RL_do rfl rfl (Do_move (v := .int .i64 g253) rfl) ?_
      obtain ⟨x287, e288, hF⟩ := bindO_some hF
      obtain ⟨b289, o290, c291, cs292, q293, h296, h294, h295, h297⟩ := rd_at (H.item (i := 0) rfl) e288
      obtain rfl : cs292 = [.string (bs x287)] := h296
      have H := H.fz (.at b289 (o290 + g253.toNat * 1) _) ⟨h294, h295, h297⟩
      refine RL_do rfl rfl (Do_idx u32 sz9 q293 rfl (at_some e288).1 (at_some e288).2.1 rfl rfl) ?_
      refine RL_do rfl rfl (Do_load one9 rfl (Cells.get (H.item (i := 1) rfl).2.2 (i := 0) rfl)) ?_
      obtain ⟨x299, e300, hF⟩ := letO_some hF
      refine RL_do rfl rfl (Do_as (Do_eqls (s1 := p1) (s2 := x287) rfl rfl) (congrArg Value.bool e300)) ?_
      refine (RL_nil (thenQ_n (hK286 _ _ ?_)))
      refine WP_ifb (b := x299) rfl (fun c301 => ?_) (fun c301 => ?_)
      · have hF := iteB_t c301 hF
        refine WP_seq_k fun K302 hK302 => ?_
        refine WP_region ?_
        refine RL_do rfl rfl (Do_move (v := .int .i64 g253) rfl) ?_
        refine RL_do rfl rfl (Do_assign (v := .int .i64 g253) rfl) ?_
        refine (RL_nil (thenQ_n (hK302 _ _ ?_)))
        have hR := Option.some.inj hF
        subst hR
        refine (WP_ret (blockQ_r (thenQ_r (thenQ_r (blockQ_r (thenQ_r (post1 (v1 := .int .i64 g253) rfl rfl ?_)))))))
        exact ⟨rfl, H.pick [] (by decide)⟩
      · have hF := iteB_f c301 hF
        refine (WP_skip (blockQ_n (thenQ_n (hK284 _ _ ?_))))
        refine WP_region ?_
        obtain ⟨x303, e304, hF⟩ := letO_some hF
        refine RL_do rfl rfl (Do_add (a := g253) (b := 1) rfl rfl e304) ?_
        refine RL_do rfl rfl (Do_move (v := .int .i64 x303) rfl) ?_
        refine (RL_nil (thenQ_n (And.intro ?_ ?_)))
        · repeat' (first | with_reducible exact Fr_refl | refine Fr_upd rfl ?_ | refine Fr_over rfl rfl ?_)
        · exact ⟨(n259, x303), (Sl_cons rfl Sl_nil), ⟨H.pick [0] (by decide), hF⟩, Nat.lt_succ_self _⟩
    · have hF := iteB_f c265 hF
      refine (WP_exit (thenQ_x (thenQ_x (blockQ_eq (thenQ_n (And.intro ?_ ?_))))))
      · repeat' (first | with_reducible exact Fr_refl | refine Fr_upd rfl ?_ | refine Fr_over rfl rfl ?_)
      · exact ⟨(), Sl_nil, ⟨H.pick [] (by decide), hF⟩⟩
  · rintro _ ρ w153 ⟨H, hF⟩
    have hF := join_body ek155 hF
    refine WP_seq_k fun K305 hK305 => ?_
    refine WP_region ?_
    refine RL_do rfl rfl (Do_assign (v := .int .i64 (-1)) rfl) ?_
    refine (RL_nil (thenQ_n (hK305 _ _ ?_)))
    have hR := Option.some.inj hF
    subst hR
    refine (WP_ret (post1 (v1 := .int .i64 (-1)) rfl rfl ?_))
    exact ⟨rfl, H.pick [] (by decide)⟩
end Go.Proofs.Ytbjhondbheijiaa
namespace Go.Proofs.Ytbjhondbheijiaa
open Go.RowKit Go.OB Go.Lf
/- slices.Contains[[]string,string] -/
set_option maxHeartbeats 4000000 in
theorem F_slices_Contains___string_string__w (p0 : List Str) (p1 : Str) (v1 : Value) (r : Bool) (hF : F_slices_Contains___string_string_ p0 p1 = some r) (O S : List Nat) (w : World) (H : Hd O w w S [.fz (.sl Rp.str v1 p0)]) :
    Calls Try.prog 28 ([v1, .string (bs p1)] : List Value).toArray w fun e w' => e = .returned (.bool r) ∧ Hd O w w' S [] := by
  unfold F_slices_Contains___string_string_ at hF
  refine calls_of_WP 9 Try.func28 rfl rfl rfl ?_
  refine WP_seq_k fun K3 hK3 => ?_
  refine WP_region ?_
  refine RL_do rfl rfl (Do_assign (v := .bool false) rfl) ?_
  refine (RL_nil (thenQ_n (hK3 _ _ ?_)))
  refine WP_seq_k fun K4 hK4 => ?_
  refine WP_region ?_
  refine RL_do rfl rfl (Do_move (v := v1) rfl) ?_
  refine RL_do rfl rfl (Do_move (v := .string (bs p1)) rfl) ?_
  obtain ⟨x5, e6, hF⟩ := bindO_some hF
  refine RL_call rfl rfl (DoC_func en47 rfl) (F_slices_Index___string_string__w p0 p1 v1 _ e6 _ _ _ (H.enter [] [0] (by decide) rfl)) ?_
  rintro _ w7 ⟨rfl, G8⟩
  have H := H.back0 [0] rfl G8
  refine ⟨_, rfl, ?_⟩
  obtain ⟨x9, e10, hF⟩ := letO_some hF
  refine RL_do rfl rfl (Do_as (Do_geq (a := x5) (b := 0) rfl rfl) (congrArg Value.bool e10)) ?_
  refine RL_do rfl rfl (Do_assign (v := .bool x9) rfl) ?_
  refine (RL_nil (thenQ_n (hK4 _ _ ?_)))
  have hR := Option.some.inj hF
  subst hR
  refine (WP_ret (post1 (v1 := .bool x9) rfl rfl ?_))
  exact ⟨rfl, H.pick [] (by decide)⟩
end Go.Proofs.Ytbjhondbheijiaa
namespace Go.Proofs.Ytbjhondbheijiaa
open Go.RowKit Go.OB Go.Lf
/- orangebox/fleet.checkNames -/
set_option maxHeartbeats 4000000 in
theorem F_fleet_checkNames_w (p0 : List Str) (v1 : Value) (r : Int) (hF : F_fleet_checkNames p0 = some r) (O S : List Nat) (w : World) (H : Hd O w w S [.fz (.sl Rp.str v1 p0)]) :
    Calls Try.prog 25 ([v1] : List Value).toArray w fun e w' => e = .returned (.int .i64 r) ∧ Hd O w w' S [] := by
  unfold F_fleet_checkNames at hF
  refine calls_of_WP 24 Try.func25 rfl rfl rfl ?_
  refine WP_seq_k fun K3 hK3 => ?_
  refine WP_region ?_
  refine RL_do rfl rfl (Do_assign (v := .int .i64 0) rfl) ?_
  refine (RL_nil (thenQ_n (hK3 _ _ ?_)))
  refine WP_seq_k fun K14 hK14 => ?_
  refine WP_seq_k fun K15 hK15 => ?_
  refine WP_region ?_
  refine RL_do rfl rfl (Do_move (v := v1) rfl) ?_
  obtain ⟨x16, e17, hF⟩ := letO_some hF
  obtain ⟨a18, c19, q20⟩ := SlF.len ((H.item (i := 0) rfl))
  refine RL_do rfl rfl (Do_as (Do_len u32 q20) (congrArg (Value.int .i64) e17)) ?_
  obtain ⟨x21, e22, hF⟩ := letO_some hF
  refine RL_do rfl rfl (Do_as (Do_gtr (a := x16) (b := 30) rfl rfl) (congrArg Value.bool e22)) ?_
  refine (RL_nil (thenQ_n (hK15 _ _ ?_)))
  refine WP_ifb (b := x21) rfl (fun c23 => ?_) (fun c23 => ?_)
  · have hF := iteB_t c23 hF
    refine WP_seq_k fun K24 hK24 => ?_
    refine WP_region ?_
    refine RL_do rfl rfl (Do_assign (v := .int .i64 3) rfl) ?_
    refine (RL_nil (thenQ_n (hK24 _ _ ?_)))
    have hR := Option.some.inj hF
    subst hR
    refine (WP_ret (thenQ_r (post1 (v1 := .int .i64 3) rfl rfl ?_)))
    exact ⟨rfl, H.pick [] (by decide)⟩
  · have hF := iteB_f c23 hF
    refine (WP_skip (thenQ_n (hK14 _ _ ?_)))
    obtain ⟨k331, ek332, hF⟩ := joinO_some hF
    refine WP_seqS [2, 3, 4, 8, 9, 10, 11, 12, 13, 14, 15, 16, 17, 18, 19, 20, 21, 22, 23] (fun (g : Unit) => []) (fun g wl => Hd O w wl S [] ∧ k331 () = some r) ?_ ?_
    · skip
      refine WP_seq_k fun K333 hK333 => ?_
      refine WP_region ?_
      refine RL_do rfl rfl (Do_move (v := v1) rfl) ?_
      obtain ⟨x334, e335, hF⟩ := letO_some hF
      obtain ⟨a336, c337, q338⟩ := SlF.len ((H.item (i := 0) rfl))
      refine RL_do rfl rfl (Do_as (Do_len u32 q338) (congrArg (Value.int .i64) e335)) ?_
      refine RL_do rfl rfl (Do_move (v := .int .i64 0) rfl) ?_
      refine (RL_nil (thenQ_n (hK333 _ _ ?_)))
      refine WP_block ?_
      unfold F_fleet_checkNames_L1 at hF
      obtain ⟨B535, n536, eB537, hF⟩ := loopO_some hF
      refine WP_loopS [2, 3, 4, 10, 11, 12, 13, 14, 15, 16, 17, 18, 19, 20, 21, 22, 23] (fun (g : Nat × Int) => [(10, .int .i64 g.2)]) (fun g wl => Hd O w wl S [.fz (.sl Rp.str v1 p0)] ∧ loopN B535 g.1 g.2 = some r) (fun g => g.1) (n536, 0) (Sl_cons rfl Sl_nil) ⟨H.pick [0] (by decide), hF⟩ ?_
      clear H hF
      rintro ⟨n536, g534⟩ ρ w539 ⟨H, hF⟩
      obtain ⟨n540, rfl, hF⟩ := loopN_pos hF
      have hF := loop_body eB537 hF
      refine WP_seq_k fun K541 hK541 => ?_
      refine WP_region ?_
      obtain ⟨x542, e543, hF⟩ := letO_some hF
      refine RL_do rfl rfl (Do_as (Do_lss (a := g534) (b := x334) rfl rfl) (congrArg Value.bool e543)) ?_
      refine (RL_nil (thenQ_n (hK541 _ _ ?_)))
      refine WP_seq_k fun K545 hK545 => ?_
      refine WP_ifb (b := x542) rfl (fun c546 => ?_) (fun c546 => ?_)
      · have hF := iteB_t c546 hF
        refine (WP_skip (thenQ_n (hK545 _ _ ?_)))
        refine WP_seq_k fun K591 hK591 => ?_
        refine WP_block ?_
        refine WP_seq_k fun K592 hK592 => ?_
        refine WP_region ?_
        refine RL_do rfl rfl (Do_move (v := .int .i64 g534) rfl) ?_
        obtain ⟨x593, e594, hF⟩ := bindO_some hF
        obtain ⟨b595, o596, c597, cs598, q599, h602, h600, h601, h603⟩ := rd_at (H.item (i := 0) rfl) e594
        obtain rfl : cs598 = [.string (bs x593)] := h602
        have H := H.fz (.at b595 (o596 + g534.toNat * 1) _) ⟨h600, h601, h603⟩
        refine RL_do rfl rfl (Do_idx u32 sz9 q599 rfl (at_some e594).1 (at_some e594).2.1 rfl rfl) ?_
        refine RL_do rfl rfl (Do_load one9 rfl (Cells.get (H.item (i := 1) rfl).2.2 (i := 0) rfl)) ?_
        refine RL_do rfl rfl (Do_assign (v := .int .i64 g534) rfl) ?_
        refine RL_do rfl rfl (Do_assign (v := .string (bs x593)) rfl) ?_
        refine (RL_nil (thenQ_n (hK592 _ _ ?_)))
        refine WP_seq_k fun K614 hK614 => ?_
        refine WP_seq_k fun K615 hK615 => ?_
        refine WP_region ?_
        refine RL_do rfl rfl (Do_move (v := .string (bs x593)) rfl) ?_
        obtain ⟨x616, e617, hF⟩ := bindO_some hF
        refine RL_call rfl rfl (DoC_func en9 rfl) (F_event_IsName_w x593 _ e617 _ _ _ (H.enter [] [] (by decide) rfl)) ?_
        rintro _ w618 ⟨rfl, G619⟩
        have H := H.back0 [] rfl G619
        refine ⟨_, rfl, ?_⟩
        obtain ⟨x620, e621, hF⟩ := letO_some hF
        refine RL_do rfl rfl (Do_as (Do_not (p := x616) rfl) (congrArg Value.bool e621)) ?_
        refine (RL_nil (thenQ_n (hK615 _ _ ?_)))
        refine WP_ifb (b := x620) rfl (fun c622 => ?_) (fun c622 => ?_)
        · have hF := iteB_t c622 hF
          refine WP_seq_k fun K623 hK623 => ?_
          refine WP_region ?_
          refine RL_do rfl rfl (Do_assign (v := .int .i64 8) rfl) ?_
          refine (RL_nil (thenQ_n (hK623 _ _ ?_)))
          have hR := Option.some.inj hF
          subst hR
          refine (WP_ret (thenQ_r (blockQ_r (thenQ_r (thenQ_r (blockQ_r (thenQ_r (post1 (v1 := .int .i64 8) rfl rfl ?_))))))))
          exact ⟨rfl, H.pick [] (by decide)⟩
        · have hF := iteB_f c622 hF
          refine (WP_skip (thenQ_n (hK614 _ _ ?_)))
          refine WP_seq_k fun K624 hK624 => ?_
          refine WP_region ?_
          refine RL_do rfl rfl (Do_move (v := v1) rfl) ?_
          refine RL_do rfl rfl (Do_move (v := .int .i64 g534) rfl) ?_
          obtain ⟨x625, e626, hF⟩ := bindO_some hF
          refine RL_exP rfl rfl (Lx_slice_h u32 sz9 (H.item (i := 0) rfl) rfl rfl e626) ?_
          rintro v627 h628
          have H := H.fz (.sl Rp.str v627 x625) h628
          refine RL_do rfl rfl (Do_move (v := .string (bs x593)) rfl) ?_
          obtain ⟨x630, e631, hF⟩ := bindO_some hF
          refine RL_call rfl rfl (DoC_func en28 rfl) (F_slices_Contains___string_string__w x625 x593 v627 _ e631 _ _ _ (H.enter [] [2] (by decide) rfl)) ?_
          rintro _ w632 ⟨rfl, G633⟩
          have H := H.back0 [2] rfl G633
          refine ⟨_, rfl, ?_⟩
          refine (RL_nil (thenQ_n (hK624 _ _ ?_)))
          refine WP_ifb (b := x630) rfl (fun c634 => ?_) (fun c634 => ?_)
          · have hF := iteB_t c634 hF
            refine WP_seq_k fun K635 hK635 => ?_
            refine WP_region ?_
            refine RL_do rfl rfl (Do_assign (v := .int .i64 5) rfl) ?_
            refine (RL_nil (thenQ_n (hK635 _ _ ?_)))
            have hR := Option.some.inj hF
            subst hR
            refine (WP_ret (blockQ_r (thenQ_r (thenQ_r (blockQ_r (thenQ_r (post1 (v1 := .int .i64 5) rfl rfl ?_)))))))
            exact ⟨rfl, H.pick [] (by decide)⟩
          · have hF := iteB_f c634 hF
            refine (WP_skip (blockQ_n (thenQ_n (hK591 _ _ ?_))))
            refine WP_region ?_
            obtain ⟨x636, e637, hF⟩ := letO_some hF
            refine RL_do rfl rfl (Do_add (a := g534) (b := 1) rfl rfl e637) ?_
            refine RL_do rfl rfl (Do_move (v := .int .i64 x636) rfl) ?_
            refine (RL_nil (thenQ_n (And.intro ?_ ?_)))
            · repeat' (first | with_reducible exact Fr_refl | refine Fr_upd rfl ?_ | refine Fr_over rfl rfl ?_)
            · exact ⟨(n540, x636), (Sl_cons rfl Sl_nil), ⟨H.pick [0] (by decide), hF⟩, Nat.lt_succ_self _⟩
      · have hF := iteB_f c546 hF
        refine (WP_exit (thenQ_x (thenQ_x (blockQ_eq (thenQ_n (And.intro ?_ ?_))))))
        · repeat' (first | with_reducible exact Fr_refl | refine Fr_upd rfl ?_ | refine Fr_over rfl rfl ?_)
        · exact ⟨(), Sl_nil, ⟨H.pick [] (by decide), hF⟩⟩
    · rintro _ ρ w330 ⟨H, hF⟩
      have hF := join_body ek332 hF
      refine WP_seq_k fun K638 hK638 => ?_
      refine WP_region ?_
      refine RL_do rfl rfl (Do_assign (v := .int .i64 0) rfl) ?_
      refine (RL_nil (thenQ_n (hK638 _ _ ?_)))
      have hR := Option.some.inj hF
      subst hR
      refine (WP_ret (post1 (v1 := .int .i64 0) rfl rfl ?_))
      exact ⟨rfl, H.pick [] (by decide)⟩
end Go.Proofs.Ytbjhondbheijiaa
namespace Go.Proofs.Ytbjhondbheijiaa
open Go.RowKit Go.OB Go.Lf
/- orangebox/fleet.CheckMask$1 -/
set_option maxHeartbeats 4000000 in
theorem F_fleet_CheckMask_1_w (p0 : Grain) (c0 : Grain) (b1 : Nat) (r : Bool) (hF : F_fleet_CheckMask_1 p0 c0 = some r) (O S : List Nat) (w : World) (H : Hd O w w S [.blk b1 [.string (bs c0.Track), .int .i64 c0.N] 30]) :
    Calls Try.prog 27 ([.agg [.string (bs p0.Track), .int .i64 p0.N].toArray, .pointer (some ⟨b1, 0, none⟩)] : List Value).toArray w fun e w' => e = .returned (.bool r) ∧ Hd O w w' S [.blk b1 [.string (bs c0.Track), .int .i64 c0.N] 30] := by
  unfold F_fleet_CheckMask_1 at hF
  refine calls_of_WP 9 Try.func27 rfl rfl rfl ?_
  refine WP_seq_k fun K3 hK3 => ?_
  refine WP_region ?_
  refine RL_ex rfl rfl (Lx_box (cs := [.string (bs p0.Track), .int .i64 p0.N]) rfl H) ?_
  rintro _ w6 ⟨b4, rfl, H⟩
  refine RL_do rfl rfl (Do_assign (v := .bool false) rfl) ?_
  refine (RL_nil (thenQ_n (hK3 _ _ ?_)))
  refine WP_seq_k fun K7 hK7 => ?_
  refine WP_region ?_
  refine RL_do rfl rfl (fa30_0 rfl) ?_
  refine RL_do rfl rfl (Do_load one9 rfl (Cells.get (Blk.cells (H.item (i := 1) rfl)) (i := 0) rfl)) ?_
  refine RL_do rfl rfl (fa30_0 rfl) ?_
  refine RL_do rfl rfl (Do_load one9 rfl (Cells.get (Blk.cells (H.item (i := 0) rfl)) (i := 0) rfl)) ?_
  obtain ⟨x8, e9, hF⟩ := letO_some hF
  refine RL_do rfl rfl (Do_as (Do_eqls (s1 := p0.Track) (s2 := c0.Track) rfl rfl) (congrArg Value.bool e9)) ?_
  refine RL_do rfl rfl (Do_assign (v := .bool x8) rfl) ?_
  refine (RL_nil (thenQ_n (hK7 _ _ ?_)))
  have hR := Option.some.inj hF
  subst hR
  refine (WP_ret (post1 (v1 := .bool x8) rfl rfl ?_))
  exact ⟨rfl, H.pick [0] (by decide)⟩
end Go.Proofs.Ytbjhondbheijiaa
namespace Go.Proofs.Ytbjhondbheijiaa
open Go.RowKit Go.OB Go.Lf
/- slices.IndexFunc[[]orangebox/api.Grain,orangebox/api.Grain]@orangebox/fleet.CheckMask$1 -/
set_option maxHeartbeats 4000000 in
theorem F_slices_IndexFunc___api_Grain_api_Grain__fleet_CheckMask_1_w (p0 : List Grain) (p1c0 : Grain) (v1 : Value) (b3 : Nat) (r : Int) (hF : F_slices_IndexFunc___api_Grain_api_Grain__fleet_CheckMask_1 p0 p1c0 = some r) (O S : List Nat) (w : World) (H : Hd O w w S [.blk b3 [.string (bs p1c0.Track), .int .i64 p1c0.N] 30, .fz (.sl rGrain v1 p0)]) :
    Calls Try.prog 46 ([v1, .func (.func 27) #[] [.pointer (some ⟨b3, 0, none⟩)].toArray] : List Value).toArray w fun e w' => e = .returned (.int .i64 r) ∧ Hd O w w' S [.blk b3 [.string (bs p1c0.Track), .int .i64 p1c0.N] 30] := by
  unfold F_slices_IndexFunc___api_Grain_api_Grain__fleet_CheckMask_1 at hF
  refine calls_of_WP 19 Try.func46 rfl rfl rfl ?_
  refine WP_seq_k fun K5 hK5 => ?_
  refine WP_region ?_
  refine RL_do rfl rfl (Do_assign (v := .int .i64 0) rfl) ?_
  refine (RL_nil (thenQ_n (hK5 _ _ ?_)))
  obtain ⟨k168, ek169, hF⟩ := joinO_some hF
  refine WP_seqS [4, 5, 6, 7, 8, 9, 10, 11, 12, 13, 14, 15, 16, 17, 18] (fun (g : Unit) => []) (fun g wl => Hd O w wl S [.blk b3 [.string (bs p1c0.Track), .int .i64 p1c0.N] 30] ∧ k168 () = some r) ?_ ?_
  · skip
    refine WP_seq_k fun K170 hK170 => ?_
    refine WP_region ?_
    refine RL_do rfl rfl (Do_move (v := v1) rfl) ?_
    obtain ⟨x171, e172, hF⟩ := letO_some hF
    obtain ⟨a173, c174, q175⟩ := SlF.len ((H.item (i := 1) rfl))
    refine RL_do rfl rfl (Do_as (Do_len u31 q175) (congrArg (Value.int .i64) e172)) ?_
    refine RL_do rfl rfl (Do_move (v := .int .i64 0) rfl) ?_
    refine (RL_nil (thenQ_n (hK170 _ _ ?_)))
    refine WP_block ?_
    unfold F_slices_IndexFunc___api_Grain_api_Grain__fleet_CheckMask_1_L1 at hF
    obtain ⟨B276, n277, eB278, hF⟩ := loopO_some hF
    refine WP_loopS [4, 5, 8, 9, 10, 11, 12, 13, 14, 15, 16, 17, 18] (fun (g : Nat × Int) => [(8, .int .i64 g.2)]) (fun g wl => Hd O w wl S [.blk b3 [.string (bs p1c0.Track), .int .i64 p1c0.N] 30, .fz (.sl rGrain v1 p0)] ∧ loopN B276 g.1 g.2 = some r) (fun g => g.1) (n277, 0) (Sl_cons rfl Sl_nil) ⟨H.pick [0, 1] (by decide), hF⟩ ?_
    clear H hF
    rintro ⟨n277, g275⟩ ρ w280 ⟨H, hF⟩
    obtain ⟨n281, rfl, hF⟩ := loopN_pos hF
    have hF := loop_body eB278 hF
    refine WP_seq_k fun K282 hK282 => ?_
    refine WP_region ?_
    obtain ⟨x283, e284, hF⟩ := letO_some hF
    refine RL_do rfl rfl (Do_as (Do_lss (a := g275) (b := x171) rfl rfl) (congrArg Value.bool e284)) ?_
    refine (RL_nil (thenQ_n (hK282 _ _ ?_)))
    refine WP_seq_k fun K286 hK286 => ?_
    refine WP_ifb (b := x283) rfl (fun c287 => ?_) (fun c287 => ?_)
    · have hF := iteB_t c287 hF
      refine (WP_skip (thenQ_n (hK286 _ _ ?_)))
      refine WP_seq_k fun K308 hK308 => ?_
      refine WP_block ?_
      refine WP_seq_k fun K309 hK309 => ?_
      refine WP_region ?_
      refine RL_do rfl rfl (Do_move (v := .int .i64 g275) rfl) ?_
      refine RL_do rfl rfl (Do_assign (v := .int .i64 g275) rfl) ?_
      refine (RL_nil (thenQ_n (hK309 _ _ ?_)))
      refine WP_seq_k fun K310 hK310 => ?_
      refine WP_region ?_
      refine RL_do rfl rfl (Do_move (v := .func (.func 27) #[] [.pointer (some ⟨b3, 0, none⟩)].toArray) rfl) ?_
      refine RL_do rfl rfl (Do_move (v := v1) rfl) ?_
      refine RL_do rfl rfl (Do_move (v := .int .i64 g275) rfl) ?_
      obtain ⟨x311, e312, hF⟩ := bindO_some hF
      obtain ⟨b313, o314, c315, cs316, q317, h320, h318, h319, h321⟩ := rd_at (H.item (i := 1) rfl) e312
      obtain rfl := rGrain_open h320
      have H := H.fz (.at b313 (o314 + g275.toNat * 2) _) ⟨h318, h319, h321⟩
      refine RL_do rfl rfl (Do_idx u31 sz30 q317 rfl (at_some e312).1 (at_some e312).2.1 rfl rfl) ?_
      refine RL_do rfl rfl (Do_as (Do_loads (cs := [.string (bs x311.Track), .int .i64 x311.N]) agg30 rfl sz30 rfl (H.item (i := 2) rfl).2.2) rfl) ?_
      obtain ⟨x323, e324, hF⟩ := bindO_some hF
      refine RL_call rfl rfl (DoC_clo en27 rfl rfl) (F_fleet_CheckMask_1_w x311 p1c0 b3 _ e324 _ _ _ (H.enter [0] [] (by decide) rfl)) ?_
      rintro _ w325 ⟨rfl, G326⟩
      have H : Hd O w w325 S [.fz (.sl rGrain v1 p0), .fz (.at b313 (o314 + g275.toNat * 2) [.string (bs x311.Track), .int .i64 x311.N]), .blk b3 [.string (bs p1c0.Track), .int .i64 p1c0.N] 30] := H.back [0] [] rfl G326
      refine ⟨_, rfl, ?_⟩
      refine (RL_nil (thenQ_n (hK310 _ _ ?_)))
      refine WP_ifb (b := x323) rfl (fun c327 => ?_) (fun c327 => ?_)
      · have hF := iteB_t c327 hF
        refine WP_seq_k fun K328 hK328 => ?_
        refine WP_region ?_
        refine RL_do rfl rfl (Do_move (v := .int .i64 g275) rfl) ?_
        refine RL_do rfl rfl (Do_assign (v := .int .i64 g275) rfl) ?_
        refine (RL_nil (thenQ_n (hK328 _ _ ?_)))
        have hR := Option.some.inj hF
        subst hR
        refine (WP_ret (blockQ_r (thenQ_r (thenQ_r (blockQ_r (thenQ_r (post1 (v1 := .int .i64 g275) rfl rfl ?_)))))))
        exact ⟨rfl, H.pick [2] (by decide)⟩
      · have hF := iteB_f c327 hF
        refine (WP_skip (blockQ_n (thenQ_n (hK308 _ _ ?_))))
        refine WP_region ?_
        obtain ⟨x329, e330, hF⟩ := letO_some hF
        refine RL_do rfl rfl (Do_add (a := g275) (b := 1) rfl rfl e330) ?_
        refine RL_do rfl rfl (Do_move (v := .int .i64 x329) rfl) ?_
        refine (RL_nil (thenQ_n (And.intro ?_ ?_)))
        · repeat' (first | with_reducible exact Fr_refl | refine Fr_upd rfl ?_ | refine Fr_over rfl rfl ?_)
        · exact ⟨(n281, x329), (Sl_cons rfl Sl_nil), ⟨H.pick [2, 0] (by decide), hF⟩, Nat.lt_succ_self _⟩
    · have hF := iteB_f c287 hF
      refine (WP_exit (thenQ_x (thenQ_x (blockQ_eq (thenQ_n (And.intro ?_ ?_))))))
      · repeat' (first | with_reducible exact Fr_refl | refine Fr_upd rfl ?_ | refine Fr_over rfl rfl ?_)
      · exact ⟨(), Sl_nil, ⟨H.pick [0] (by decide), hF⟩⟩
  · rintro _ ρ w167 ⟨H, hF⟩
    have hF := join_body ek169 hF
    refine WP_seq_k fun K331 hK331 => ?_
    refine WP_region ?_
    refine RL_do rfl rfl (Do_assign (v := .int .i64 (-1)) rfl) ?_
    refine (RL_nil (thenQ_n (hK331 _ _ ?_)))
    have hR := Option.some.inj hF
    subst hR
    refine (WP_ret (post1 (v1 := .int .i64 (-1)) rfl rfl ?_))
    exact ⟨rfl, H.pick [0] (by decide)⟩
end Go.Proofs.Ytbjhondbheijiaa
namespace Go.Proofs.Ytbjhondbheijiaa
open Go.RowKit Go.OB Go.Lf
/- slices.ContainsFunc[[]orangebox/api.Grain,orangebox/api.Grain]@orangebox/fleet.CheckMask$1 -/
set_option maxHeartbeats 4000000 in
theorem F_slices_ContainsFunc___api_Grain_api_Grain__fleet_CheckMask_1_w (p0 : List Grain) (p1c0 : Grain) (v1 : Value) (b3 : Nat) (r : Bool) (hF : F_slices_ContainsFunc___api_Grain_api_Grain__fleet_CheckMask_1 p0 p1c0 = some r) (O S : List Nat) (w : World) (H : Hd O w w S [.blk b3 [.string (bs p1c0.Track), .int .i64 p1c0.N] 30, .fz (.sl rGrain v1 p0)]) :
    Calls Try.prog 26 ([v1, .func (.func 27) #[] [.pointer (some ⟨b3, 0, none⟩)].toArray] : List Value).toArray w fun e w' => e = .returned (.bool r) ∧ Hd O w w' S [.blk b3 [.string (bs p1c0.Track), .int .i64 p1c0.N] 30] := by
  unfold F_slices_ContainsFunc___api_Grain_api_Grain__fleet_CheckMask_1 at hF
  refine calls_of_WP 9 Try.func26 rfl rfl rfl ?_
  refine WP_seq_k fun K5 hK5 => ?_
  refine WP_region ?_
  refine RL_do rfl rfl (Do_assign (v := .bool false) rfl) ?_
  refine (RL_nil (thenQ_n (hK5 _ _ ?_)))
  refine WP_seq_k fun K6 hK6 => ?_
  refine WP_region ?_
  refine RL_do rfl rfl (Do_move (v := v1) rfl) ?_
  refine RL_do rfl rfl (Do_move (v := .func (.func 27) #[] [.pointer (some ⟨b3, 0, none⟩)].toArray) rfl) ?_
  obtain ⟨x7, e8, hF⟩ := bindO_some hF
  refine RL_call rfl rfl (DoC_func en46 rfl) (F_slices_IndexFunc___api_Grain_api_Grain__fleet_CheckMask_1_w p0 p1c0 v1 b3 _ e8 _ _ _ (H.enter [0] [1] (by decide) rfl)) ?_
  rintro _ w9 ⟨rfl, G10⟩
  have H : Hd O w w9 S [.fz (.sl rGrain v1 p0), .blk b3 [.string (bs p1c0.Track), .int .i64 p1c0.N] 30] := H.back [0] [1] rfl G10
  refine ⟨_, rfl, ?_⟩
  obtain ⟨x11, e12, hF⟩ := letO_some hF
  refine RL_do rfl rfl (Do_as (Do_geq (a := x7) (b := 0) rfl rfl) (congrArg Value.bool e12)) ?_
  refine RL_do rfl rfl (Do_assign (v := .bool x11) rfl) ?_
  refine (RL_nil (thenQ_n (hK6 _ _ ?_)))
  have hR := Option.some.inj hF
  subst hR
  refine (WP_ret (post1 (v1 := .bool x11) rfl rfl ?_))
  exact ⟨rfl, H.pick [1] (by decide)⟩
end Go.Proofs.Ytbjhondbheijiaa
