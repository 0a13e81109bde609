/- Walks: what each function computes, for every argument; no condition but those that stand in the statements. -/
import Derived.Test.YtbjhondbheijiaaGreatDoorYV0
import Derived.Test.YtbjhondbheijiaaGreatDoorYV4
import Derived.Test.YtbjhondbheijiaaGreatDoorYV5
import Derived.Test.YtbjhondbheijiaaGreatDoorYV7
namespace Go.Proofs.YtbjhondbheijiaaGreatDoor.L
open Go.RowKit Go.OB Go.Lf
/- orangebox/orangeboxref5.Sorted -/
set_option maxHeartbeats 4000000 in
theorem F_ref5_Sorted_w (p0 : List Int) (v1 : Value) (r : (List Int)) (hF : F_ref5_Sorted p0 = some r) (O S : List Nat) (w : World) (H : Hd O w w S [.fz (.sl (Rp.int .i64) v1 p0)]) :
  Calls Tryz.prog 49 ([v1] : List Value).toArray w fun e w' => ∃ u3, e = .returned (u3) ∧ Hd O w w' S [.own (Rp.int .i64) u3 3 r] := by
 unfold F_ref5_Sorted at hF
 refine yB 48 Tryz.func49 rfl rfl rfl ?_
 refine zD fun K4 hK4 => ?_
 refine zC ?_
 refine zA rfl rfl (zF (v := .slice none 0 0) rfl) ?_
 refine (zI (zB (hK4 _ _ ?_)))
 refine zD fun K5 hK5 => ?_
 refine zC ?_
 refine zA rfl rfl (zG (v := v1) rfl) ?_
 have H := own_nil H (Rp.int .i64) 3
 obtain ⟨x7, e8, hF⟩ := zJ hF
 refine xE rfl rfl (Lx_app H (i := 1) rfl u33 el3 rfl rfl (Sr.of_rd (H.item (i := 0) rfl)) e8) ?_
 rintro v9 w10 H
 refine zA rfl rfl (zF (v := v9) rfl) ?_
 refine (zI (zB (hK5 _ _ ?_)))
 obtain ⟨g854, hF, hK856⟩ := zJ hF
 refine yL [4, 5, 8, 9, 10, 11, 12, 13, 14, 15, 16, 17, 18, 19, 20, 21, 22, 23, 24, 25, 26, 27, 28, 29, 30, 31, 32, 33, 34, 35, 36, 37, 38, 39, 40, 41, 42, 43, 44, 45, 46] (fun (g : Unit) => []) (fun g wl => Hd O w wl S [.own (Rp.int .i64) v9 3 g854]) ?_ ?_
 ·skip
  refine zD fun K857 hK857 => ?_
  refine zC ?_
  refine zA rfl rfl (zF (v := .int .i64 1) rfl) ?_
  refine (zI (zB (hK857 _ _ ?_)))
  refine yK ?_
  unfold F_ref5_Sorted_L1 at hF
  obtain ⟨B1696, n1697, eB1698, hF⟩ := yT hF
  refine xC [4, 5, 8, 9, 10, 11, 12, 13, 14, 15, 16, 17, 18, 19, 20, 21, 22, 23, 24, 25, 26, 27, 28, 29, 30, 31, 32, 33, 34, 35, 36, 37, 38, 39, 40, 41, 42, 43, 44, 45, 46] (fun (g : Nat × Int × (List Int)) => [(4, .int .i64 g.2.1)]) (fun g wl => Hd O w wl S [.own (Rp.int .i64) v9 3 g.2.2] ∧ loopN B1696 g.1 (g.2.1, g.2.2) = some g854) (fun g => g.1) (n1697, 1, x7) (zK rfl zQ) ⟨H.pick [1] (by decide), hF⟩ ?_
  clear H hF
  rintro ⟨n1697, g1694, g1695⟩ ρ w1700 ⟨H, hF⟩
  obtain ⟨n1701, rfl, hF⟩ := yX hF
  have hF := yY eB1698 hF
  refine zD fun K1711 hK1711 => ?_
  refine zD fun K1712 hK1712 => ?_
  refine zC ?_
  refine zA rfl rfl (zG (v := .int .i64 g1694) rfl) ?_
  refine zA rfl rfl (zG (v := v9) rfl) ?_
  obtain ⟨x1713, e1714, hF⟩ := zH hF
  obtain ⟨a1715, c1716, q1717⟩ := Sr.len (Sr.of_own (H.item (i := 0) rfl))
  refine zA rfl rfl (zT (xI u33 q1717) (congrArg (Value.int .i64) e1714)) ?_
  obtain ⟨x1718, e1719, hF⟩ := zH hF
  refine zA rfl rfl (zT (xK (a := g1694) (b := x1713) rfl rfl) (congrArg Value.bool e1719)) ?_
  refine (zI (zB (hK1712 _ _ ?_)))
  refine yF (b := x1718) rfl (fun c1720 => ?_) (fun c1720 => ?_)
  ·have hF := zW c1720 hF
   refine (yA (zB (hK1711 _ _ ?_)))
   obtain ⟨g2114, hF, hK2116⟩ := zJ hF
   refine yL [5, 14, 15, 16, 17, 18, 19, 20, 21, 22, 23, 24, 25, 26, 27, 28, 29, 30, 31, 32, 33, 34, 35, 36, 37, 38, 39, 40, 41, 42, 43, 44, 45, 46] (fun (g : Unit) => []) (fun g wl => Hd O w wl S [.own (Rp.int .i64) v9 3 g2114]) ?_ ?_
   ·skip
    refine yK ?_
    refine zD fun K2117 hK2117 => ?_
    refine zC ?_
    refine zA rfl rfl (zG (v := .int .i64 g1694) rfl) ?_
    refine zA rfl rfl (zF (v := .int .i64 g1694) rfl) ?_
    refine (zI (zB (hK2117 _ _ ?_)))
    refine yK ?_
    unfold F_ref5_Sorted_L2 at hF
    obtain ⟨B2506, n2507, eB2508, hF⟩ := yT hF
    refine xC [5, 15, 16, 17, 18, 19, 20, 21, 22, 23, 24, 25, 26, 27, 28, 29, 30, 31, 32, 33, 34, 35, 36, 37, 38, 39, 40, 41, 42, 43, 44, 45, 46] (fun (g : Nat × Int × (List Int)) => [(5, .int .i64 g.2.1)]) (fun g wl => Hd O w wl S [.own (Rp.int .i64) v9 3 g.2.2] ∧ loopN B2506 g.1 (g.2.1, g.2.2) = some g2114) (fun g => g.1) (n2507, g1694, g1695) (zK rfl zQ) ⟨H.pick [0] (by decide), hF⟩ ?_
    clear H hF
    rintro ⟨n2507, g2504, g2505⟩ ρ w2510 ⟨H, hF⟩
    obtain ⟨n2511, rfl, hF⟩ := yX hF
    have hF := yY eB2508 hF
    refine zD fun K2549 hK2549 => ?_
    obtain ⟨g2583, hF, hK2585⟩ := zJ hF
    refine yL [15, 16, 17, 18, 19, 20, 21, 22, 23, 24, 25, 26, 27, 28] (fun (g : Unit) => [(28, .bool g2583)]) (fun g wl => Hd O w wl S [.own (Rp.int .i64) v9 3 g2505]) ?_ ?_
    ·skip
     have H2586 := H
     have H := H.rebase
     have H2587 := H
     refine WP_mix0 H [0, 1, 2, 3, 4, 5, 6, 7, 8, 9, 10, 11, 12, 13] [.pure, .pure, .pure, .pure, .pure, .pure, .read, .pure, .pure, .pure, .pure, .read, .pure, .pure] mixed (by kernel_rfl) (by kernel_rfl) (by kernel_rfl) rfl ?_
     refine Mx.zS rfl rfl rfl (fun w' hw' => zG (v := .int .i64 g2504) rfl) ?_
     obtain ⟨x2588, e2589, hF⟩ := zH hF
     refine Mx.zS rfl rfl rfl (fun w' hw' => zT (wF (a := g2504) (b := 0) rfl rfl) (congrArg Value.bool e2589)) ?_
     refine Mx.XL_splitb (b := x2588) rfl rfl rfl rfl (fun c2590 => ?_) (fun c2590 => ?_)
     ·have hF := zW c2590 hF
      refine Mx.zS rfl rfl rfl (fun w' hw' => zG (v := v9) rfl) ?_
      refine Mx.zS rfl rfl rfl (fun w' hw' => zG (v := .int .i64 g2504) rfl) ?_
      obtain ⟨x2591, e2592, hF⟩ := zJ hF
      obtain ⟨b2593, c2595, cs2596, q2597, h2600, h2601⟩ := own_at (H.item (i := 0) rfl) e2592
      obtain rfl : cs2596 = [.int .i64 x2591] := h2600
      refine Mx.zS rfl rfl rfl (fun w' hw' => xG u33 sz3 q2597 rfl (yD e2592).1 (yD e2592).2.1 rfl rfl) ?_
      refine Mx.xM oS rfl rfl rfl (fun w' hw' => zU one3 rfl (Cells.get (h2601.sees hw') (i := 0) rfl)) ?_
      refine Mx.zS rfl rfl rfl (fun w' hw' => zG (v := v9) rfl) ?_
      refine Mx.zS rfl rfl rfl (fun w' hw' => zG (v := .int .i64 g2504) rfl) ?_
      obtain ⟨x2602, e2603, hF⟩ := zH hF
      refine Mx.zS rfl rfl rfl (fun w' hw' => Do_sub (a := g2504) (b := 1) rfl rfl e2603) ?_
      obtain ⟨x2604, e2605, hF⟩ := zJ hF
      obtain ⟨b2606, c2608, cs2609, q2610, h2613, h2614⟩ := own_at (H.item (i := 0) rfl) e2605
      obtain rfl : cs2609 = [.int .i64 x2604] := h2613
      refine Mx.zS rfl rfl rfl (fun w' hw' => xG u33 sz3 q2610 rfl (yD e2605).1 (yD e2605).2.1 rfl rfl) ?_
      refine Mx.xM oS rfl rfl rfl (fun w' hw' => zU one3 rfl (Cells.get (h2614.sees hw') (i := 0) rfl)) ?_
      obtain ⟨x2615, e2616, hF⟩ := zH hF
      refine Mx.zS rfl rfl rfl (fun w' hw' => zT (xK (a := x2591) (b := x2604) rfl rfl) (congrArg Value.bool e2616)) ?_
      refine Mx.zS rfl rfl rfl (fun w' hw' => yI (v := .bool x2615) rfl rfl) ?_
      refine Mx.wG fun w2617 hS => ?_
      have H := H.sees hS
      have H := H2586.rejoin H
      have hR := Option.some.inj hF
      subst hR
      refine (zB (And.intro ?_ ?_))
      ·repeat' (first | with_reducible exact zN | refine zV rfl ?_ | refine zO rfl rfl ?_)
      exact ⟨(), (zK rfl zQ), H.pick [0] (by decide)⟩
     have hF := zX c2590 hF
     refine Mx.xX rfl rfl rfl ?_
     refine Mx.xX rfl rfl rfl ?_
     refine Mx.xX rfl rfl rfl ?_
     refine Mx.XL_offr oS rfl rfl rfl ?_
     refine Mx.xX rfl rfl rfl ?_
     refine Mx.xX rfl rfl rfl ?_
     refine Mx.xX rfl rfl rfl ?_
     refine Mx.xX rfl rfl rfl ?_
     refine Mx.XL_offr oS rfl rfl rfl ?_
     refine Mx.xX rfl rfl rfl ?_
     refine Mx.zS rfl rfl rfl (fun w' hw' => yH (v := .bool false) rfl rfl) ?_
     refine Mx.wG fun w2618 hS => ?_
     have H := H.sees hS
     have H := H2586.rejoin H
     have hR := Option.some.inj hF
     subst hR
     refine (zB (And.intro ?_ ?_))
     ·repeat' (first | with_reducible exact zN | refine zV rfl ?_ | refine zO rfl rfl ?_)
     exact ⟨(), (zK rfl zQ), H.pick [0] (by decide)⟩
    rintro _ ρ w2584 H
    have hF := hK2585
    refine yF (b := g2583) rfl (fun c2619 => ?_) (fun c2619 => ?_)
    ·have hF := zW c2619 hF
     refine (yA (zB (hK2549 _ _ ?_)))
     refine zD fun K2677 hK2677 => ?_
     refine yK ?_
     have H2678 := H
     have H := H.rebase
     have H2679 := H
     refine WP_mix0 H [0, 1, 2, 3, 4, 5, 6, 7, 8, 9, 10, 11, 12, 13, 14, 15, 16, 17] [.pure, .pure, .pure, .pure, .pure, .pure, .pure, .pure, .pure, .read, .pure, .pure, .pure, .read, .pure, .eff, .pure, .eff] mixed (by kernel_rfl) (by kernel_rfl) (by kernel_rfl) rfl ?_
     refine Mx.zS rfl rfl rfl (fun w' hw' => zG (v := v9) rfl) ?_
     refine Mx.zS rfl rfl rfl (fun w' hw' => zG (v := .int .i64 g2504) rfl) ?_
     refine Mx.zS rfl rfl rfl (fun w' hw' => zG (v := v9) rfl) ?_
     refine Mx.zS rfl rfl rfl (fun w' hw' => zG (v := .int .i64 g2504) rfl) ?_
     obtain ⟨x2680, e2681, hF⟩ := zH hF
     refine Mx.zS rfl rfl rfl (fun w' hw' => Do_sub (a := g2504) (b := 1) rfl rfl e2681) ?_
     refine Mx.zS rfl rfl rfl (fun w' hw' => zG (v := v9) rfl) ?_
     refine Mx.zS rfl rfl rfl (fun w' hw' => zG (v := .int .i64 g2504) rfl) ?_
     obtain ⟨x2682, e2683, hF⟩ := zH hF
     refine Mx.zS rfl rfl rfl (fun w' hw' => Do_sub (a := g2504) (b := 1) rfl rfl e2683) ?_
     obtain ⟨x2684, e2685, hF⟩ := zJ hF
     obtain ⟨b2686, c2688, cs2689, q2690, h2693, h2694⟩ := own_at (H.item (i := 0) rfl) e2685
     obtain rfl : cs2689 = [.int .i64 x2684] := h2693
     refine Mx.zS rfl rfl rfl (fun w' hw' => xG u33 sz3 q2690 rfl (yD e2685).1 (yD e2685).2.1 rfl rfl) ?_
     refine Mx.xM oS rfl rfl rfl (fun w' hw' => zU one3 rfl (Cells.get (h2694.sees hw') (i := 0) rfl)) ?_
     refine Mx.zS rfl rfl rfl (fun w' hw' => zG (v := v9) rfl) ?_
     refine Mx.zS rfl rfl rfl (fun w' hw' => zG (v := .int .i64 g2504) rfl) ?_
     obtain ⟨x2695, e2696, hF⟩ := zJ hF
     obtain ⟨b2697, c2699, cs2700, q2701, h2704, h2705⟩ := own_at (H.item (i := 0) rfl) e2696
     obtain rfl : cs2700 = [.int .i64 x2695] := h2704
     refine Mx.zS rfl rfl rfl (fun w' hw' => xG u33 sz3 q2701 rfl (yD e2696).1 (yD e2696).2.1 rfl rfl) ?_
     refine Mx.xM oS rfl rfl rfl (fun w' hw' => zU one3 rfl (Cells.get (h2705.sees hw') (i := 0) rfl)) ?_
     obtain ⟨x2706, e2707, hF⟩ := zJ hF
     obtain ⟨b2708, c2710, cs2711, q2712, h2715, h2716⟩ := own_at (H.item (i := 0) rfl) e2707
     obtain rfl : cs2711 = [.int .i64 x2706] := h2715
     refine Mx.zS rfl rfl rfl (fun w' hw' => xG u33 sz3 q2712 rfl (yD e2707).1 (yD e2707).2.1 rfl rfl) ?_
     obtain ⟨x2717, e2718, hF⟩ := zJ hF
     refine Mx.XL_exU oS rfl rfl (fun w' hw' => Lx_own_store (vs := [.int .i64 x2684]) (off := 0) (H.sees hw') 0 rfl q2712 (h2716.sees hw') rfl sz3 rfl rfl rfl (allone_mem ⟨rfl, trivial⟩) e2718 (by decide) rfl rfl) ?_
     rintro w' w2719 hw' H
     refine ⟨H.only, ?_⟩
     obtain ⟨x2720, e2721, hF⟩ := zJ hF
     obtain ⟨b2722, c2724, cs2725, q2726, h2729, h2730⟩ := own_at (H.item (i := 0) rfl) e2721
     obtain rfl : cs2725 = [.int .i64 x2720] := h2729
     refine Mx.zS rfl rfl rfl (fun w' hw' => xG u33 sz3 q2726 rfl (yD e2721).1 (yD e2721).2.1 rfl rfl) ?_
     obtain ⟨x2731, e2732, hF⟩ := zJ hF
     refine Mx.XL_exU oS rfl rfl (fun w' hw' => Lx_own_store (vs := [.int .i64 x2695]) (off := 0) (H.sees hw') 0 rfl q2726 (h2730.sees hw') rfl sz3 rfl rfl rfl (allone_mem ⟨rfl, trivial⟩) e2732 (by decide) rfl rfl) ?_
     rintro w' w2733 hw' H
     refine ⟨H.only, ?_⟩
     refine Mx.wG fun w2734 hS => ?_
     have H := H.sees hS
     have H := H2678.rejoin H
     refine (yU (zB (hK2677 _ _ ?_)))
     refine zC ?_
     refine zA rfl rfl (zG (v := .int .i64 g2504) rfl) ?_
     obtain ⟨x2735, e2736, hF⟩ := zH hF
     refine zA rfl rfl (Do_sub (a := g2504) (b := 1) rfl rfl e2736) ?_
     refine zA rfl rfl (zF (v := .int .i64 x2735) rfl) ?_
     refine (zI (zB (And.intro ?_ ?_)))
     ·repeat' (first | with_reducible exact zN | refine zV rfl ?_ | refine zO rfl rfl ?_)
     exact ⟨(n2511, x2735, x2731), (zK rfl zQ), ⟨H.pick [0] (by decide), hF⟩, Nat.lt_succ_self _⟩
    have hF := zX c2619 hF
    have hR := Option.some.inj hF
    subst hR
    refine (xB (yN (yN (yR (yU (zB (And.intro ?_ ?_)))))))
    ·repeat' (first | with_reducible exact zN | refine zV rfl ?_ | refine zO rfl rfl ?_)
    exact ⟨(), zQ, H.pick [0] (by decide)⟩
   rintro _ ρ w2115 H
   have hF := hK2116
   refine zC ?_
   refine zA rfl rfl (zG (v := .int .i64 g1694) rfl) ?_
   obtain ⟨x2737, e2738, hF⟩ := zH hF
   refine zA rfl rfl (xJ (a := g1694) (b := 1) rfl rfl e2738) ?_
   refine zA rfl rfl (zF (v := .int .i64 x2737) rfl) ?_
   refine (zI (zB (And.intro ?_ ?_)))
   ·repeat' (first | with_reducible exact zN | refine zV rfl ?_ | refine zO rfl rfl ?_)
   exact ⟨(n1701, x2737, g2114), (zK rfl zQ), ⟨H.pick [0] (by decide), hF⟩, Nat.lt_succ_self _⟩
  have hF := zX c1720 hF
  have hR := Option.some.inj hF
  subst hR
  refine (xB (yN (yN (yR (zB (And.intro ?_ ?_))))))
  ·repeat' (first | with_reducible exact zN | refine zV rfl ?_ | refine zO rfl rfl ?_)
  exact ⟨(), zQ, H.pick [0] (by decide)⟩
 rintro _ ρ w855 H
 have hF := hK856
 refine zD fun K2739 hK2739 => ?_
 refine zC ?_
 refine zA rfl rfl (zG (v := v9) rfl) ?_
 refine zA rfl rfl (zF (v := v9) rfl) ?_
 refine (zI (zB (hK2739 _ _ ?_)))
 have hR := Option.some.inj hF
 subst hR
 refine (yG (post1 (v1 := v9) rfl rfl ?_))
 exact ⟨v9, rfl, H.pick [0] (by decide)⟩
end Go.Proofs.YtbjhondbheijiaaGreatDoor.L
namespace Go.Proofs.YtbjhondbheijiaaGreatDoor.L
open Go.RowKit Go.OB Go.Lf
/- orangebox/orangeboxref9.ranked -/
set_option maxHeartbeats 4000000 in
theorem F_ref9_ranked_w (p0 : List Int) (p1 : Int) (p2 : Int) (v1 : Value) (r : Int) (hF : F_ref9_ranked p0 p1 p2 = some r) (O S : List Nat) (w : World) (H : Hd O w w S [.fz (.sl (Rp.int .i64) v1 p0)]) :
  Calls Tryz.prog 24 ([v1, .int .i64 p1, .int .i64 p2] : List Value).toArray w fun e w' => e = .returned (.int .i64 r) ∧ Hd O w w' S [] := by
 unfold F_ref9_ranked at hF
 refine yB 24 Tryz.func24 rfl rfl rfl ?_
 refine zD fun K3 hK3 => ?_
 refine zC ?_
 refine zA rfl rfl (zF (v := .int .i64 0) rfl) ?_
 refine (zI (zB (hK3 _ _ ?_)))
 refine zD fun K4 hK4 => ?_
 refine zC ?_
 refine zA rfl rfl (zG (v := v1) rfl) ?_
 obtain ⟨x5, e6, hF⟩ := zH hF
 obtain ⟨a7, c8, q9⟩ := SlF.len ((H.item (i := 0) rfl))
 refine zA rfl rfl (zT (xI u33 q9) (congrArg (Value.int .i64) e6)) ?_
 refine zA rfl rfl (zG (v := .int .i64 p1) rfl) ?_
 obtain ⟨x10, e11, hF⟩ := zH hF
 refine zA rfl rfl (Do_mul (a := x5) (b := p1) rfl rfl e11) ?_
 refine zA rfl rfl (zG (v := .int .i64 p2) rfl) ?_
 obtain ⟨x12, e13, hF⟩ := zH hF
 refine zA rfl rfl (xJ (a := x10) (b := p2) rfl rfl e13) ?_
 obtain ⟨x14, e15, hF⟩ := zH hF
 refine zA rfl rfl (Do_sub (a := x12) (b := 1) rfl rfl e15) ?_
 refine zA rfl rfl (zG (v := .int .i64 p2) rfl) ?_
 obtain ⟨x16, e17, hF⟩ := zJ hF
 refine zA rfl rfl (Do_quo' (j := x14) (q := p2) rfl rfl e17) ?_
 refine zA rfl rfl (zF (v := .int .i64 x16) rfl) ?_
 refine (zI (zB (hK4 _ _ ?_)))
 refine zD fun K18 hK18 => ?_
 refine zC ?_
 refine zA rfl rfl (zG (v := v1) rfl) ?_
 obtain ⟨x19, e20, hF⟩ := zJ hF
 refine yJ rfl rfl (yC en49 rfl) (F_ref5_Sorted_w p0 v1 _ e20 _ _ _ (H.enter [] [0] (by decide) rfl)) ?_
 rintro _ w23 ⟨v21, rfl, G24⟩
 have H := H.back1 [0] rfl G24
 refine ⟨_, rfl, ?_⟩
 refine zA rfl rfl (zG (v := .int .i64 x16) rfl) ?_
 obtain ⟨x25, e26, hF⟩ := zH hF
 refine zA rfl rfl (Do_max (j := x16) (q := 1) rfl rfl e26) ?_
 obtain ⟨x27, e28, hF⟩ := zH hF
 refine zA rfl rfl (Do_sub (a := x25) (b := 1) rfl rfl e28) ?_
 obtain ⟨x29, e30, hF⟩ := zJ hF
 obtain ⟨b31, c33, cs34, q35, h38, h39⟩ := own_at (H.item (i := 1) rfl) e30
 obtain rfl : cs34 = [.int .i64 x29] := h38
 refine zA rfl rfl (xG u33 sz3 q35 rfl (yD e30).1 (yD e30).2.1 rfl rfl) ?_
 refine zA rfl rfl (zU one3 rfl (Cells.get h39 (i := 0) rfl)) ?_
 refine zA rfl rfl (zF (v := .int .i64 x29) rfl) ?_
 refine (zI (zB (hK18 _ _ ?_)))
 have hR := Option.some.inj hF
 subst hR
 refine (yG (post1 (v1 := .int .i64 x29) rfl rfl ?_))
 exact ⟨rfl, H.pick [] (by decide)⟩
end Go.Proofs.YtbjhondbheijiaaGreatDoor.L
namespace Go.Proofs.YtbjhondbheijiaaGreatDoor.L
open Go.RowKit Go.OB Go.Lf
/- orangebox/orangeboxref9.Odd -/
set_option maxHeartbeats 4000000 in
theorem F_ref9_Odd_w (p0 : List Flight) (p1 : Mask) (p2 : Str) (p3 : Int) (v1 : Value) (v3 : Value) (v4 : Value) (r : (List Int) × Int) (hF : F_ref9_Odd p0 p1 p2 p3 = some r) (O S : List Nat) (w : World) (H : Hd O w w S [.fz (.sl rFlight v1 p0), .fz (.sl Rp.str v3 p1.Hide), .fz (.sl rGrain v4 p1.Grains)]) :
  Calls Tryz.prog 8 ([v1, .agg [.bool p1.Tails, .int .i64 p1.Days, v3, v4, .int .i64 p1.Least].toArray, .string (bs p2), .int .i64 p3] : List Value).toArray w fun e w' => ∃ u7, e = .returned (.tuple #[u7, .int .i64 r.2]) ∧ Hd O w w' S [.own (Rp.int .i64) u7 3 r.1] := by
 unfold F_ref9_Odd at hF
 refine yB 90 Tryz.func8 rfl rfl rfl ?_
 refine zD fun K8 hK8 => ?_
 refine zC ?_
 refine xE rfl rfl (Lx_box (cs := [.bool p1.Tails, .int .i64 p1.Days, v3, v4, .int .i64 p1.Least]) rfl H) ?_
 rintro _ w11 ⟨b9, rfl, H⟩
 refine zA rfl rfl (zF (v := .slice none 0 0) rfl) ?_
 refine zA rfl rfl (zF (v := .int .i64 0) rfl) ?_
 refine (zI (zB (hK8 _ _ ?_)))
 refine zD fun K23 hK23 => ?_
 refine zD fun K24 hK24 => ?_
 refine zC ?_
 refine zA rfl rfl (zG (v := v1) rfl) ?_
 refine zA rfl rfl (zT (yV (cs := [.bool p1.Tails, .int .i64 p1.Days, v3, v4, .int .i64 p1.Least]) agg26 rfl sz26 rfl (Blk.cells (H.item (i := 3) rfl))) rfl) ?_
 refine zA rfl rfl (zG (v := .string (bs p2)) rfl) ?_
 have H25 := H
 obtain ⟨x26, e27, hF⟩ := zJ hF
 refine yJ rfl rfl (yC en14 rfl) (F_ref9_peaksFault_w p0 p1 p2 v1 v3 v4 _ e27 _ _ _ (H.enter [] [0, 1, 2] (by decide) rfl)) ?_
 rintro _ w28 ⟨rfl, G29⟩
 have H := H25.step (G29.only : Only [] _ _)
 refine ⟨_, rfl, ?_⟩
 refine zA rfl rfl (zF (v := .int .i64 x26) rfl) ?_
 refine (zI (zB (hK24 _ _ ?_)))
 refine zD fun K30 hK30 => ?_
 refine zC ?_
 refine zA rfl rfl (zG (v := .int .i64 x26) rfl) ?_
 obtain ⟨x31, e32, hF⟩ := zH hF
 refine zA rfl rfl (zT (Do_neq (a := x26) (b := 0) rfl rfl) (congrArg Value.bool e32)) ?_
 refine (zI (zB (hK30 _ _ ?_)))
 refine yF (b := x31) rfl (fun c33 => ?_) (fun c33 => ?_)
 ·have hF := zW c33 hF
  refine zD fun K34 hK34 => ?_
  refine zC ?_
  refine zA rfl rfl (zG (v := .int .i64 x26) rfl) ?_
  refine zA rfl rfl (zF (v := .slice none 0 0) rfl) ?_
  refine zA rfl rfl (zF (v := .int .i64 x26) rfl) ?_
  refine (zI (zB (hK34 _ _ ?_)))
  have H := own_nil H (Rp.int .i64) 3
  have hR := Option.some.inj hF
  subst hR
  refine (yG (zZ (post2 (v1 := .slice none 0 0) (v2 := .int .i64 x26) rfl rfl rfl ?_)))
  exact ⟨.slice none 0 0, rfl, H.pick [4] (by decide)⟩
 have hF := zX c33 hF
 refine (yA (zB (hK23 _ _ ?_)))
 refine zD fun K36 hK36 => ?_
 refine zC ?_
 refine zA rfl rfl (zG (v := v1) rfl) ?_
 refine zA rfl rfl (zT (yV (cs := [.bool p1.Tails, .int .i64 p1.Days, v3, v4, .int .i64 p1.Least]) agg26 rfl sz26 rfl (Blk.cells (H.item (i := 3) rfl))) rfl) ?_
 refine zA rfl rfl (zG (v := .string (bs p2)) rfl) ?_
 obtain ⟨⟨x37, x38, x39, x40⟩, e41, hF⟩ := zJ hF
 refine yJ rfl rfl (yC en15 rfl) (F_ref9_peaks_w p0 p1 p2 v1 v3 v4 _ e41 _ _ _ (H.enter [] [0, 1, 2] (by decide) rfl)) ?_
 rintro _ w46 ⟨v42, v44, rfl, G47⟩
 have H := H.back1 [0, 1, 2] rfl G47
 refine ⟨_, rfl, ?_⟩
 refine zA rfl rfl (zG (v := .tuple #[v42, v44, .int .i64 x39, .int .i64 x40]) rfl) ?_
 refine zA rfl rfl (yQ (v := v42) rfl rfl) ?_
 refine zA rfl rfl (yQ (v := v44) rfl rfl) ?_
 refine zA rfl rfl (yQ (v := .int .i64 x39) rfl rfl) ?_
 refine zA rfl rfl (yQ (v := .int .i64 x40) rfl rfl) ?_
 refine zA rfl rfl (zF (v := v42) rfl) ?_
 refine zA rfl rfl (zF (v := v44) rfl) ?_
 refine zA rfl rfl (zF (v := .int .i64 x39) rfl) ?_
 refine zA rfl rfl (zF (v := .int .i64 x40) rfl) ?_
 refine (zI (zB (hK36 _ _ ?_)))
 refine zD fun K53 hK53 => ?_
 refine zD fun K54 hK54 => ?_
 refine zC ?_
 refine zA rfl rfl (zG (v := .int .i64 x40) rfl) ?_
 obtain ⟨x55, e56, hF⟩ := zH hF
 refine zA rfl rfl (zT (Do_neq (a := x40) (b := 0) rfl rfl) (congrArg Value.bool e56)) ?_
 refine (zI (zB (hK54 _ _ ?_)))
 refine yF (b := x55) rfl (fun c57 => ?_) (fun c57 => ?_)
 ·have hF := zW c57 hF
  refine zD fun K58 hK58 => ?_
  refine zC ?_
  refine zA rfl rfl (zG (v := .int .i64 x40) rfl) ?_
  refine zA rfl rfl (zF (v := .slice none 0 0) rfl) ?_
  refine zA rfl rfl (zF (v := .int .i64 x40) rfl) ?_
  refine (zI (zB (hK58 _ _ ?_)))
  have H := own_nil H (Rp.int .i64) 3
  have hR := Option.some.inj hF
  subst hR
  refine (yG (zZ (post2 (v1 := .slice none 0 0) (v2 := .int .i64 x40) rfl rfl rfl ?_)))
  exact ⟨.slice none 0 0, rfl, H.pick [6] (by decide)⟩
 have hF := zX c57 hF
 refine (yA (zB (hK53 _ _ ?_)))
 refine zD fun K68 hK68 => ?_
 refine zD fun K69 hK69 => ?_
 refine zC ?_
 refine zA rfl rfl (zG (v := .int .i64 p3) rfl) ?_
 have H70 := H
 obtain ⟨x71, e72, hF⟩ := zJ hF
 refine yJ rfl rfl (yC en23 rfl) (F_ref9_outside_w p3 1 1000 _ e72 _ _ _ (H.enter [] [] (by decide) rfl)) ?_
 rintro _ w73 ⟨rfl, G74⟩
 have H := H70.step (G74.only : Only [] _ _)
 refine ⟨_, rfl, ?_⟩
 refine (zI (zB (hK69 _ _ ?_)))
 refine yF (b := x71) rfl (fun c75 => ?_) (fun c75 => ?_)
 ·have hF := zW c75 hF
  refine zD fun K76 hK76 => ?_
  refine zC ?_
  refine zA rfl rfl (zF (v := .slice none 0 0) rfl) ?_
  refine zA rfl rfl (zF (v := .int .i64 9) rfl) ?_
  refine (zI (zB (hK76 _ _ ?_)))
  have H := own_nil H (Rp.int .i64) 3
  have hR := Option.some.inj hF
  subst hR
  refine (yG (zZ (post2 (v1 := .slice none 0 0) (v2 := .int .i64 9) rfl rfl rfl ?_)))
  exact ⟨.slice none 0 0, rfl, H.pick [6] (by decide)⟩
 have hF := zX c75 hF
 refine (yA (zB (hK68 _ _ ?_)))
 refine zD fun K78 hK78 => ?_
 refine zC ?_
 refine zA rfl rfl (zG (v := v42) rfl) ?_
 have H79 := H
 have H := H.freeze (i := 4) rfl
 obtain ⟨x80, e81, hF⟩ := zJ hF
 refine yJ rfl rfl (yC en24 rfl) (F_ref9_ranked_w x37 1 2 v42 _ e81 _ _ _ (H.enter [] [4] (by decide) rfl)) ?_
 rintro _ w82 ⟨rfl, G83⟩
 have H := H79.step (G83.only : Only [] _ _)
 refine ⟨_, rfl, ?_⟩
 refine zA rfl rfl (zF (v := .int .i64 x80) rfl) ?_
 refine (zI (zB (hK78 _ _ ?_)))
 refine zD fun K84 hK84 => ?_
 refine zC ?_
 refine zA rfl rfl (zF (v := .slice none 0 0) rfl) ?_
 refine (zI (zB (hK84 _ _ ?_)))
 obtain ⟨g304, hF, hK307⟩ := zJ hF
 refine yL [16, 17, 44, 45, 46, 47, 48, 49, 50, 51, 52, 53, 54, 55, 56, 57, 58, 59, 60, 61, 62, 63, 64, 65] (fun (g : Value) => [(16, g)]) (fun g wl => Hd O w wl S [.own (Rp.int .i64) g 3 g304, .own (Rp.int .i64) v42 3 x37, .own (Rp.int .i64) v44 3 x38]) ?_ ?_
 ·skip
  refine zD fun K308 hK308 => ?_
  refine zC ?_
  refine zA rfl rfl (zF (v := .int .i64 0) rfl) ?_
  refine (zI (zB (hK308 _ _ ?_)))
  refine yK ?_
  have H := own_nil H (Rp.int .i64) 3
  unfold F_ref9_Odd_L1 at hF
  obtain ⟨B524, n525, eB526, hF⟩ := yT hF
  refine xC [16, 17, 44, 45, 46, 47, 48, 49, 50, 51, 52, 53, 54, 55, 56, 57, 58, 59, 60, 61, 62, 63, 64, 65] (fun (g : Nat × (List Int) × Int × Value) => [(16, g.2.2.2), (17, .int .i64 g.2.2.1)]) (fun g wl => Hd O w wl S [.own (Rp.int .i64) g.2.2.2 3 g.2.1, .own (Rp.int .i64) v42 3 x37, .own (Rp.int .i64) v44 3 x38] ∧ loopN B524 g.1 (g.2.1, g.2.2.1) = some g304) (fun g => g.1) (n525, [], 0, .slice none 0 0) (zK rfl (zK rfl zQ)) ⟨H.pick [6, 4, 5] (by decide), hF⟩ ?_
  clear H hF
  rintro ⟨n525, g520, g522, v521⟩ ρ w528 ⟨H, hF⟩
  obtain ⟨n529, rfl, hF⟩ := yX hF
  have hF := yY eB526 hF
  refine zD fun K539 hK539 => ?_
  refine zD fun K540 hK540 => ?_
  refine zC ?_
  refine zA rfl rfl (zG (v := .int .i64 g522) rfl) ?_
  refine zA rfl rfl (zG (v := v42) rfl) ?_
  obtain ⟨x541, e542, hF⟩ := zH hF
  obtain ⟨a543, c544, q545⟩ := Sr.len (Sr.of_own (H.item (i := 1) rfl))
  refine zA rfl rfl (zT (xI u33 q545) (congrArg (Value.int .i64) e542)) ?_
  obtain ⟨x546, e547, hF⟩ := zH hF
  refine zA rfl rfl (zT (xK (a := g522) (b := x541) rfl rfl) (congrArg Value.bool e547)) ?_
  refine (zI (zB (hK540 _ _ ?_)))
  refine yF (b := x546) rfl (fun c548 => ?_) (fun c548 => ?_)
  ·have hF := zW c548 hF
   refine (yA (zB (hK539 _ _ ?_)))
   refine zD fun K589 hK589 => ?_
   refine yK ?_
   have H590 := H
   have H := H.rebase
   have H591 := H
   refine WP_mix0 H [0, 1, 2, 3, 4, 5, 6, 7, 8, 9, 10, 11, 12, 13, 14, 15, 16] [.pure, .pure, .pure, .pure, .read, .pure, .pure, .pure, .pure, .pure, .pure, .read, .pure, .pure, .new, .eff, .pure] mixed (by kernel_rfl) (by kernel_rfl) (by kernel_rfl) rfl ?_
   refine Mx.zS rfl rfl rfl (fun w' hw' => zG (v := v521) rfl) ?_
   refine Mx.zS rfl rfl rfl (fun w' hw' => zG (v := v42) rfl) ?_
   refine Mx.zS rfl rfl rfl (fun w' hw' => zG (v := .int .i64 g522) rfl) ?_
   obtain ⟨x592, e593, hF⟩ := zJ hF
   obtain ⟨b594, c596, cs597, q598, h601, h602⟩ := own_at (H.item (i := 1) rfl) e593
   obtain rfl : cs597 = [.int .i64 x592] := h601
   refine Mx.zS rfl rfl rfl (fun w' hw' => xG u33 sz3 q598 rfl (yD e593).1 (yD e593).2.1 rfl rfl) ?_
   refine Mx.xM oS rfl rfl rfl (fun w' hw' => zU one3 rfl (Cells.get (h602.sees hw') (i := 0) rfl)) ?_
   refine Mx.zS rfl rfl rfl (fun w' hw' => zG (v := .int .i64 x80) rfl) ?_
   obtain ⟨x603, e604, hF⟩ := zH hF
   refine Mx.zS rfl rfl rfl (fun w' hw' => Do_sub (a := x592) (b := x80) rfl rfl e604) ?_
   refine Mx.zS rfl rfl rfl (fun w' hw' => zG (v := .int .i64 x80) rfl) ?_
   refine Mx.zS rfl rfl rfl (fun w' hw' => zG (v := v42) rfl) ?_
   refine Mx.zS rfl rfl rfl (fun w' hw' => zG (v := .int .i64 g522) rfl) ?_
   obtain ⟨x605, e606, hF⟩ := zJ hF
   obtain ⟨b607, c609, cs610, q611, h614, h615⟩ := own_at (H.item (i := 1) rfl) e606
   obtain rfl : cs610 = [.int .i64 x605] := h614
   refine Mx.zS rfl rfl rfl (fun w' hw' => xG u33 sz3 q611 rfl (yD e606).1 (yD e606).2.1 rfl rfl) ?_
   refine Mx.xM oS rfl rfl rfl (fun w' hw' => zU one3 rfl (Cells.get (h615.sees hw') (i := 0) rfl)) ?_
   obtain ⟨x616, e617, hF⟩ := zH hF
   refine Mx.zS rfl rfl rfl (fun w' hw' => Do_sub (a := x80) (b := x605) rfl rfl e617) ?_
   obtain ⟨x618, e619, hF⟩ := zH hF
   refine Mx.zS rfl rfl rfl (fun w' hw' => Do_max (j := x603) (q := x616) rfl rfl e619) ?_
   obtain ⟨x620, e621, hF⟩ := zH hF
   subst e621
   refine Mx.XL_exN oS rfl rfl rfl (fun w' hw' => Ls_of (Lx_bs (r := (Rp.int .i64)) (xl := [x618]) (cs := [.int .i64 x618]) u33 el3 (by decide) (by decide) rfl (xW (vs := [.int .i64 x618]) (by decide) rfl rfl ⟨rfl, trivial⟩ rfl) (H.sees hw') ⟨[.int .i64 x618], [], rfl, rfl, rfl⟩) (Ys_bs (cs := [.int .i64 x618]) u33 el3 (by decide) (by decide) (xW (vs := [.int .i64 x618]) (by decide) rfl rfl ⟨rfl, trivial⟩ rfl))) ?_
   rintro w' v623 w624 hw' H
   obtain ⟨x625, e626, hF⟩ := zJ hF
   refine Mx.XL_ex oS rfl rfl rfl (fun w' hw' => Lx_app (H.sees hw') (i := 0) rfl u33 el3 rfl rfl (Sr.of_own ((H.sees hw').item (i := 3) rfl)) e626) ?_
   rintro w' v627 w628 hw' H
   refine ⟨H.only, ?_⟩
   refine Mx.zS rfl rfl rfl (fun w' hw' => zF (v := v627) rfl) ?_
   refine Mx.wG fun w629 hS => ?_
   have H := H.sees hS
   have H := H590.rejoin H
   refine (yU (zB (hK589 _ _ ?_)))
   refine zC ?_
   refine zA rfl rfl (zG (v := .int .i64 g522) rfl) ?_
   obtain ⟨x630, e631, hF⟩ := zH hF
   refine zA rfl rfl (xJ (a := g522) (b := 1) rfl rfl e631) ?_
   refine zA rfl rfl (zF (v := .int .i64 x630) rfl) ?_
   refine (zI (zB (And.intro ?_ ?_)))
   ·repeat' (first | with_reducible exact zN | refine zV rfl ?_ | refine zO rfl rfl ?_)
   exact ⟨(n529, x625, x630, v627), (zK rfl (zK rfl zQ)), ⟨H.pick [0, 1, 2] (by decide), hF⟩, Nat.lt_succ_self _⟩
  have hF := zX c548 hF
  have hR := Option.some.inj hF
  subst hR
  refine (xB (yN (yN (yR (zB (And.intro ?_ ?_))))))
  ·repeat' (first | with_reducible exact zN | refine zV rfl ?_ | refine zO rfl rfl ?_)
  exact ⟨v521, (zK rfl zQ), H.pick [0, 1, 2] (by decide)⟩
 rintro v305 ρ w306 H
 have hF := hK307
 refine zD fun K632 hK632 => ?_
 refine zC ?_
 refine zA rfl rfl (zG (v := .int .i64 p3) rfl) ?_
 refine zA rfl rfl (zG (v := v305) rfl) ?_
 have H633 := H
 have H := H.freeze (i := 0) rfl
 obtain ⟨x634, e635, hF⟩ := zJ hF
 refine yJ rfl rfl (yC en24 rfl) (F_ref9_ranked_w g304 1 2 v305 _ e635 _ _ _ (H.enter [] [0] (by decide) rfl)) ?_
 rintro _ w636 ⟨rfl, G637⟩
 have H := H633.step (G637.only : Only [] _ _)
 refine ⟨_, rfl, ?_⟩
 obtain ⟨x638, e639, hF⟩ := zH hF
 refine zA rfl rfl (Do_mul (a := p3) (b := x634) rfl rfl e639) ?_
 refine zA rfl rfl (zF (v := .int .i64 x638) rfl) ?_
 refine (zI (zB (hK632 _ _ ?_)))
 refine zD fun K640 hK640 => ?_
 refine zC ?_
 refine zA rfl rfl (zF (v := .slice none 0 0) rfl) ?_
 refine (zI (zB (hK640 _ _ ?_)))
 obtain ⟨g776, hF, hK779⟩ := zJ hF
 refine yL [19, 20, 70, 71, 72, 73, 74, 75, 76, 77, 78, 79, 80, 81, 82, 83, 84, 85, 86, 87, 88] (fun (g : Value) => [(19, g)]) (fun g wl => Hd O w wl S [.own (Rp.int .i64) g 3 g776]) ?_ ?_
 ·skip
  refine zD fun K780 hK780 => ?_
  refine zC ?_
  refine zA rfl rfl (zF (v := .int .i64 0) rfl) ?_
  refine (zI (zB (hK780 _ _ ?_)))
  refine yK ?_
  have H := own_nil H (Rp.int .i64) 3
  unfold F_ref9_Odd_L2 at hF
  obtain ⟨B912, n913, eB914, hF⟩ := yT hF
  refine xC [19, 20, 70, 71, 72, 73, 74, 75, 76, 77, 78, 79, 80, 81, 82, 83, 84, 85, 86, 87, 88] (fun (g : Nat × (List Int) × Int × Value) => [(19, g.2.2.2), (20, .int .i64 g.2.2.1)]) (fun g wl => Hd O w wl S [.own (Rp.int .i64) g.2.2.2 3 g.2.1, .own (Rp.int .i64) v305 3 g304, .own (Rp.int .i64) v42 3 x37, .own (Rp.int .i64) v44 3 x38] ∧ loopN B912 g.1 (g.2.1, g.2.2.1) = some g776) (fun g => g.1) (n913, [], 0, .slice none 0 0) (zK rfl (zK rfl zQ)) ⟨H.pick [3, 0, 1, 2] (by decide), hF⟩ ?_
  clear H hF
  rintro ⟨n913, g908, g910, v909⟩ ρ w916 ⟨H, hF⟩
  obtain ⟨n917, rfl, hF⟩ := yX hF
  have hF := yY eB914 hF
  refine zD fun K927 hK927 => ?_
  refine zD fun K928 hK928 => ?_
  refine zC ?_
  refine zA rfl rfl (zG (v := .int .i64 g910) rfl) ?_
  refine zA rfl rfl (zG (v := v42) rfl) ?_
  obtain ⟨x929, e930, hF⟩ := zH hF
  obtain ⟨a931, c932, q933⟩ := Sr.len (Sr.of_own (H.item (i := 2) rfl))
  refine zA rfl rfl (zT (xI u33 q933) (congrArg (Value.int .i64) e930)) ?_
  obtain ⟨x934, e935, hF⟩ := zH hF
  refine zA rfl rfl (zT (xK (a := g910) (b := x929) rfl rfl) (congrArg Value.bool e935)) ?_
  refine (zI (zB (hK928 _ _ ?_)))
  refine yF (b := x934) rfl (fun c936 => ?_) (fun c936 => ?_)
  ·have hF := zW c936 hF
   refine (yA (zB (hK927 _ _ ?_)))
   obtain ⟨g972, hF, hK975⟩ := zJ hF
   refine yL [19, 76, 77, 78, 79, 80, 81, 82, 83, 84, 85, 86, 87, 88] (fun (g : Value) => [(19, g)]) (fun g wl => Hd O w wl S [.own (Rp.int .i64) g 3 g972, .own (Rp.int .i64) v305 3 g304, .own (Rp.int .i64) v42 3 x37, .own (Rp.int .i64) v44 3 x38]) ?_ ?_
   ·skip
    refine yK ?_
    refine zD fun K976 hK976 => ?_
    refine zC ?_
    refine zA rfl rfl (zG (v := v305) rfl) ?_
    refine zA rfl rfl (zG (v := .int .i64 g910) rfl) ?_
    obtain ⟨x977, e978, hF⟩ := zJ hF
    obtain ⟨b979, c981, cs982, q983, h986, h987⟩ := own_at (H.item (i := 1) rfl) e978
    obtain rfl : cs982 = [.int .i64 x977] := h986
    refine zA rfl rfl (xG u33 sz3 q983 rfl (yD e978).1 (yD e978).2.1 rfl rfl) ?_
    refine zA rfl rfl (zU one3 rfl (Cells.get h987 (i := 0) rfl)) ?_
    refine zA rfl rfl (zG (v := .int .i64 x638) rfl) ?_
    obtain ⟨x988, e989, hF⟩ := zH hF
    refine zA rfl rfl (zT (wF (a := x977) (b := x638) rfl rfl) (congrArg Value.bool e989)) ?_
    refine (zI (zB (hK976 _ _ ?_)))
    refine yF (b := x988) rfl (fun c990 => ?_) (fun c990 => ?_)
    ·have hF := zW c990 hF
     refine zC ?_
     refine zA rfl rfl (zG (v := v909) rfl) ?_
     refine zA rfl rfl (zG (v := v44) rfl) ?_
     refine zA rfl rfl (zG (v := .int .i64 g910) rfl) ?_
     obtain ⟨x991, e992, hF⟩ := zJ hF
     obtain ⟨b993, c995, cs996, q997, h1000, h1001⟩ := own_at (H.item (i := 3) rfl) e992
     obtain rfl : cs996 = [.int .i64 x991] := h1000
     refine zA rfl rfl (xG u33 sz3 q997 rfl (yD e992).1 (yD e992).2.1 rfl rfl) ?_
     refine zA rfl rfl (zU one3 rfl (Cells.get h1001 (i := 0) rfl)) ?_
     obtain ⟨x1002, e1003, hF⟩ := zH hF
     subst e1003
     refine xE rfl rfl (Lx_bs (r := (Rp.int .i64)) (xl := [x991]) (cs := [.int .i64 x991]) u33 el3 (by decide) (by decide) rfl (xW (vs := [.int .i64 x991]) (by decide) rfl rfl ⟨rfl, trivial⟩ rfl) H ⟨[.int .i64 x991], [], rfl, rfl, rfl⟩) ?_
     rintro v1005 w1006 H
     obtain ⟨x1007, e1008, hF⟩ := zJ hF
     refine xE rfl rfl (Lx_app H (i := 0) rfl u33 el3 rfl rfl (Sr.of_own (H.item (i := 4) rfl)) e1008) ?_
     rintro v1009 w1010 H
     refine zA rfl rfl (zF (v := v1009) rfl) ?_
     have hR := Option.some.inj hF
     subst hR
     refine (zI (yU (zB (And.intro ?_ ?_))))
     ·repeat' (first | with_reducible exact zN | refine zV rfl ?_ | refine zO rfl rfl ?_)
     exact ⟨v1009, (zK rfl zQ), H.pick [0, 1, 2, 3] (by decide)⟩
    have hF := zX c990 hF
    have hR := Option.some.inj hF
    subst hR
    refine (yA (yU (zB (And.intro ?_ ?_))))
    ·repeat' (first | with_reducible exact zN | refine zV rfl ?_ | refine zO rfl rfl ?_)
    exact ⟨v909, (zK rfl zQ), H.pick [0, 1, 2, 3] (by decide)⟩
   rintro v973 ρ w974 H
   have hF := hK975
   refine zC ?_
   refine zA rfl rfl (zG (v := .int .i64 g910) rfl) ?_
   obtain ⟨x1011, e1012, hF⟩ := zH hF
   refine zA rfl rfl (xJ (a := g910) (b := 1) rfl rfl e1012) ?_
   refine zA rfl rfl (zF (v := .int .i64 x1011) rfl) ?_
   refine (zI (zB (And.intro ?_ ?_)))
   ·repeat' (first | with_reducible exact zN | refine zV rfl ?_ | refine zO rfl rfl ?_)
   exact ⟨(n917, g972, x1011, v973), (zK rfl (zK rfl zQ)), ⟨H.pick [0, 1, 2, 3] (by decide), hF⟩, Nat.lt_succ_self _⟩
  have hF := zX c936 hF
  have hR := Option.some.inj hF
  subst hR
  refine (xB (yN (yN (yR (zB (And.intro ?_ ?_))))))
  ·repeat' (first | with_reducible exact zN | refine zV rfl ?_ | refine zO rfl rfl ?_)
  exact ⟨v909, (zK rfl zQ), H.pick [0] (by decide)⟩
 rintro v777 ρ w778 H
 have hF := hK779
 refine zD fun K1013 hK1013 => ?_
 refine zC ?_
 refine zA rfl rfl (zG (v := v777) rfl) ?_
 refine zA rfl rfl (zF (v := v777) rfl) ?_
 refine zA rfl rfl (zF (v := .int .i64 0) rfl) ?_
 refine (zI (zB (hK1013 _ _ ?_)))
 have hR := Option.some.inj hF
 subst hR
 refine (yG (post2 (v1 := v777) (v2 := .int .i64 0) rfl rfl rfl ?_))
 exact ⟨v777, rfl, H.pick [0] (by decide)⟩
end Go.Proofs.YtbjhondbheijiaaGreatDoor.L
namespace Go.Proofs.YtbjhondbheijiaaGreatDoor.L
open Go.RowKit Go.OB Go.Lf
/- orangebox/fleet.CheckTable$1 -/
set_option maxHeartbeats 4000000 in
theorem F_fleet_CheckTable_1_w (p0 : FleetRow) (v1 : Value) (r : Bool) (hF : F_fleet_CheckTable_1 p0 = some r) (O S : List Nat) (w : World) (H : Hd O w w S [.fz (.sl (Rp.int .i64) v1 p0.Events)]) :
  Calls Tryz.prog 70 ([.agg [.string (bs p0.Key), .bool p0.Hidden, .int .i64 p0.Flights, v1].toArray] : List Value).toArray w fun e w' => e = .returned (.bool r) ∧ Hd O w w' S [] := by
 unfold F_fleet_CheckTable_1 at hF
 refine yB 6 Tryz.func70 rfl rfl rfl ?_
 refine zD fun K3 hK3 => ?_
 refine zC ?_
 refine xE rfl rfl (Lx_box (cs := [.string (bs p0.Key), .bool p0.Hidden, .int .i64 p0.Flights, v1]) rfl H) ?_
 rintro _ w6 ⟨b4, rfl, H⟩
 refine zA rfl rfl (zF (v := .bool false) rfl) ?_
 refine (zI (zB (hK3 _ _ ?_)))
 refine zD fun K7 hK7 => ?_
 refine zC ?_
 refine zA rfl rfl (fa62_1 rfl) ?_
 refine zA rfl rfl (zU one4 rfl (Cells.get (Blk.cells (H.item (i := 1) rfl)) (i := 1) rfl)) ?_
 obtain ⟨x8, e9, hF⟩ := zH hF
 refine zA rfl rfl (zT (xY (p := p0.Hidden) rfl) (congrArg Value.bool e9)) ?_
 refine zA rfl rfl (zF (v := .bool x8) rfl) ?_
 refine (zI (zB (hK7 _ _ ?_)))
 have hR := Option.some.inj hF
 subst hR
 refine (yG (post1 (v1 := .bool x8) rfl rfl ?_))
 exact ⟨rfl, H.pick [] (by decide)⟩
end Go.Proofs.YtbjhondbheijiaaGreatDoor.L
namespace Go.Proofs.YtbjhondbheijiaaGreatDoor.L
open Go.RowKit Go.OB Go.Lf
/- slices.IndexFunc[[]orangebox/api.FleetRow,orangebox/api.FleetRow]@orangebox/fleet.CheckTable$1 -/
set_option maxHeartbeats 4000000 in
theorem F_slices_IndexFunc___api_FleetRow_api_FleetRow__fleet_CheckTable_1_w (p0 : List FleetRow) (v1 : Value) (r : Int) (hF : F_slices_IndexFunc___api_FleetRow_api_FleetRow__fleet_CheckTable_1 p0 = some r) (O S : List Nat) (w : World) (H : Hd O w w S [.fz (.sl rFleetRow v1 p0)]) :
  Calls Tryz.prog 69 ([v1, .func (.func 70) #[] #[]] : List Value).toArray w fun e w' => e = .returned (.int .i64 r) ∧ Hd O w w' S [] := by
 unfold F_slices_IndexFunc___api_FleetRow_api_FleetRow__fleet_CheckTable_1 at hF
 refine yB 19 Tryz.func69 rfl rfl rfl ?_
 refine zD fun K3 hK3 => ?_
 refine zC ?_
 refine zA rfl rfl (zF (v := .int .i64 0) rfl) ?_
 refine (zI (zB (hK3 _ _ ?_)))
 obtain ⟨k132, ek133, hF⟩ := xU hF
 refine yL [4, 5, 6, 7, 8, 9, 10, 11, 12, 13, 14, 15, 16, 17, 18] (fun (g : Unit) => []) (fun g wl => Hd O w wl S [] ∧ k132 () = some r) ?_ ?_
 ·skip
  refine zD fun K134 hK134 => ?_
  refine zC ?_
  refine zA rfl rfl (zG (v := v1) rfl) ?_
  obtain ⟨x135, e136, hF⟩ := zH hF
  obtain ⟨a137, c138, q139⟩ := SlF.len ((H.item (i := 0) rfl))
  refine zA rfl rfl (zT (xI u65 q139) (congrArg (Value.int .i64) e136)) ?_
  refine zA rfl rfl (zG (v := .int .i64 0) rfl) ?_
  refine (zI (zB (hK134 _ _ ?_)))
  refine yK ?_
  unfold F_slices_IndexFunc___api_FleetRow_api_FleetRow__fleet_CheckTable_1_L1 at hF
  obtain ⟨B256, n257, eB258, hF⟩ := yT hF
  refine xC [4, 5, 8, 9, 10, 11, 12, 13, 14, 15, 16, 17, 18] (fun (g : Nat × Int) => [(8, .int .i64 g.2)]) (fun g wl => Hd O w wl S [.fz (.sl rFleetRow v1 p0)] ∧ loopN B256 g.1 g.2 = some r) (fun g => g.1) (n257, 0) (zK rfl zQ) ⟨H.pick [0] (by decide), hF⟩ ?_
  clear H hF
  rintro ⟨n257, g255⟩ ρ w260 ⟨H, hF⟩
  obtain ⟨n261, rfl, hF⟩ := yX hF
  have hF := yY eB258 hF
  refine zD fun K262 hK262 => ?_
  refine zC ?_
  obtain ⟨x263, e264, hF⟩ := zH hF
  refine zA rfl rfl (zT (xK (a := g255) (b := x135) rfl rfl) (congrArg Value.bool e264)) ?_
  refine (zI (zB (hK262 _ _ ?_)))
  refine zD fun K266 hK266 => ?_
  refine yF (b := x263) rfl (fun c267 => ?_) (fun c267 => ?_)
  ·have hF := zW c267 hF
   refine (yA (zB (hK266 _ _ ?_)))
   refine zD fun K292 hK292 => ?_
   refine yK ?_
   refine zD fun K293 hK293 => ?_
   refine zC ?_
   refine zA rfl rfl (zG (v := .int .i64 g255) rfl) ?_
   refine zA rfl rfl (zF (v := .int .i64 g255) rfl) ?_
   refine (zI (zB (hK293 _ _ ?_)))
   refine zD fun K294 hK294 => ?_
   refine zC ?_
   refine zA rfl rfl (zG (v := .func (.func 70) #[] #[]) rfl) ?_
   refine zA rfl rfl (zG (v := v1) rfl) ?_
   refine zA rfl rfl (zG (v := .int .i64 g255) rfl) ?_
   obtain ⟨x295, e296, hF⟩ := zJ hF
   obtain ⟨b297, o298, c299, cs300, q301, h304, h302, h303, h305⟩ := wB (H.item (i := 0) rfl) e296
   obtain ⟨v306, rfl, h307⟩ := rFleetRow_open h304
   have H := H.fzs [.at b297 (o298 + g255.toNat * 4) _, .sl (Rp.int .i64) v306 x295.Events] ⟨⟨h302, h303, h305⟩, h307, trivial⟩
   refine zA rfl rfl (xG u65 sz62 q301 rfl (yD e296).1 (yD e296).2.1 rfl rfl) ?_
   refine zA rfl rfl (zT (yV (cs := [.string (bs x295.Key), .bool x295.Hidden, .int .i64 x295.Flights, v306]) agg62 rfl sz62 rfl (H.item (i := 1) rfl).2.2) rfl) ?_
   have H310 := H
   obtain ⟨x311, e312, hF⟩ := zJ hF
   refine yJ rfl rfl (DoC_clo en70 rfl rfl) (F_fleet_CheckTable_1_w x295 v306 _ e312 _ _ _ (H.enter [] [2] (by decide) rfl)) ?_
   rintro _ w313 ⟨rfl, G314⟩
   have H := H310.step (G314.only : Only [] _ _)
   refine ⟨_, rfl, ?_⟩
   refine (zI (zB (hK294 _ _ ?_)))
   refine yF (b := x311) rfl (fun c315 => ?_) (fun c315 => ?_)
   ·have hF := zW c315 hF
    refine zD fun K316 hK316 => ?_
    refine zC ?_
    refine zA rfl rfl (zG (v := .int .i64 g255) rfl) ?_
    refine zA rfl rfl (zF (v := .int .i64 g255) rfl) ?_
    refine (zI (zB (hK316 _ _ ?_)))
    have hR := Option.some.inj hF
    subst hR
    refine (yG (yM (zZ (zZ (yM (zZ (post1 (v1 := .int .i64 g255) rfl rfl ?_)))))))
    exact ⟨rfl, H.pick [] (by decide)⟩
   have hF := zX c315 hF
   refine (yA (yU (zB (hK292 _ _ ?_))))
   refine zC ?_
   obtain ⟨x317, e318, hF⟩ := zH hF
   refine zA rfl rfl (xJ (a := g255) (b := 1) rfl rfl e318) ?_
   refine zA rfl rfl (zG (v := .int .i64 x317) rfl) ?_
   refine (zI (zB (And.intro ?_ ?_)))
   ·repeat' (first | with_reducible exact zN | refine zV rfl ?_ | refine zO rfl rfl ?_)
   exact ⟨(n261, x317), (zK rfl zQ), ⟨H.pick [0] (by decide), hF⟩, Nat.lt_succ_self _⟩
  have hF := zX c267 hF
  refine (xB (yN (yN (yR (zB (And.intro ?_ ?_))))))
  ·repeat' (first | with_reducible exact zN | refine zV rfl ?_ | refine zO rfl rfl ?_)
  exact ⟨(), zQ, ⟨H.pick [] (by decide), hF⟩⟩
 rintro _ ρ w131 ⟨H, hF⟩
 have hF := xZ ek133 hF
 refine zD fun K319 hK319 => ?_
 refine zC ?_
 refine zA rfl rfl (zF (v := .int .i64 (-1)) rfl) ?_
 refine (zI (zB (hK319 _ _ ?_)))
 have hR := Option.some.inj hF
 subst hR
 refine (yG (post1 (v1 := .int .i64 (-1)) rfl rfl ?_))
 exact ⟨rfl, H.pick [] (by decide)⟩
end Go.Proofs.YtbjhondbheijiaaGreatDoor.L
namespace Go.Proofs.YtbjhondbheijiaaGreatDoor.L
open Go.RowKit Go.OB Go.Lf
/- orangebox/fleet.CheckTable$3 -/
set_option maxHeartbeats 4000000 in
theorem F_fleet_CheckTable_3_w (p0 : FleetRow) (c0 : FleetRow) (v1 : Value) (b3 : Nat) (v4 : Value) (r : Bool) (hF : F_fleet_CheckTable_3 p0 c0 = some r) (O S : List Nat) (w : World) (H : Hd O w w S [.blk b3 [.string (bs c0.Key), .bool c0.Hidden, .int .i64 c0.Flights, v4] 62, .fz (.sl (Rp.int .i64) v1 p0.Events), .fz (.sl (Rp.int .i64) v4 c0.Events)]) :
  Calls Tryz.prog 73 ([.agg [.string (bs p0.Key), .bool p0.Hidden, .int .i64 p0.Flights, v1].toArray, .pointer (some ⟨b3, 0, none⟩)] : List Value).toArray w fun e w' => e = .returned (.bool r) ∧ Hd O w w' S [.blk b3 [.string (bs c0.Key), .bool c0.Hidden, .int .i64 c0.Flights, v4] 62] := by
 unfold F_fleet_CheckTable_3 at hF
 refine yB 9 Tryz.func73 rfl rfl rfl ?_
 refine zD fun K7 hK7 => ?_
 refine zC ?_
 refine xE rfl rfl (Lx_box (cs := [.string (bs p0.Key), .bool p0.Hidden, .int .i64 p0.Flights, v1]) rfl H) ?_
 rintro _ w10 ⟨b8, rfl, H⟩
 refine zA rfl rfl (zF (v := .bool false) rfl) ?_
 refine (zI (zB (hK7 _ _ ?_)))
 refine zD fun K11 hK11 => ?_
 refine zC ?_
 refine zA rfl rfl (fa62_0 rfl) ?_
 refine zA rfl rfl (zU one9 rfl (Cells.get (Blk.cells (H.item (i := 3) rfl)) (i := 0) rfl)) ?_
 refine zA rfl rfl (fa62_0 rfl) ?_
 refine zA rfl rfl (zU one9 rfl (Cells.get (Blk.cells (H.item (i := 0) rfl)) (i := 0) rfl)) ?_
 obtain ⟨x12, e13, hF⟩ := zH hF
 refine zA rfl rfl (zT (Do_eqls (s1 := p0.Key) (s2 := c0.Key) rfl rfl) (congrArg Value.bool e13)) ?_
 refine zA rfl rfl (zF (v := .bool x12) rfl) ?_
 refine (zI (zB (hK11 _ _ ?_)))
 have hR := Option.some.inj hF
 subst hR
 refine (yG (post1 (v1 := .bool x12) rfl rfl ?_))
 exact ⟨rfl, H.pick [0] (by decide)⟩
end Go.Proofs.YtbjhondbheijiaaGreatDoor.L
namespace Go.Proofs.YtbjhondbheijiaaGreatDoor.L
open Go.RowKit Go.OB Go.Lf
/- slices.IndexFunc[[]orangebox/api.FleetRow,orangebox/api.FleetRow]@orangebox/fleet.CheckTable$3 -/
set_option maxHeartbeats 4000000 in
theorem F_slices_IndexFunc___api_FleetRow_api_FleetRow__fleet_CheckTable_3_w (p0 : List FleetRow) (p1c0 : FleetRow) (v1 : Value) (b3 : Nat) (v4 : Value) (r : Int) (hF : F_slices_IndexFunc___api_FleetRow_api_FleetRow__fleet_CheckTable_3 p0 p1c0 = some r) (O S : List Nat) (w : World) (H : Hd O w w S [.blk b3 [.string (bs p1c0.Key), .bool p1c0.Hidden, .int .i64 p1c0.Flights, v4] 62, .fz (.sl rFleetRow v1 p0), .fz (.sl (Rp.int .i64) v4 p1c0.Events)]) :
  Calls Tryz.prog 69 ([v1, .func (.func 73) #[] [.pointer (some ⟨b3, 0, none⟩)].toArray] : List Value).toArray w fun e w' => e = .returned (.int .i64 r) ∧ Hd O w w' S [.blk b3 [.string (bs p1c0.Key), .bool p1c0.Hidden, .int .i64 p1c0.Flights, v4] 62] := by
 unfold F_slices_IndexFunc___api_FleetRow_api_FleetRow__fleet_CheckTable_3 at hF
 refine yB 19 Tryz.func69 rfl rfl rfl ?_
 refine zD fun K7 hK7 => ?_
 refine zC ?_
 refine zA rfl rfl (zF (v := .int .i64 0) rfl) ?_
 refine (zI (zB (hK7 _ _ ?_)))
 obtain ⟨k132, ek133, hF⟩ := xU hF
 refine yL [4, 5, 6, 7, 8, 9, 10, 11, 12, 13, 14, 15, 16, 17, 18] (fun (g : Unit) => []) (fun g wl => Hd O w wl S [.blk b3 [.string (bs p1c0.Key), .bool p1c0.Hidden, .int .i64 p1c0.Flights, v4] 62, .fz (.sl (Rp.int .i64) v4 p1c0.Events)] ∧ k132 () = some r) ?_ ?_
 ·skip
  refine zD fun K134 hK134 => ?_
  refine zC ?_
  refine zA rfl rfl (zG (v := v1) rfl) ?_
  obtain ⟨x135, e136, hF⟩ := zH hF
  obtain ⟨a137, c138, q139⟩ := SlF.len ((H.item (i := 1) rfl))
  refine zA rfl rfl (zT (xI u65 q139) (congrArg (Value.int .i64) e136)) ?_
  refine zA rfl rfl (zG (v := .int .i64 0) rfl) ?_
  refine (zI (zB (hK134 _ _ ?_)))
  refine yK ?_
  unfold F_slices_IndexFunc___api_FleetRow_api_FleetRow__fleet_CheckTable_3_L1 at hF
  obtain ⟨B252, n253, eB254, hF⟩ := yT hF
  refine xC [4, 5, 8, 9, 10, 11, 12, 13, 14, 15, 16, 17, 18] (fun (g : Nat × Int) => [(8, .int .i64 g.2)]) (fun g wl => Hd O w wl S [.blk b3 [.string (bs p1c0.Key), .bool p1c0.Hidden, .int .i64 p1c0.Flights, v4] 62, .fz (.sl (Rp.int .i64) v4 p1c0.Events), .fz (.sl rFleetRow v1 p0)] ∧ loopN B252 g.1 g.2 = some r) (fun g => g.1) (n253, 0) (zK rfl zQ) ⟨H.pick [0, 2, 1] (by decide), hF⟩ ?_
  clear H hF
  rintro ⟨n253, g251⟩ ρ w256 ⟨H, hF⟩
  obtain ⟨n257, rfl, hF⟩ := yX hF
  have hF := yY eB254 hF
  refine zD fun K258 hK258 => ?_
  refine zC ?_
  obtain ⟨x259, e260, hF⟩ := zH hF
  refine zA rfl rfl (zT (xK (a := g251) (b := x135) rfl rfl) (congrArg Value.bool e260)) ?_
  refine (zI (zB (hK258 _ _ ?_)))
  refine zD fun K262 hK262 => ?_
  refine yF (b := x259) rfl (fun c263 => ?_) (fun c263 => ?_)
  ·have hF := zW c263 hF
   refine (yA (zB (hK262 _ _ ?_)))
   refine zD fun K287 hK287 => ?_
   refine yK ?_
   refine zD fun K288 hK288 => ?_
   refine zC ?_
   refine zA rfl rfl (zG (v := .int .i64 g251) rfl) ?_
   refine zA rfl rfl (zF (v := .int .i64 g251) rfl) ?_
   refine (zI (zB (hK288 _ _ ?_)))
   refine zD fun K289 hK289 => ?_
   refine zC ?_
   refine zA rfl rfl (zG (v := .func (.func 73) #[] [.pointer (some ⟨b3, 0, none⟩)].toArray) rfl) ?_
   refine zA rfl rfl (zG (v := v1) rfl) ?_
   refine zA rfl rfl (zG (v := .int .i64 g251) rfl) ?_
   obtain ⟨x290, e291, hF⟩ := zJ hF
   obtain ⟨b292, o293, c294, cs295, q296, h299, h297, h298, h300⟩ := wB (H.item (i := 2) rfl) e291
   obtain ⟨v301, rfl, h302⟩ := rFleetRow_open h299
   have H := H.fzs [.at b292 (o293 + g251.toNat * 4) _, .sl (Rp.int .i64) v301 x290.Events] ⟨⟨h297, h298, h300⟩, h302, trivial⟩
   refine zA rfl rfl (xG u65 sz62 q296 rfl (yD e291).1 (yD e291).2.1 rfl rfl) ?_
   refine zA rfl rfl (zT (yV (cs := [.string (bs x290.Key), .bool x290.Hidden, .int .i64 x290.Flights, v301]) agg62 rfl sz62 rfl (H.item (i := 3) rfl).2.2) rfl) ?_
   obtain ⟨x305, e306, hF⟩ := zJ hF
   refine yJ rfl rfl (DoC_clo en73 rfl rfl) (F_fleet_CheckTable_3_w x290 p1c0 v301 b3 v4 _ e306 _ _ _ (H.enter [0] [4, 1] (by decide) rfl)) ?_
   rintro _ w307 ⟨rfl, G308⟩
   have H : Hd O _ w307 _ [.fz (.sl (Rp.int .i64) v4 p1c0.Events), .fz (.sl rFleetRow v1 p0), .fz (.at b292 (o293 + g251.toNat * 4) [.string (bs x290.Key), .bool x290.Hidden, .int .i64 x290.Flights, v301]), .fz (.sl (Rp.int .i64) v301 x290.Events), .blk b3 [.string (bs p1c0.Key), .bool p1c0.Hidden, .int .i64 p1c0.Flights, v4] 62] := H.back [0] [4, 1] rfl G308
   refine ⟨_, rfl, ?_⟩
   refine (zI (zB (hK289 _ _ ?_)))
   refine yF (b := x305) rfl (fun c309 => ?_) (fun c309 => ?_)
   ·have hF := zW c309 hF
    refine zD fun K310 hK310 => ?_
    refine zC ?_
    refine zA rfl rfl (zG (v := .int .i64 g251) rfl) ?_
    refine zA rfl rfl (zF (v := .int .i64 g251) rfl) ?_
    refine (zI (zB (hK310 _ _ ?_)))
    have hR := Option.some.inj hF
    subst hR
    refine (yG (yM (zZ (zZ (yM (zZ (post1 (v1 := .int .i64 g251) rfl rfl ?_)))))))
    exact ⟨rfl, H.pick [4] (by decide)⟩
   have hF := zX c309 hF
   refine (yA (yU (zB (hK287 _ _ ?_))))
   refine zC ?_
   obtain ⟨x311, e312, hF⟩ := zH hF
   refine zA rfl rfl (xJ (a := g251) (b := 1) rfl rfl e312) ?_
   refine zA rfl rfl (zG (v := .int .i64 x311) rfl) ?_
   refine (zI (zB (And.intro ?_ ?_)))
   ·repeat' (first | with_reducible exact zN | refine zV rfl ?_ | refine zO rfl rfl ?_)
   exact ⟨(n257, x311), (zK rfl zQ), ⟨H.pick [4, 0, 1] (by decide), hF⟩, Nat.lt_succ_self _⟩
  have hF := zX c263 hF
  refine (xB (yN (yN (yR (zB (And.intro ?_ ?_))))))
  ·repeat' (first | with_reducible exact zN | refine zV rfl ?_ | refine zO rfl rfl ?_)
  exact ⟨(), zQ, ⟨H.pick [0, 1] (by decide), hF⟩⟩
 rintro _ ρ w131 ⟨H, hF⟩
 have hF := xZ ek133 hF
 refine zD fun K313 hK313 => ?_
 refine zC ?_
 refine zA rfl rfl (zF (v := .int .i64 (-1)) rfl) ?_
 refine (zI (zB (hK313 _ _ ?_)))
 have hR := Option.some.inj hF
 subst hR
 refine (yG (post1 (v1 := .int .i64 (-1)) rfl rfl ?_))
 exact ⟨rfl, H.pick [0] (by decide)⟩
end Go.Proofs.YtbjhondbheijiaaGreatDoor.L
namespace Go.Proofs.YtbjhondbheijiaaGreatDoor.L
open Go.RowKit Go.OB Go.Lf
/- slices.ContainsFunc[[]orangebox/api.FleetRow,orangebox/api.FleetRow]@orangebox/fleet.CheckTable$3 -/
set_option maxHeartbeats 4000000 in
theorem F_slices_ContainsFunc___api_FleetRow_api_FleetRow__fleet_CheckTable_3_w (p0 : List FleetRow) (p1c0 : FleetRow) (v1 : Value) (b3 : Nat) (v4 : Value) (r : Bool) (hF : F_slices_ContainsFunc___api_FleetRow_api_FleetRow__fleet_CheckTable_3 p0 p1c0 = some r) (O S : List Nat) (w : World) (H : Hd O w w S [.blk b3 [.string (bs p1c0.Key), .bool p1c0.Hidden, .int .i64 p1c0.Flights, v4] 62, .fz (.sl rFleetRow v1 p0), .fz (.sl (Rp.int .i64) v4 p1c0.Events)]) :
  Calls Tryz.prog 72 ([v1, .func (.func 73) #[] [.pointer (some ⟨b3, 0, none⟩)].toArray] : List Value).toArray w fun e w' => e = .returned (.bool r) ∧ Hd O w w' S [.blk b3 [.string (bs p1c0.Key), .bool p1c0.Hidden, .int .i64 p1c0.Flights, v4] 62] := by
 unfold F_slices_ContainsFunc___api_FleetRow_api_FleetRow__fleet_CheckTable_3 at hF
 refine yB 9 Tryz.func72 rfl rfl rfl ?_
 refine zD fun K7 hK7 => ?_
 refine zC ?_
 refine zA rfl rfl (zF (v := .bool false) rfl) ?_
 refine (zI (zB (hK7 _ _ ?_)))
 refine zD fun K8 hK8 => ?_
 refine zC ?_
 refine zA rfl rfl (zG (v := v1) rfl) ?_
 refine zA rfl rfl (zG (v := .func (.func 73) #[] [.pointer (some ⟨b3, 0, none⟩)].toArray) rfl) ?_
 obtain ⟨x9, e10, hF⟩ := zJ hF
 refine yJ rfl rfl (yC en69 rfl) (F_slices_IndexFunc___api_FleetRow_api_FleetRow__fleet_CheckTable_3_w p0 p1c0 v1 b3 v4 _ e10 _ _ _ (H.enter [0] [1, 2] (by decide) rfl)) ?_
 rintro _ w11 ⟨rfl, G12⟩
 have H : Hd O _ w11 _ [.fz (.sl rFleetRow v1 p0), .fz (.sl (Rp.int .i64) v4 p1c0.Events), .blk b3 [.string (bs p1c0.Key), .bool p1c0.Hidden, .int .i64 p1c0.Flights, v4] 62] := H.back [0] [1, 2] rfl G12
 refine ⟨_, rfl, ?_⟩
 obtain ⟨x13, e14, hF⟩ := zH hF
 refine zA rfl rfl (zT (Do_geq (a := x9) (b := 0) rfl rfl) (congrArg Value.bool e14)) ?_
 refine zA rfl rfl (zF (v := .bool x13) rfl) ?_
 refine (zI (zB (hK8 _ _ ?_)))
 have hR := Option.some.inj hF
 subst hR
 refine (yG (post1 (v1 := .bool x13) rfl rfl ?_))
 exact ⟨rfl, H.pick [2] (by decide)⟩
end Go.Proofs.YtbjhondbheijiaaGreatDoor.L
namespace Go.Proofs.YtbjhondbheijiaaGreatDoor.L
open Go.RowKit Go.OB Go.Lf
/- orangebox/fleet.CheckTable$2 -/
set_option maxHeartbeats 4000000 in
theorem F_fleet_CheckTable_2_w (p0 : Int) (r : Bool) (hF : F_fleet_CheckTable_2 p0 = some r) (O S : List Nat) (w : World) (H : Hd O w w S []) :
  Calls Tryz.prog 71 ([.int .i64 p0] : List Value).toArray w fun e w' => e = .returned (.bool r) ∧ Hd O w w' S [] := by
 unfold F_fleet_CheckTable_2 at hF
 refine yB 6 Tryz.func71 rfl rfl rfl ?_
 refine zD fun K1 hK1 => ?_
 refine zC ?_
 refine zA rfl rfl (zF (v := .bool false) rfl) ?_
 refine (zI (zB (hK1 _ _ ?_)))
 refine zD fun K2 hK2 => ?_
 refine zC ?_
 refine zA rfl rfl (zG (v := .int .i64 p0) rfl) ?_
 have H3 := H
 obtain ⟨x4, e5, hF⟩ := zJ hF
 refine yJ rfl rfl (yC en21 rfl) (F_fleet_within_w p0 0 1000000000 _ e5 _ _ _ (H.enter [] [] (by decide) rfl)) ?_
 rintro _ w6 ⟨rfl, G7⟩
 have H := H3.step (G7.only : Only [] _ _)
 refine ⟨_, rfl, ?_⟩
 obtain ⟨x8, e9, hF⟩ := zH hF
 refine zA rfl rfl (zT (xY (p := x4) rfl) (congrArg Value.bool e9)) ?_
 refine zA rfl rfl (zF (v := .bool x8) rfl) ?_
 refine (zI (zB (hK2 _ _ ?_)))
 have hR := Option.some.inj hF
 subst hR
 refine (yG (post1 (v1 := .bool x8) rfl rfl ?_))
 exact ⟨rfl, H.pick [] (by decide)⟩
end Go.Proofs.YtbjhondbheijiaaGreatDoor.L
namespace Go.Proofs.YtbjhondbheijiaaGreatDoor.L
open Go.RowKit Go.OB Go.Lf
/- slices.IndexFunc[[]int,int]@orangebox/fleet.CheckTable$2 -/
set_option maxHeartbeats 4000000 in
theorem F_slices_IndexFunc___int_int__fleet_CheckTable_2_w (p0 : List Int) (v1 : Value) (r : Int) (hF : F_slices_IndexFunc___int_int__fleet_CheckTable_2 p0 = some r) (O S : List Nat) (w : World) (H : Hd O w w S [.fz (.sl (Rp.int .i64) v1 p0)]) :
  Calls Tryz.prog 97 ([v1, .func (.func 71) #[] #[]] : List Value).toArray w fun e w' => e = .returned (.int .i64 r) ∧ Hd O w w' S [] := by
 unfold F_slices_IndexFunc___int_int__fleet_CheckTable_2 at hF
 refine yB 19 Tryz.func97 rfl rfl rfl ?_
 refine zD fun K3 hK3 => ?_
 refine zC ?_
 refine zA rfl rfl (zF (v := .int .i64 0) rfl) ?_
 refine (zI (zB (hK3 _ _ ?_)))
 obtain ⟨k120, ek121, hF⟩ := xU hF
 refine yL [4, 5, 6, 7, 8, 9, 10, 11, 12, 13, 14, 15, 16, 17, 18] (fun (g : Unit) => []) (fun g wl => Hd O w wl S [] ∧ k120 () = some r) ?_ ?_
 ·skip
  refine zD fun K122 hK122 => ?_
  refine zC ?_
  refine zA rfl rfl (zG (v := v1) rfl) ?_
  obtain ⟨x123, e124, hF⟩ := zH hF
  obtain ⟨a125, c126, q127⟩ := SlF.len ((H.item (i := 0) rfl))
  refine zA rfl rfl (zT (xI u33 q127) (congrArg (Value.int .i64) e124)) ?_
  refine zA rfl rfl (zG (v := .int .i64 0) rfl) ?_
  refine (zI (zB (hK122 _ _ ?_)))
  refine yK ?_
  unfold F_slices_IndexFunc___int_int__fleet_CheckTable_2_L1 at hF
  obtain ⟨B232, n233, eB234, hF⟩ := yT hF
  refine xC [4, 5, 8, 9, 10, 11, 12, 13, 14, 15, 16, 17, 18] (fun (g : Nat × Int) => [(8, .int .i64 g.2)]) (fun g wl => Hd O w wl S [.fz (.sl (Rp.int .i64) v1 p0)] ∧ loopN B232 g.1 g.2 = some r) (fun g => g.1) (n233, 0) (zK rfl zQ) ⟨H.pick [0] (by decide), hF⟩ ?_
  clear H hF
  rintro ⟨n233, g231⟩ ρ w236 ⟨H, hF⟩
  obtain ⟨n237, rfl, hF⟩ := yX hF
  have hF := yY eB234 hF
  refine zD fun K238 hK238 => ?_
  refine zC ?_
  obtain ⟨x239, e240, hF⟩ := zH hF
  refine zA rfl rfl (zT (xK (a := g231) (b := x123) rfl rfl) (congrArg Value.bool e240)) ?_
  refine (zI (zB (hK238 _ _ ?_)))
  refine zD fun K242 hK242 => ?_
  refine yF (b := x239) rfl (fun c243 => ?_) (fun c243 => ?_)
  ·have hF := zW c243 hF
   refine (yA (zB (hK242 _ _ ?_)))
   refine zD fun K265 hK265 => ?_
   refine yK ?_
   refine zD fun K266 hK266 => ?_
   refine zC ?_
   refine zA rfl rfl (zG (v := .int .i64 g231) rfl) ?_
   refine zA rfl rfl (zF (v := .int .i64 g231) rfl) ?_
   refine (zI (zB (hK266 _ _ ?_)))
   refine zD fun K267 hK267 => ?_
   refine zC ?_
   refine zA rfl rfl (zG (v := .func (.func 71) #[] #[]) rfl) ?_
   refine zA rfl rfl (zG (v := v1) rfl) ?_
   refine zA rfl rfl (zG (v := .int .i64 g231) rfl) ?_
   obtain ⟨x268, e269, hF⟩ := zJ hF
   obtain ⟨b270, o271, c272, cs273, q274, h277, h275, h276, h278⟩ := wB (H.item (i := 0) rfl) e269
   obtain rfl : cs273 = [.int .i64 x268] := h277
   have H := H.fz (.at b270 (o271 + g231.toNat * 1) _) ⟨h275, h276, h278⟩
   refine zA rfl rfl (xG u33 sz3 q274 rfl (yD e269).1 (yD e269).2.1 rfl rfl) ?_
   refine zA rfl rfl (zU one3 rfl (Cells.get (H.item (i := 1) rfl).2.2 (i := 0) rfl)) ?_
   have H280 := H
   obtain ⟨x281, e282, hF⟩ := zJ hF
   refine yJ rfl rfl (DoC_clo en71 rfl rfl) (F_fleet_CheckTable_2_w x268 _ e282 _ _ _ (H.enter [] [] (by decide) rfl)) ?_
   rintro _ w283 ⟨rfl, G284⟩
   have H := H280.step (G284.only : Only [] _ _)
   refine ⟨_, rfl, ?_⟩
   refine (zI (zB (hK267 _ _ ?_)))
   refine yF (b := x281) rfl (fun c285 => ?_) (fun c285 => ?_)
   ·have hF := zW c285 hF
    refine zD fun K286 hK286 => ?_
    refine zC ?_
    refine zA rfl rfl (zG (v := .int .i64 g231) rfl) ?_
    refine zA rfl rfl (zF (v := .int .i64 g231) rfl) ?_
    refine (zI (zB (hK286 _ _ ?_)))
    have hR := Option.some.inj hF
    subst hR
    refine (yG (yM (zZ (zZ (yM (zZ (post1 (v1 := .int .i64 g231) rfl rfl ?_)))))))
    exact ⟨rfl, H.pick [] (by decide)⟩
   have hF := zX c285 hF
   refine (yA (yU (zB (hK265 _ _ ?_))))
   refine zC ?_
   obtain ⟨x287, e288, hF⟩ := zH hF
   refine zA rfl rfl (xJ (a := g231) (b := 1) rfl rfl e288) ?_
   refine zA rfl rfl (zG (v := .int .i64 x287) rfl) ?_
   refine (zI (zB (And.intro ?_ ?_)))
   ·repeat' (first | with_reducible exact zN | refine zV rfl ?_ | refine zO rfl rfl ?_)
   exact ⟨(n237, x287), (zK rfl zQ), ⟨H.pick [0] (by decide), hF⟩, Nat.lt_succ_self _⟩
  have hF := zX c243 hF
  refine (xB (yN (yN (yR (zB (And.intro ?_ ?_))))))
  ·repeat' (first | with_reducible exact zN | refine zV rfl ?_ | refine zO rfl rfl ?_)
  exact ⟨(), zQ, ⟨H.pick [] (by decide), hF⟩⟩
 rintro _ ρ w119 ⟨H, hF⟩
 have hF := xZ ek121 hF
 refine zD fun K289 hK289 => ?_
 refine zC ?_
 refine zA rfl rfl (zF (v := .int .i64 (-1)) rfl) ?_
 refine (zI (zB (hK289 _ _ ?_)))
 have hR := Option.some.inj hF
 subst hR
 refine (yG (post1 (v1 := .int .i64 (-1)) rfl rfl ?_))
 exact ⟨rfl, H.pick [] (by decide)⟩
end Go.Proofs.YtbjhondbheijiaaGreatDoor.L
namespace Go.Proofs.YtbjhondbheijiaaGreatDoor.L
open Go.RowKit Go.OB Go.Lf
/- slices.ContainsFunc[[]int,int]@orangebox/fleet.CheckTable$2 -/
set_option maxHeartbeats 4000000 in
theorem F_slices_ContainsFunc___int_int__fleet_CheckTable_2_w (p0 : List Int) (v1 : Value) (r : Bool) (hF : F_slices_ContainsFunc___int_int__fleet_CheckTable_2 p0 = some r) (O S : List Nat) (w : World) (H : Hd O w w S [.fz (.sl (Rp.int .i64) v1 p0)]) :
  Calls Tryz.prog 74 ([v1, .func (.func 71) #[] #[]] : List Value).toArray w fun e w' => e = .returned (.bool r) ∧ Hd O w w' S [] := by
 unfold F_slices_ContainsFunc___int_int__fleet_CheckTable_2 at hF
 refine yB 9 Tryz.func74 rfl rfl rfl ?_
 refine zD fun K3 hK3 => ?_
 refine zC ?_
 refine zA rfl rfl (zF (v := .bool false) rfl) ?_
 refine (zI (zB (hK3 _ _ ?_)))
 refine zD fun K4 hK4 => ?_
 refine zC ?_
 refine zA rfl rfl (zG (v := v1) rfl) ?_
 refine zA rfl rfl (zG (v := .func (.func 71) #[] #[]) rfl) ?_
 have H5 := H
 obtain ⟨x6, e7, hF⟩ := zJ hF
 refine yJ rfl rfl (yC en97 rfl) (F_slices_IndexFunc___int_int__fleet_CheckTable_2_w p0 v1 _ e7 _ _ _ (H.enter [] [0] (by decide) rfl)) ?_
 rintro _ w8 ⟨rfl, G9⟩
 have H := H5.step (G9.only : Only [] _ _)
 refine ⟨_, rfl, ?_⟩
 obtain ⟨x10, e11, hF⟩ := zH hF
 refine zA rfl rfl (zT (Do_geq (a := x6) (b := 0) rfl rfl) (congrArg Value.bool e11)) ?_
 refine zA rfl rfl (zF (v := .bool x10) rfl) ?_
 refine (zI (zB (hK4 _ _ ?_)))
 have hR := Option.some.inj hF
 subst hR
 refine (yG (post1 (v1 := .bool x10) rfl rfl ?_))
 exact ⟨rfl, H.pick [] (by decide)⟩
end Go.Proofs.YtbjhondbheijiaaGreatDoor.L
