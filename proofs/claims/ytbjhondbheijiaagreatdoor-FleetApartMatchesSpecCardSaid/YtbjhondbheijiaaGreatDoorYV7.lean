/- Walks: what each function computes, for every argument; no condition but those that stand in the statements. -/
import Derived.Test.YtbjhondbheijiaaGreatDoorYV0
import Derived.Test.YtbjhondbheijiaaGreatDoorYV6
import Derived.Test.YtbjhondbheijiaaGreatDoorYV3
namespace Go.Proofs.YtbjhondbheijiaaGreatDoor.L
open Go.RowKit Go.OB Go.Lf
/- orangebox/orangeboxref9.peaks -/
set_option maxHeartbeats 4000000 in
theorem F_ref9_peaks_w (p0 : List Flight) (p1 : Mask) (p2 : Str) (v1 : Value) (v3 : Value) (v4 : Value) (r : (List Int) × (List Int) × Int × Int) (hF : F_ref9_peaks p0 p1 p2 = some r) (O S : List Nat) (w : World) (H : Hd O w w S [.fz (.sl rFlight v1 p0), .fz (.sl Rp.str v3 p1.Hide), .fz (.sl rGrain v4 p1.Grains)]) :
  Calls Tryz.prog 15 ([v1, .agg [.bool p1.Tails, .int .i64 p1.Days, v3, v4, .int .i64 p1.Least].toArray, .string (bs p2)] : List Value).toArray w fun e w' => ∃ u7 u8, e = .returned (.tuple #[u7, u8, .int .i64 r.2.2.1, .int .i64 r.2.2.2]) ∧ Hd O w w' S [.own (Rp.int .i64) u7 3 r.1, .own (Rp.int .i64) u8 3 r.2.1] := by
 unfold F_ref9_peaks at hF
 refine yB 65 Tryz.func15 rfl rfl rfl ?_
 refine zD fun K9 hK9 => ?_
 refine zC ?_
 refine xE rfl rfl (Lx_box (cs := [.bool p1.Tails, .int .i64 p1.Days, v3, v4, .int .i64 p1.Least]) rfl H) ?_
 rintro _ w12 ⟨b10, rfl, H⟩
 refine zA rfl rfl (zF (v := .slice none 0 0) rfl) ?_
 refine zA rfl rfl (zF (v := .slice none 0 0) rfl) ?_
 refine zA rfl rfl (zF (v := .int .i64 0) rfl) ?_
 refine zA rfl rfl (zF (v := .int .i64 0) rfl) ?_
 refine (zI (zB (hK9 _ _ ?_)))
 refine zD fun K13 hK13 => ?_
 refine zC ?_
 refine zA rfl rfl (zF (v := .slice none 0 0) rfl) ?_
 refine zA rfl rfl (zF (v := .slice none 0 0) rfl) ?_
 refine (zI (zB (hK13 _ _ ?_)))
 refine zD fun K14 hK14 => ?_
 refine zC ?_
 refine zA rfl rfl (zF (v := .int .i64 0) rfl) ?_
 refine (zI (zB (hK14 _ _ ?_)))
 refine zD fun K15 hK15 => ?_
 refine zC ?_
 refine zA rfl rfl (zF (v := .bool true) rfl) ?_
 refine (zI (zB (hK15 _ _ ?_)))
 obtain ⟨j245, hF, hK244⟩ := zJ hF
 refine yL [10, 11, 12, 13, 14, 15, 16, 17, 18, 19, 20, 21, 22, 23, 24, 25, 26, 27, 28, 29, 30, 31, 32, 33, 34, 35, 36, 37, 38, 39, 40, 41, 42, 43, 44, 45, 46, 47, 48, 49, 50, 51, 52, 53, 54] (fun (g : Value × Value) => [(10, g.1), (11, g.2), (12, .int .i64 j245.2.2.1), (13, .bool j245.2.2.2)]) (fun g wl => Hd O w wl S [.own (Rp.int .i64) g.1 3 j245.1, .own (Rp.int .i64) g.2 3 j245.2.1, .blk b10 [.bool p1.Tails, .int .i64 p1.Days, v3, v4, .int .i64 p1.Least] 26, .fz (.sl Rp.str v3 p1.Hide), .fz (.sl rGrain v4 p1.Grains)]) ?_ ?_
 ·skip
  refine zD fun K246 hK246 => ?_
  refine zC ?_
  refine zA rfl rfl (zF (v := .int .i64 0) rfl) ?_
  refine (zI (zB (hK246 _ _ ?_)))
  refine yK ?_
  have H := own_nil H (Rp.int .i64) 3
  have H := own_nil H (Rp.int .i64) 3
  unfold F_ref9_peaks_L1 at hF
  obtain ⟨B468, n469, eB470, hF⟩ := yT hF
  refine xC [10, 11, 12, 13, 14, 15, 16, 17, 18, 19, 20, 21, 22, 23, 24, 25, 26, 27, 28, 29, 30, 31, 32, 33, 34, 35, 36, 37, 38, 39, 40, 41, 42, 43, 44, 45, 46, 47, 48, 49, 50, 51, 52, 53, 54] (fun (g : Nat × (List Int) × (List Int) × Int × Bool × Int × Value × Value) => [(10, g.2.2.2.2.2.2.1), (11, g.2.2.2.2.2.2.2), (12, .int .i64 g.2.2.2.1), (13, .bool g.2.2.2.2.1), (14, .int .i64 g.2.2.2.2.2.1)]) (fun g wl => Hd O w wl S [.own (Rp.int .i64) g.2.2.2.2.2.2.1 3 g.2.1, .own (Rp.int .i64) g.2.2.2.2.2.2.2 3 g.2.2.1, .fz (.sl rFlight v1 p0), .blk b10 [.bool p1.Tails, .int .i64 p1.Days, v3, v4, .int .i64 p1.Least] 26, .fz (.sl Rp.str v3 p1.Hide), .fz (.sl rGrain v4 p1.Grains)] ∧ loopN B468 g.1 (g.2.1, g.2.2.1, g.2.2.2.1, g.2.2.2.2.1, g.2.2.2.2.2.1) = some j245) (fun g => g.1) (n469, [], [], 0, true, 0, .slice none 0 0, .slice none 0 0) (zK rfl (zK rfl (zK rfl (zK rfl (zK rfl zQ))))) ⟨H.pick [4, 5, 0, 3, 1, 2] (by decide), hF⟩ ?_
  clear H hF
  rintro ⟨n469, g458, g461, g463, g464, g465, v459, v462⟩ ρ w472 ⟨H, hF⟩
  obtain ⟨n473, rfl, hF⟩ := yX hF
  have hF := yY eB470 hF
  refine zD fun K483 hK483 => ?_
  refine zD fun K484 hK484 => ?_
  refine zC ?_
  refine zA rfl rfl (zG (v := .int .i64 g465) rfl) ?_
  refine zA rfl rfl (zG (v := v1) rfl) ?_
  obtain ⟨x485, e486, hF⟩ := zH hF
  obtain ⟨a487, c488, q489⟩ := SlF.len ((H.item (i := 2) rfl))
  refine zA rfl rfl (zT (xI u22 q489) (congrArg (Value.int .i64) e486)) ?_
  obtain ⟨x490, e491, hF⟩ := zH hF
  refine zA rfl rfl (zT (xK (a := g465) (b := x485) rfl rfl) (congrArg Value.bool e491)) ?_
  refine (zI (zB (hK484 _ _ ?_)))
  refine yF (b := x490) rfl (fun c492 => ?_) (fun c492 => ?_)
  ·have hF := zW c492 hF
   refine (yA (zB (hK483 _ _ ?_)))
   obtain ⟨j570, hF, hK569⟩ := zJ hF
   refine yL [10, 11, 12, 13, 15, 16, 17, 24, 25, 26, 27, 28, 29, 30, 31, 32, 33, 34, 35, 36, 37, 38, 39, 40, 41, 42, 43, 44, 45, 46, 47, 48, 49, 50, 51, 52, 53, 54] (fun (g : Value × Value) => [(10, g.1), (11, g.2), (12, .int .i64 j570.2.2.1), (13, .bool j570.2.2.2)]) (fun g wl => Hd O w wl S [.own (Rp.int .i64) g.1 3 j570.1, .own (Rp.int .i64) g.2 3 j570.2.1, .fz (.sl rFlight v1 p0), .blk b10 [.bool p1.Tails, .int .i64 p1.Days, v3, v4, .int .i64 p1.Least] 26, .fz (.sl Rp.str v3 p1.Hide), .fz (.sl rGrain v4 p1.Grains)]) ?_ ?_
   ·skip
    refine yK ?_
    refine zD fun K571 hK571 => ?_
    have H572 := H
    have H := H.rebase
    have H573 := H
    refine WP_mix H [0, 1, 2, 3, 4, 6, 5, 7, 8, 9, 10, 11, 12, 13, 14] [.pure, .pure, .pure, .read, .read, .new, .pure, .read, .pure, .pure, .pure, .pure, .pure, .pure, .pure] mixed (by kernel_rfl) (by kernel_rfl) (by kernel_rfl) (by decide) ?_
    refine Mx.zS rfl rfl rfl (fun w' hw' => zG (v := v1) rfl) ?_
    refine Mx.zS rfl rfl rfl (fun w' hw' => zG (v := .int .i64 g465) rfl) ?_
    obtain ⟨x574, e575, hF⟩ := zJ hF
    obtain ⟨b576, o577, c578, cs579, q580, h583, h581, h582, h584⟩ := wB (H.item (i := 2) rfl) e575
    obtain ⟨v585, rfl, h586⟩ := rFlight_open h583
    have H := H.fzs [.at b576 (o577 + g465.toNat * 6) _, .sl rTrack v585 x574.Tracks] ⟨⟨h581, h582, h584⟩, h586, trivial⟩
    refine Mx.zS rfl rfl rfl (fun w' hw' => xG u22 sz70 q580 rfl (yD e575).1 (yD e575).2.1 rfl rfl) ?_
    refine Mx.xM oS rfl rfl rfl (fun w' hw' => zT (yV (cs := [.string (bs x574.Tail), .string (bs x574.Route), .int .i64 x574.Day, .int .i64 x574.From, .int .i64 x574.To, v585]) agg70 rfl sz70 rfl ((H.sees hw').item (i := 6) rfl).2.2) rfl) ?_
    refine Mx.xM oS rfl rfl rfl (fun w' hw' => zT (yV (cs := [.bool p1.Tails, .int .i64 p1.Days, v3, v4, .int .i64 p1.Least]) agg26 rfl sz26 rfl (Blk.cells ((H.sees hw').item (i := 3) rfl))) rfl) ?_
    refine Mx.zS rfl rfl rfl (fun w' hw' => zG (v := .string (bs p2)) rfl) ?_
    obtain ⟨x589, e590, hF⟩ := zJ hF
    refine Mx.XL_newC oS rfl rfl rfl (fun w' hw' => yC en40 rfl) (fun w' hw' => F_ref9_masked_w x574 p1 v585 v3 v4 _ e590 _ _ _ ((H.sees hw').enter [] [7, 4, 5] (by decide) rfl)) ?_
    rintro w' _ w593 hw' ⟨v591, rfl, G594⟩
    have H := (H.sees hw').back1 [7, 4, 5] rfl G594
    refine ⟨_, rfl, (G594.only : Only [] _ _).below, ?_⟩
    have H595 := H
    obtain ⟨⟨x596, x597, x598⟩, e599, hF⟩ := zJ hF
    refine Mx.XL_call oS rfl rfl rfl (v := .tuple #[.int .i64 x596, .int .i64 x597, .bool x598]) (fun w' hw' => yC en39 rfl) (fun w' hw' => by have q := call_read (F_ref9_peak_w x589 p2 v591 _ e599 _ _ _ ((H.sees hw').enter [] [8] (by decide) rfl)); exact q) ?_
    have H := H595
    refine Mx.zS rfl rfl rfl (fun w' hw' => zG (v := .tuple #[.int .i64 x596, .int .i64 x597, .bool x598]) rfl) ?_
    refine Mx.zS rfl rfl rfl (fun w' hw' => yQ (v := .int .i64 x596) rfl rfl) ?_
    refine Mx.zS rfl rfl rfl (fun w' hw' => yQ (v := .int .i64 x597) rfl rfl) ?_
    refine Mx.zS rfl rfl rfl (fun w' hw' => yQ (v := .bool x598) rfl rfl) ?_
    refine Mx.zS rfl rfl rfl (fun w' hw' => zF (v := .int .i64 x596) rfl) ?_
    refine Mx.zS rfl rfl rfl (fun w' hw' => zF (v := .int .i64 x597) rfl) ?_
    refine Mx.zS rfl rfl rfl (fun w' hw' => zF (v := .bool x598) rfl) ?_
    refine Mx.wG fun w600 hS => ?_
    have H := H.sees hS
    have H := H572.rejoin H
    refine (zB (hK571 _ _ ?_))
    refine zD fun K605 hK605 => ?_
    refine zD fun K606 hK606 => ?_
    refine zC ?_
    refine zA rfl rfl (zG (v := .bool x598) rfl) ?_
    obtain ⟨x607, e608, hF⟩ := zH hF
    refine zA rfl rfl (zT (xY (p := x598) rfl) (congrArg Value.bool e608)) ?_
    refine (zI (zB (hK606 _ _ ?_)))
    refine yF (b := x607) rfl (fun c609 => ?_) (fun c609 => ?_)
    ·have hF := zW c609 hF
     have hR := Option.some.inj hF
     subst hR
     refine (xB (yN (yR (zB (And.intro ?_ ?_)))))
     ·repeat' (first | with_reducible exact zN | refine zV rfl ?_ | refine zO rfl rfl ?_)
     exact ⟨(v459, v462), (zK rfl (zK rfl (zK rfl (zK rfl zQ)))), H.pick [0, 1, 2, 3, 4, 5] (by decide)⟩
    have hF := zX c609 hF
    refine (yA (zB (hK605 _ _ ?_)))
    refine zD fun K610 hK610 => ?_
    refine zC ?_
    refine zA rfl rfl (zG (v := v459) rfl) ?_
    refine zA rfl rfl (zG (v := .int .i64 x596) rfl) ?_
    obtain ⟨x611, e612, hF⟩ := zH hF
    subst e612
    refine xE rfl rfl (Lx_bs (r := (Rp.int .i64)) (xl := [x596]) (cs := [.int .i64 x596]) u33 el3 (by decide) (by decide) rfl (xW (vs := [.int .i64 x596]) (by decide) rfl rfl ⟨rfl, trivial⟩ rfl) H ⟨[.int .i64 x596], [], rfl, rfl, rfl⟩) ?_
    rintro v614 w615 H
    obtain ⟨x616, e617, hF⟩ := zJ hF
    refine xE rfl rfl (Lx_app H (i := 0) rfl u33 el3 rfl rfl (Sr.of_own (H.item (i := 9) rfl)) e617) ?_
    rintro v618 w619 H
    refine zA rfl rfl (zF (v := v618) rfl) ?_
    refine (zI (zB (hK610 _ _ ?_)))
    refine zD fun K620 hK620 => ?_
    refine zC ?_
    refine zA rfl rfl (zG (v := v462) rfl) ?_
    refine zA rfl rfl (zG (v := .int .i64 g465) rfl) ?_
    obtain ⟨x621, e622, hF⟩ := zH hF
    subst e622
    refine xE rfl rfl (Lx_bs (r := (Rp.int .i64)) (xl := [g465]) (cs := [.int .i64 g465]) u33 el3 (by decide) (by decide) rfl (xW (vs := [.int .i64 g465]) (by decide) rfl rfl ⟨rfl, trivial⟩ rfl) H ⟨[.int .i64 g465], [], rfl, rfl, rfl⟩) ?_
    rintro v624 w625 H
    obtain ⟨x626, e627, hF⟩ := zJ hF
    refine xE rfl rfl (Lx_app H (i := 1) rfl u33 el3 rfl rfl (Sr.of_own (H.item (i := 10) rfl)) e627) ?_
    rintro v628 w629 H
    refine zA rfl rfl (zF (v := v628) rfl) ?_
    refine (zI (zB (hK620 _ _ ?_)))
    obtain ⟨g634, hF, hK636⟩ := zJ hF
    refine yL [12, 46, 47, 48] (fun (g : Unit) => [(12, .int .i64 g634)]) (fun g wl => Hd O w wl S [.own (Rp.int .i64) v618 3 x616, .own (Rp.int .i64) v628 3 x626, .fz (.sl rFlight v1 p0), .blk b10 [.bool p1.Tails, .int .i64 p1.Days, v3, v4, .int .i64 p1.Least] 26, .fz (.sl Rp.str v3 p1.Hide), .fz (.sl rGrain v4 p1.Grains)]) ?_ ?_
    ·skip
     refine zD fun K637 hK637 => ?_
     refine zC ?_
     refine zA rfl rfl (zG (v := .int .i64 g463) rfl) ?_
     obtain ⟨x638, e639, hF⟩ := zH hF
     refine zA rfl rfl (zT (Do_eql (a := g463) (b := 0) rfl rfl) (congrArg Value.bool e639)) ?_
     refine (zI (zB (hK637 _ _ ?_)))
     refine yF (b := x638) rfl (fun c640 => ?_) (fun c640 => ?_)
     ·have hF := zW c640 hF
      refine zC ?_
      refine zA rfl rfl (zG (v := .int .i64 x597) rfl) ?_
      refine zA rfl rfl (zF (v := .int .i64 x597) rfl) ?_
      have hR := Option.some.inj hF
      subst hR
      refine (zI (zB (And.intro ?_ ?_)))
      ·repeat' (first | with_reducible exact zN | refine zV rfl ?_ | refine zO rfl rfl ?_)
      exact ⟨(), (zK rfl zQ), H.pick [0, 1, 2, 3, 4, 5] (by decide)⟩
     have hF := zX c640 hF
     have hR := Option.some.inj hF
     subst hR
     refine (yA (zB (And.intro ?_ ?_)))
     ·repeat' (first | with_reducible exact zN | refine zV rfl ?_ | refine zO rfl rfl ?_)
     exact ⟨(), (zK rfl zQ), H.pick [0, 1, 2, 3, 4, 5] (by decide)⟩
    rintro _ ρ w635 H
    have hF := hK636
    refine zC ?_
    refine zA rfl rfl (zG (v := .bool g464) rfl) ?_
    refine yO (b := g464) rfl rfl rfl (fun c641 => ?_) (fun c641 => ?_)
    ·have hF := zW c641 hF
     refine zA rfl rfl (zG (v := .int .i64 g634) rfl) ?_
     refine zA rfl rfl (zG (v := .int .i64 x597) rfl) ?_
     obtain ⟨x642, e643, hF⟩ := zH hF
     refine zA rfl rfl (zT (Do_eql (a := g634) (b := x597) rfl rfl) (congrArg Value.bool e643)) ?_
     refine zA rfl rfl (yI (v := .bool x642) rfl rfl) ?_
     refine zA rfl rfl (zF (v := .bool x642) rfl) ?_
     have hR := Option.some.inj hF
     subst hR
     refine (zI (yU (zB (And.intro ?_ ?_))))
     ·repeat' (first | with_reducible exact zN | refine zV rfl ?_ | refine zO rfl rfl ?_)
     exact ⟨(v618, v628), (zK rfl (zK rfl (zK rfl (zK rfl zQ)))), H.pick [0, 1, 2, 3, 4, 5] (by decide)⟩
    have hF := zX c641 hF
    refine zM rfl rfl ?_
    refine zM rfl rfl ?_
    refine zM rfl rfl ?_
    refine zA rfl rfl (yH (v := .bool false) rfl rfl) ?_
    refine zA rfl rfl (zF (v := .bool false) rfl) ?_
    have hR := Option.some.inj hF
    subst hR
    refine (zI (yU (zB (And.intro ?_ ?_))))
    ·repeat' (first | with_reducible exact zN | refine zV rfl ?_ | refine zO rfl rfl ?_)
    exact ⟨(v618, v628), (zK rfl (zK rfl (zK rfl (zK rfl zQ)))), H.pick [0, 1, 2, 3, 4, 5] (by decide)⟩
   rintro ⟨v563, v565⟩ ρ w568 H
   have hF := hK569
   obtain ⟨g562, g564, g566, g567⟩ := j570
   refine zC ?_
   refine zA rfl rfl (zG (v := .int .i64 g465) rfl) ?_
   obtain ⟨x644, e645, hF⟩ := zH hF
   refine zA rfl rfl (xJ (a := g465) (b := 1) rfl rfl e645) ?_
   refine zA rfl rfl (zF (v := .int .i64 x644) rfl) ?_
   refine (zI (zB (And.intro ?_ ?_)))
   ·repeat' (first | with_reducible exact zN | refine zV rfl ?_ | refine zO rfl rfl ?_)
   exact ⟨(n473, g562, g564, g566, g567, x644, v563, v565), (zK rfl (zK rfl (zK rfl (zK rfl (zK rfl zQ))))), ⟨H.pick [0, 1, 2, 3, 4, 5] (by decide), hF⟩, Nat.lt_succ_self _⟩
  have hF := zX c492 hF
  have hR := Option.some.inj hF
  subst hR
  refine (xB (yN (yN (yR (zB (And.intro ?_ ?_))))))
  ·repeat' (first | with_reducible exact zN | refine zV rfl ?_ | refine zO rfl rfl ?_)
  exact ⟨(v459, v462), (zK rfl (zK rfl (zK rfl (zK rfl zQ)))), H.pick [0, 1, 3, 4, 5] (by decide)⟩
 rintro ⟨v237, v240⟩ ρ w243 H
 have hF := hK244
 obtain ⟨g236, g239, g241, g242⟩ := j245
 refine zD fun K656 hK656 => ?_
 refine zD fun K657 hK657 => ?_
 refine zC ?_
 refine zA rfl rfl (zG (v := v237) rfl) ?_
 obtain ⟨x658, e659, hF⟩ := zH hF
 obtain ⟨a660, c661, q662⟩ := Sr.len (Sr.of_own (H.item (i := 0) rfl))
 refine zA rfl rfl (zT (xI u33 q662) (congrArg (Value.int .i64) e659)) ?_
 refine zA rfl rfl (fa26_4 rfl) ?_
 refine zA rfl rfl (zU one3 rfl (Cells.get (Blk.cells (H.item (i := 2) rfl)) (i := 4) rfl)) ?_
 obtain ⟨x663, e664, hF⟩ := zH hF
 refine zA rfl rfl (zT (xK (a := x658) (b := p1.Least) rfl rfl) (congrArg Value.bool e664)) ?_
 refine (zI (zB (hK657 _ _ ?_)))
 refine yF (b := x663) rfl (fun c665 => ?_) (fun c665 => ?_)
 ·have hF := zW c665 hF
  refine zD fun K666 hK666 => ?_
  refine zC ?_
  refine zA rfl rfl (zF (v := .slice none 0 0) rfl) ?_
  refine zA rfl rfl (zF (v := .slice none 0 0) rfl) ?_
  refine zA rfl rfl (zF (v := .int .i64 0) rfl) ?_
  refine zA rfl rfl (zF (v := .int .i64 4) rfl) ?_
  refine (zI (zB (hK666 _ _ ?_)))
  have H := own_nil H (Rp.int .i64) 3
  have H := own_nil H (Rp.int .i64) 3
  have hR := Option.some.inj hF
  subst hR
  refine (yG (zZ (post4 (v1 := .slice none 0 0) (v2 := .slice none 0 0) (v3 := .int .i64 0) (v4 := .int .i64 4) rfl rfl rfl rfl rfl ?_)))
  exact ⟨.slice none 0 0, .slice none 0 0, rfl, H.pick [5, 6] (by decide)⟩
 have hF := zX c665 hF
 refine (yA (zB (hK656 _ _ ?_)))
 refine zD fun K674 hK674 => ?_
 refine zD fun K675 hK675 => ?_
 refine zC ?_
 refine zA rfl rfl (zG (v := .bool g242) rfl) ?_
 obtain ⟨x676, e677, hF⟩ := zH hF
 refine zA rfl rfl (zT (xY (p := g242) rfl) (congrArg Value.bool e677)) ?_
 refine (zI (zB (hK675 _ _ ?_)))
 refine yF (b := x676) rfl (fun c678 => ?_) (fun c678 => ?_)
 ·have hF := zW c678 hF
  refine zD fun K679 hK679 => ?_
  refine zC ?_
  refine zA rfl rfl (zF (v := .slice none 0 0) rfl) ?_
  refine zA rfl rfl (zF (v := .slice none 0 0) rfl) ?_
  refine zA rfl rfl (zF (v := .int .i64 0) rfl) ?_
  refine zA rfl rfl (zF (v := .int .i64 2) rfl) ?_
  refine (zI (zB (hK679 _ _ ?_)))
  have H := own_nil H (Rp.int .i64) 3
  have H := own_nil H (Rp.int .i64) 3
  have hR := Option.some.inj hF
  subst hR
  refine (yG (zZ (post4 (v1 := .slice none 0 0) (v2 := .slice none 0 0) (v3 := .int .i64 0) (v4 := .int .i64 2) rfl rfl rfl rfl rfl ?_)))
  exact ⟨.slice none 0 0, .slice none 0 0, rfl, H.pick [5, 6] (by decide)⟩
 have hF := zX c678 hF
 refine (yA (zB (hK674 _ _ ?_)))
 refine zD fun K682 hK682 => ?_
 refine zC ?_
 refine zA rfl rfl (zG (v := v237) rfl) ?_
 refine zA rfl rfl (zG (v := v240) rfl) ?_
 refine zA rfl rfl (zG (v := .int .i64 g241) rfl) ?_
 refine zA rfl rfl (zF (v := v237) rfl) ?_
 refine zA rfl rfl (zF (v := v240) rfl) ?_
 refine zA rfl rfl (zF (v := .int .i64 g241) rfl) ?_
 refine zA rfl rfl (zF (v := .int .i64 0) rfl) ?_
 refine (zI (zB (hK682 _ _ ?_)))
 have hR := Option.some.inj hF
 subst hR
 refine (yG (post4 (v1 := v237) (v2 := v240) (v3 := .int .i64 g241) (v4 := .int .i64 0) rfl rfl rfl rfl rfl ?_))
 exact ⟨v237, v240, rfl, H.pick [0, 1] (by decide)⟩
end Go.Proofs.YtbjhondbheijiaaGreatDoor.L
namespace Go.Proofs.YtbjhondbheijiaaGreatDoor.L
open Go.RowKit Go.OB Go.Lf
/- orangebox/orangeboxref9.sum -/
set_option maxHeartbeats 4000000 in
theorem F_ref9_sum_w (p0 : List Int) (v1 : Value) (r : Int) (hF : F_ref9_sum p0 = some r) (O S : List Nat) (w : World) (H : Hd O w w S [.fz (.sl (Rp.int .i64) v1 p0)]) :
  Calls Tryz.prog 18 ([v1] : List Value).toArray w fun e w' => e = .returned (.int .i64 r) ∧ Hd O w w' S [] := by
 unfold F_ref9_sum at hF
 refine yB 18 Tryz.func18 rfl rfl rfl ?_
 refine zD fun K3 hK3 => ?_
 refine zC ?_
 refine zA rfl rfl (zF (v := .int .i64 0) rfl) ?_
 refine (zI (zB (hK3 _ _ ?_)))
 refine zD fun K4 hK4 => ?_
 refine zC ?_
 refine zA rfl rfl (zF (v := .int .i64 0) rfl) ?_
 refine (zI (zB (hK4 _ _ ?_)))
 obtain ⟨g114, hF, hK116⟩ := zJ hF
 refine yL [3, 4, 5, 6, 7, 8, 9, 10, 11, 12, 13, 14, 15, 16] (fun (g : Unit) => [(3, .int .i64 g114)]) (fun g wl => Hd O w wl S []) ?_ ?_
 ·skip
  refine zD fun K117 hK117 => ?_
  refine zC ?_
  refine zA rfl rfl (zF (v := .int .i64 0) rfl) ?_
  refine (zI (zB (hK117 _ _ ?_)))
  refine yK ?_
  unfold F_ref9_sum_L1 at hF
  obtain ⟨B222, n223, eB224, hF⟩ := yT hF
  refine xC [3, 4, 5, 6, 7, 8, 9, 10, 11, 12, 13, 14, 15, 16] (fun (g : Nat × Int × Int) => [(3, .int .i64 g.2.1), (4, .int .i64 g.2.2)]) (fun g wl => Hd O w wl S [.fz (.sl (Rp.int .i64) v1 p0)] ∧ loopN B222 g.1 (g.2.1, g.2.2) = some g114) (fun g => g.1) (n223, 0, 0) (zK rfl (zK rfl zQ)) ⟨H.pick [0] (by decide), hF⟩ ?_
  clear H hF
  rintro ⟨n223, g220, g221⟩ ρ w226 ⟨H, hF⟩
  obtain ⟨n227, rfl, hF⟩ := yX hF
  have hF := yY eB224 hF
  refine zD fun K237 hK237 => ?_
  refine zD fun K238 hK238 => ?_
  refine zC ?_
  refine zA rfl rfl (zG (v := .int .i64 g221) rfl) ?_
  refine zA rfl rfl (zG (v := v1) rfl) ?_
  obtain ⟨x239, e240, hF⟩ := zH hF
  obtain ⟨a241, c242, q243⟩ := SlF.len ((H.item (i := 0) rfl))
  refine zA rfl rfl (zT (xI u33 q243) (congrArg (Value.int .i64) e240)) ?_
  obtain ⟨x244, e245, hF⟩ := zH hF
  refine zA rfl rfl (zT (xK (a := g221) (b := x239) rfl rfl) (congrArg Value.bool e245)) ?_
  refine (zI (zB (hK238 _ _ ?_)))
  refine yF (b := x244) rfl (fun c246 => ?_) (fun c246 => ?_)
  ·have hF := zW c246 hF
   refine (yA (zB (hK237 _ _ ?_)))
   refine zD fun K261 hK261 => ?_
   refine yK ?_
   refine zC ?_
   refine zA rfl rfl (zG (v := .int .i64 g220) rfl) ?_
   refine zA rfl rfl (zG (v := v1) rfl) ?_
   refine zA rfl rfl (zG (v := .int .i64 g221) rfl) ?_
   obtain ⟨x262, e263, hF⟩ := zJ hF
   obtain ⟨b264, o265, c266, cs267, q268, h271, h269, h270, h272⟩ := wB (H.item (i := 0) rfl) e263
   obtain rfl : cs267 = [.int .i64 x262] := h271
   have H := H.fz (.at b264 (o265 + g221.toNat * 1) _) ⟨h269, h270, h272⟩
   refine zA rfl rfl (xG u33 sz3 q268 rfl (yD e263).1 (yD e263).2.1 rfl rfl) ?_
   refine zA rfl rfl (zU one3 rfl (Cells.get (H.item (i := 1) rfl).2.2 (i := 0) rfl)) ?_
   obtain ⟨x274, e275, hF⟩ := zH hF
   refine zA rfl rfl (xJ (a := g220) (b := x262) rfl rfl e275) ?_
   refine zA rfl rfl (zF (v := .int .i64 x274) rfl) ?_
   refine (zI (yU (zB (hK261 _ _ ?_))))
   refine zC ?_
   refine zA rfl rfl (zG (v := .int .i64 g221) rfl) ?_
   obtain ⟨x276, e277, hF⟩ := zH hF
   refine zA rfl rfl (xJ (a := g221) (b := 1) rfl rfl e277) ?_
   refine zA rfl rfl (zF (v := .int .i64 x276) rfl) ?_
   refine (zI (zB (And.intro ?_ ?_)))
   ·repeat' (first | with_reducible exact zN | refine zV rfl ?_ | refine zO rfl rfl ?_)
   exact ⟨(n227, x274, x276), (zK rfl (zK rfl zQ)), ⟨H.pick [0] (by decide), hF⟩, Nat.lt_succ_self _⟩
  have hF := zX c246 hF
  have hR := Option.some.inj hF
  subst hR
  refine (xB (yN (yN (yR (zB (And.intro ?_ ?_))))))
  ·repeat' (first | with_reducible exact zN | refine zV rfl ?_ | refine zO rfl rfl ?_)
  exact ⟨(), (zK rfl zQ), H.pick [] (by decide)⟩
 rintro _ ρ w115 H
 have hF := hK116
 refine zD fun K278 hK278 => ?_
 refine zC ?_
 refine zA rfl rfl (zG (v := .int .i64 g114) rfl) ?_
 refine zA rfl rfl (zF (v := .int .i64 g114) rfl) ?_
 refine (zI (zB (hK278 _ _ ?_)))
 have hR := Option.some.inj hF
 subst hR
 refine (yG (post1 (v1 := .int .i64 g114) rfl rfl ?_))
 exact ⟨rfl, H.pick [] (by decide)⟩
end Go.Proofs.YtbjhondbheijiaaGreatDoor.L
namespace Go.Proofs.YtbjhondbheijiaaGreatDoor.L
open Go.RowKit Go.OB Go.Lf
/- orangebox/orangeboxref9.times -/
set_option maxHeartbeats 4000000 in
theorem F_ref9_times_w (p0 : Int) (p1 : Int) (r : Orangeboxref9Wide) (hF : F_ref9_times p0 p1 = some r) (O S : List Nat) (w : World) (H : Hd O w w S []) :
  Calls Tryz.prog 17 ([.int .i64 p0, .int .i64 p1] : List Value).toArray w fun e w' => e = .returned (.agg [.bool r.neg, .int .u64 r.high, .int .u64 r.low].toArray) ∧ Hd O w w' S [] := by
 unfold F_ref9_times at hF
 refine yB 31 Tryz.func17 rfl rfl rfl ?_
 refine zD fun K1 hK1 => ?_
 refine zC ?_
 refine xE rfl rfl (xR zero53 H) ?_
 rintro _ w4 ⟨b2, rfl, H⟩
 refine (zI (zB (hK1 _ _ ?_)))
 refine zD fun K5 hK5 => ?_
 refine zC ?_
 refine zA rfl rfl (zG (v := .int .i64 p0) rfl) ?_
 obtain ⟨x6, e7, hF⟩ := zH hF
 refine zA rfl rfl (zT (xK (a := p0) (b := 0) rfl rfl) (congrArg Value.bool e7)) ?_
 refine zA rfl rfl (zG (v := .int .i64 p1) rfl) ?_
 obtain ⟨x8, e9, hF⟩ := zH hF
 refine zA rfl rfl (zT (xK (a := p1) (b := 0) rfl rfl) (congrArg Value.bool e9)) ?_
 obtain ⟨x10, e11, hF⟩ := zH hF
 refine zA rfl rfl (zT (Do_neqb (p := x6) (q := x8) u4 rfl rfl) (congrArg Value.bool e11)) ?_
 refine zA rfl rfl (zF (v := .bool x10) rfl) ?_
 refine (zI (zB (hK5 _ _ ?_)))
 refine zD fun K12 hK12 => ?_
 refine zC ?_
 refine zA rfl rfl (zG (v := .int .i64 p0) rfl) ?_
 refine zA rfl rfl (zG (v := .int .i64 p0) rfl) ?_
 obtain ⟨x13, e14, hF⟩ := zH hF
 refine zA rfl rfl (Do_neg (a := p0) rfl e14) ?_
 obtain ⟨x15, e16, hF⟩ := zH hF
 refine zA rfl rfl (Do_max (j := p0) (q := x13) rfl rfl e16) ?_
 obtain ⟨x17, e18, hF⟩ := zH hF
 refine zA rfl rfl (Do_conv u3 u51 rfl e18) ?_
 refine zA rfl rfl (zG (v := .int .i64 p1) rfl) ?_
 refine zA rfl rfl (zG (v := .int .i64 p1) rfl) ?_
 obtain ⟨x19, e20, hF⟩ := zH hF
 refine zA rfl rfl (Do_neg (a := p1) rfl e20) ?_
 obtain ⟨x21, e22, hF⟩ := zH hF
 refine zA rfl rfl (Do_max (j := p1) (q := x19) rfl rfl e22) ?_
 obtain ⟨x23, e24, hF⟩ := zH hF
 refine zA rfl rfl (Do_conv u3 u51 rfl e24) ?_
 have H25 := H
 obtain ⟨⟨x26, x27⟩, e28, hF⟩ := zJ hF
 refine yJ rfl rfl (yC en35 rfl) (F_math_bits_Mul64_w x17 x23 _ e28 _ _ _ (H.enter [] [] (by decide) rfl)) ?_
 rintro _ w29 ⟨rfl, G30⟩
 have H := H25.step (G30.only : Only [] _ _)
 refine ⟨_, rfl, ?_⟩
 refine zA rfl rfl (zG (v := .tuple #[.int .u64 x26, .int .u64 x27]) rfl) ?_
 refine zA rfl rfl (yQ (v := .int .u64 x26) rfl rfl) ?_
 refine zA rfl rfl (yQ (v := .int .u64 x27) rfl rfl) ?_
 refine zA rfl rfl (zF (v := .int .u64 x26) rfl) ?_
 refine zA rfl rfl (zF (v := .int .u64 x27) rfl) ?_
 refine (zI (zB (hK12 _ _ ?_)))
 refine zD fun K31 hK31 => ?_
 refine zC ?_
 refine zA rfl rfl (zG (v := .bool x10) rfl) ?_
 refine zA rfl rfl (zG (v := .int .u64 x26) rfl) ?_
 refine zA rfl rfl (zG (v := .int .u64 x27) rfl) ?_
 refine zA rfl rfl (Do_build (cs := [.bool x10, .int .u64 x26, .int .u64 x27]) (bt53_0_1_2 _ _ _)) ?_
 refine xO rfl (xA (vs := [.bool x10, .int .u64 x26, .int .u64 x27]) H 0 rfl sz53 rfl rfl rfl ⟨rfl, rfl, rfl, trivial⟩ rfl) ?_
 rintro w32 H
 refine (zI (zB (hK31 _ _ ?_)))
 have hR := Option.some.inj hF
 subst hR
 refine (yG (postc  rfl rfl (xH agg53 sz53 rfl (Blk.cells (H.item (i := 0) rfl))) ?_))
 exact ⟨rfl, H.pick [] (by decide)⟩
end Go.Proofs.YtbjhondbheijiaaGreatDoor.L
namespace Go.Proofs.YtbjhondbheijiaaGreatDoor.L
open Go.RowKit Go.OB Go.Lf
/- orangebox/orangeboxref9.plus -/
set_option maxHeartbeats 4000000 in
theorem F_ref9_plus_w (p0 : Orangeboxref9Wide) (p1 : Orangeboxref9Wide) (r : Orangeboxref9Wide) (hF : F_ref9_plus p0 p1 = some r) (O S : List Nat) (w : World) (H : Hd O w w S []) :
  Calls Tryz.prog 16 ([.agg [.bool p0.neg, .int .u64 p0.high, .int .u64 p0.low].toArray, .agg [.bool p1.neg, .int .u64 p1.high, .int .u64 p1.low].toArray] : List Value).toArray w fun e w' => e = .returned (.agg [.bool r.neg, .int .u64 r.high, .int .u64 r.low].toArray) ∧ Hd O w w' S [] := by
 unfold F_ref9_plus at hF
 refine yB 83 Tryz.func16 rfl rfl rfl ?_
 refine zD fun K1 hK1 => ?_
 refine zC ?_
 refine xE rfl rfl (Lx_box (cs := [.bool p0.neg, .int .u64 p0.high, .int .u64 p0.low]) rfl H) ?_
 rintro _ w4 ⟨b2, rfl, H⟩
 refine xE rfl rfl (Lx_box (cs := [.bool p1.neg, .int .u64 p1.high, .int .u64 p1.low]) rfl H) ?_
 rintro _ w7 ⟨b5, rfl, H⟩
 refine xE rfl rfl (xR zero53 H) ?_
 rintro _ w10 ⟨b8, rfl, H⟩
 refine (zI (zB (hK1 _ _ ?_)))
 refine zD fun K25 hK25 => ?_
 refine zD fun K26 hK26 => ?_
 refine zC ?_
 refine zA rfl rfl (fa53_0 rfl) ?_
 refine zA rfl rfl (zU one4 rfl (Cells.get (Blk.cells (H.item (i := 0) rfl)) (i := 0) rfl)) ?_
 refine zA rfl rfl (fa53_0 rfl) ?_
 refine zA rfl rfl (zU one4 rfl (Cells.get (Blk.cells (H.item (i := 1) rfl)) (i := 0) rfl)) ?_
 obtain ⟨x27, e28, hF⟩ := zH hF
 refine zA rfl rfl (zT (Do_eqlb (p := p0.neg) (q := p1.neg) u4 rfl rfl) (congrArg Value.bool e28)) ?_
 refine (zI (zB (hK26 _ _ ?_)))
 refine yF (b := x27) rfl (fun c29 => ?_) (fun c29 => ?_)
 ·have hF := zW c29 hF
  refine zD fun K30 hK30 => ?_
  refine zC ?_
  refine zA rfl rfl (fa53_2 rfl) ?_
  refine zA rfl rfl (zU one51 rfl (Cells.get (Blk.cells (H.item (i := 0) rfl)) (i := 2) rfl)) ?_
  refine zA rfl rfl (fa53_2 rfl) ?_
  refine zA rfl rfl (zU one51 rfl (Cells.get (Blk.cells (H.item (i := 1) rfl)) (i := 2) rfl)) ?_
  obtain ⟨⟨x31, x32⟩, e33, hF⟩ := zJ hF
  refine zA rfl rfl (E.X_Add64_do e33 rfl) ?_
  refine zA rfl rfl (zG (v := .tuple #[.int .u64 x31, .int .u64 x32]) rfl) ?_
  refine zA rfl rfl (yQ (v := .int .u64 x31) rfl rfl) ?_
  refine zA rfl rfl (yQ (v := .int .u64 x32) rfl rfl) ?_
  refine zA rfl rfl (zF (v := .int .u64 x31) rfl) ?_
  refine zA rfl rfl (zF (v := .int .u64 x32) rfl) ?_
  refine (zI (zB (hK30 _ _ ?_)))
  refine zD fun K34 hK34 => ?_
  refine zC ?_
  refine zA rfl rfl (fa53_1 rfl) ?_
  refine zA rfl rfl (zU one51 rfl (Cells.get (Blk.cells (H.item (i := 0) rfl)) (i := 1) rfl)) ?_
  refine zA rfl rfl (fa53_1 rfl) ?_
  refine zA rfl rfl (zU one51 rfl (Cells.get (Blk.cells (H.item (i := 1) rfl)) (i := 1) rfl)) ?_
  refine zA rfl rfl (zG (v := .int .u64 x32) rfl) ?_
  obtain ⟨⟨x35, x36⟩, e37, hF⟩ := zJ hF
  refine zA rfl rfl (E.X_Add64_do e37 rfl) ?_
  refine zA rfl rfl (zG (v := .tuple #[.int .u64 x35, .int .u64 x36]) rfl) ?_
  refine zA rfl rfl (yQ (v := .int .u64 x35) rfl rfl) ?_
  refine zA rfl rfl (yQ (v := .int .u64 x36) rfl rfl) ?_
  refine zA rfl rfl (zF (v := .int .u64 x35) rfl) ?_
  refine zA rfl rfl (zF (v := .int .u64 x36) rfl) ?_
  refine (zI (zB (hK34 _ _ ?_)))
  refine zD fun K38 hK38 => ?_
  refine zC ?_
  refine zA rfl rfl (fa53_0 rfl) ?_
  refine zA rfl rfl (zU one4 rfl (Cells.get (Blk.cells (H.item (i := 0) rfl)) (i := 0) rfl)) ?_
  refine zA rfl rfl (zG (v := .int .u64 x35) rfl) ?_
  refine zA rfl rfl (zG (v := .int .u64 x31) rfl) ?_
  refine zA rfl rfl (Do_build (cs := [.bool p0.neg, .int .u64 x35, .int .u64 x31]) (bt53_0_1_2 _ _ _)) ?_
  refine xO rfl (xA (vs := [.bool p0.neg, .int .u64 x35, .int .u64 x31]) H 2 rfl sz53 rfl rfl rfl ⟨rfl, rfl, rfl, trivial⟩ rfl) ?_
  rintro w39 H
  refine (zI (zB (hK38 _ _ ?_)))
  have hR := Option.some.inj hF
  subst hR
  refine (yG (zZ (postc  rfl rfl (xH agg53 sz53 rfl (Blk.cells (H.item (i := 2) rfl))) ?_)))
  exact ⟨rfl, H.pick [] (by decide)⟩
 have hF := zX c29 hF
 refine (yA (zB (hK25 _ _ ?_)))
 obtain ⟨j62, hF, hK61⟩ := zJ hF
 refine yL [40, 41, 42, 43, 44, 45, 46, 47, 48, 49, 50, 51, 52, 53, 54, 55, 56, 57, 58, 59, 60] (fun (g : Unit) => []) (fun g wl => Hd O w wl S [.blk b2 [.bool j62.1, .int .u64 j62.2.1, .int .u64 j62.2.2.1] 53, .blk b5 [.bool j62.2.2.2.1, .int .u64 j62.2.2.2.2.1, .int .u64 j62.2.2.2.2.2] 53, .blk b8 [.bool false, .int .u64 0, .int .u64 0] 53]) ?_ ?_
 ·skip
  obtain ⟨g71, hF, hK73⟩ := zJ hF
  refine yL [40, 41, 42, 43, 44, 45, 46, 47, 48, 49, 50, 51, 52, 53, 54, 55, 56, 57, 58] (fun (g : Unit) => [(58, .bool g71)]) (fun g wl => Hd O w wl S [.blk b2 [.bool p0.neg, .int .u64 p0.high, .int .u64 p0.low] 53, .blk b5 [.bool p1.neg, .int .u64 p1.high, .int .u64 p1.low] 53, .blk b8 [.bool false, .int .u64 0, .int .u64 0] 53]) ?_ ?_
  ·skip
   refine zC ?_
   refine zA rfl rfl (fa53_1 rfl) ?_
   refine zA rfl rfl (zU one51 rfl (Cells.get (Blk.cells (H.item (i := 0) rfl)) (i := 1) rfl)) ?_
   refine zA rfl rfl (fa53_1 rfl) ?_
   refine zA rfl rfl (zU one51 rfl (Cells.get (Blk.cells (H.item (i := 1) rfl)) (i := 1) rfl)) ?_
   obtain ⟨x74, e75, hF⟩ := zH hF
   refine zA rfl rfl (zT (xK (a := p0.high) (b := p1.high) rfl rfl) (congrArg Value.bool e75)) ?_
   refine yO (b := x74) rfl rfl rfl (fun c76 => ?_) (fun c76 => ?_)
   ·have hF := zW c76 hF
    refine zM rfl rfl ?_
    refine zM rfl rfl ?_
    refine zM rfl rfl ?_
    refine zM rfl rfl ?_
    refine zM rfl rfl ?_
    refine zM rfl rfl ?_
    refine zM rfl rfl ?_
    refine zM rfl rfl ?_
    refine zM rfl rfl ?_
    refine zM rfl rfl ?_
    refine zM rfl rfl ?_
    refine zM rfl rfl ?_
    refine zA rfl rfl (yI (v := .bool true) rfl rfl) ?_
    have hR := Option.some.inj hF
    subst hR
    refine (zI (zB (And.intro ?_ ?_)))
    ·repeat' (first | with_reducible exact zN | refine zV rfl ?_ | refine zO rfl rfl ?_)
    exact ⟨(), (zK rfl zQ), H.pick [0, 1, 2] (by decide)⟩
   have hF := zX c76 hF
   refine zA rfl rfl (fa53_1 rfl) ?_
   refine zA rfl rfl (zU one51 rfl (Cells.get (Blk.cells (H.item (i := 0) rfl)) (i := 1) rfl)) ?_
   refine zA rfl rfl (fa53_1 rfl) ?_
   refine zA rfl rfl (zU one51 rfl (Cells.get (Blk.cells (H.item (i := 1) rfl)) (i := 1) rfl)) ?_
   obtain ⟨x77, e78, hF⟩ := zH hF
   refine zA rfl rfl (zT (Do_eql (a := p0.high) (b := p1.high) rfl rfl) (congrArg Value.bool e78)) ?_
   refine yO (b := x77) rfl rfl rfl (fun c79 => ?_) (fun c79 => ?_)
   ·have hF := zW c79 hF
    refine zA rfl rfl (fa53_2 rfl) ?_
    refine zA rfl rfl (zU one51 rfl (Cells.get (Blk.cells (H.item (i := 0) rfl)) (i := 2) rfl)) ?_
    refine zA rfl rfl (fa53_2 rfl) ?_
    refine zA rfl rfl (zU one51 rfl (Cells.get (Blk.cells (H.item (i := 1) rfl)) (i := 2) rfl)) ?_
    obtain ⟨x80, e81, hF⟩ := zH hF
    refine zA rfl rfl (zT (xK (a := p0.low) (b := p1.low) rfl rfl) (congrArg Value.bool e81)) ?_
    refine zA rfl rfl (yI (v := .bool x80) rfl rfl) ?_
    refine zA rfl rfl (yH (v := .bool x80) rfl rfl) ?_
    have hR := Option.some.inj hF
    subst hR
    refine (zI (zB (And.intro ?_ ?_)))
    ·repeat' (first | with_reducible exact zN | refine zV rfl ?_ | refine zO rfl rfl ?_)
    exact ⟨(), (zK rfl zQ), H.pick [0, 1, 2] (by decide)⟩
   have hF := zX c79 hF
   refine zM rfl rfl ?_
   refine zM rfl rfl ?_
   refine zM rfl rfl ?_
   refine zM rfl rfl ?_
   refine zM rfl rfl ?_
   refine zA rfl rfl (yH (v := .bool false) rfl rfl) ?_
   refine zA rfl rfl (yH (v := .bool false) rfl rfl) ?_
   have hR := Option.some.inj hF
   subst hR
   refine (zI (zB (And.intro ?_ ?_)))
   ·repeat' (first | with_reducible exact zN | refine zV rfl ?_ | refine zO rfl rfl ?_)
   exact ⟨(), (zK rfl zQ), H.pick [0, 1, 2] (by decide)⟩
  rintro _ ρ w72 H
  have hF := hK73
  refine yF (b := g71) rfl (fun c82 => ?_) (fun c82 => ?_)
  ·have hF := zW c82 hF
   refine zC ?_
   refine zA rfl rfl (zT (yV (cs := [.bool p1.neg, .int .u64 p1.high, .int .u64 p1.low]) agg53 rfl sz53 rfl (Blk.cells (H.item (i := 1) rfl))) rfl) ?_
   refine zA rfl rfl (zT (yV (cs := [.bool p0.neg, .int .u64 p0.high, .int .u64 p0.low]) agg53 rfl sz53 rfl (Blk.cells (H.item (i := 0) rfl))) rfl) ?_
   refine xO rfl (xA (vs := [.bool p1.neg, .int .u64 p1.high, .int .u64 p1.low]) H 0 rfl sz53 rfl rfl rfl ⟨rfl, rfl, rfl, trivial⟩ rfl) ?_
   rintro w83 H
   refine xO rfl (xA (vs := [.bool p0.neg, .int .u64 p0.high, .int .u64 p0.low]) H 1 rfl sz53 rfl rfl rfl ⟨rfl, rfl, rfl, trivial⟩ rfl) ?_
   rintro w84 H
   have hR := Option.some.inj hF
   subst hR
   refine (zI (zB (And.intro ?_ ?_)))
   ·repeat' (first | with_reducible exact zN | refine zV rfl ?_ | refine zO rfl rfl ?_)
   exact ⟨(), zQ, H.pick [0, 1, 2] (by decide)⟩
  have hF := zX c82 hF
  have hR := Option.some.inj hF
  subst hR
  refine (yA (zB (And.intro ?_ ?_)))
  ·repeat' (first | with_reducible exact zN | refine zV rfl ?_ | refine zO rfl rfl ?_)
  exact ⟨(), zQ, H.pick [0, 1, 2] (by decide)⟩
 rintro _ ρ w60 H
 have hF := hK61
 obtain ⟨g54, g55, g56, g57, g58, g59⟩ := j62
 refine zD fun K85 hK85 => ?_
 refine zC ?_
 refine zA rfl rfl (fa53_2 rfl) ?_
 refine zA rfl rfl (zU one51 rfl (Cells.get (Blk.cells (H.item (i := 0) rfl)) (i := 2) rfl)) ?_
 refine zA rfl rfl (fa53_2 rfl) ?_
 refine zA rfl rfl (zU one51 rfl (Cells.get (Blk.cells (H.item (i := 1) rfl)) (i := 2) rfl)) ?_
 obtain ⟨⟨x86, x87⟩, e88, hF⟩ := zJ hF
 refine zA rfl rfl (E.X_Sub64_do e88 rfl) ?_
 refine zA rfl rfl (zG (v := .tuple #[.int .u64 x86, .int .u64 x87]) rfl) ?_
 refine zA rfl rfl (yQ (v := .int .u64 x86) rfl rfl) ?_
 refine zA rfl rfl (yQ (v := .int .u64 x87) rfl rfl) ?_
 refine zA rfl rfl (zF (v := .int .u64 x86) rfl) ?_
 refine zA rfl rfl (zF (v := .int .u64 x87) rfl) ?_
 refine (zI (zB (hK85 _ _ ?_)))
 refine zD fun K89 hK89 => ?_
 refine zC ?_
 refine zA rfl rfl (fa53_1 rfl) ?_
 refine zA rfl rfl (zU one51 rfl (Cells.get (Blk.cells (H.item (i := 0) rfl)) (i := 1) rfl)) ?_
 refine zA rfl rfl (fa53_1 rfl) ?_
 refine zA rfl rfl (zU one51 rfl (Cells.get (Blk.cells (H.item (i := 1) rfl)) (i := 1) rfl)) ?_
 refine zA rfl rfl (zG (v := .int .u64 x87) rfl) ?_
 obtain ⟨⟨x90, x91⟩, e92, hF⟩ := zJ hF
 refine zA rfl rfl (E.X_Sub64_do e92 rfl) ?_
 refine zA rfl rfl (zG (v := .tuple #[.int .u64 x90, .int .u64 x91]) rfl) ?_
 refine zA rfl rfl (yQ (v := .int .u64 x90) rfl rfl) ?_
 refine zA rfl rfl (yQ (v := .int .u64 x91) rfl rfl) ?_
 refine zA rfl rfl (zF (v := .int .u64 x90) rfl) ?_
 refine zA rfl rfl (zF (v := .int .u64 x91) rfl) ?_
 refine (zI (zB (hK89 _ _ ?_)))
 refine zD fun K93 hK93 => ?_
 refine zC ?_
 refine zA rfl rfl (fa53_0 rfl) ?_
 refine zA rfl rfl (zU one4 rfl (Cells.get (Blk.cells (H.item (i := 0) rfl)) (i := 0) rfl)) ?_
 refine zA rfl rfl (zG (v := .int .u64 x90) rfl) ?_
 refine zA rfl rfl (zG (v := .int .u64 x86) rfl) ?_
 refine zA rfl rfl (Do_build (cs := [.bool g54, .int .u64 x90, .int .u64 x86]) (bt53_0_1_2 _ _ _)) ?_
 refine xO rfl (xA (vs := [.bool g54, .int .u64 x90, .int .u64 x86]) H 2 rfl sz53 rfl rfl rfl ⟨rfl, rfl, rfl, trivial⟩ rfl) ?_
 rintro w94 H
 refine (zI (zB (hK93 _ _ ?_)))
 have hR := Option.some.inj hF
 subst hR
 refine (yG (postc  rfl rfl (xH agg53 sz53 rfl (Blk.cells (H.item (i := 2) rfl))) ?_))
 exact ⟨rfl, H.pick [] (by decide)⟩
end Go.Proofs.YtbjhondbheijiaaGreatDoor.L
namespace Go.Proofs.YtbjhondbheijiaaGreatDoor.L
open Go.RowKit Go.OB Go.Lf
/- math/bits.LeadingZeros64 -/
set_option maxHeartbeats 4000000 in
theorem F_math_bits_LeadingZeros64_w (p0 : Int) (r : Int) (hF : F_math_bits_LeadingZeros64 p0 = some r) (O S : List Nat) (w : World) (H : Hd O w w S []) :
  Calls Tryz.prog 84 ([.int .u64 p0] : List Value).toArray w fun e w' => e = .returned (.int .i64 r) ∧ Hd O w w' S [] := by
 unfold F_math_bits_LeadingZeros64 at hF
 refine yB 6 Tryz.func84 rfl rfl rfl ?_
 refine zD fun K1 hK1 => ?_
 refine zC ?_
 refine zA rfl rfl (zF (v := .int .i64 0) rfl) ?_
 refine (zI (zB (hK1 _ _ ?_)))
 refine zD fun K2 hK2 => ?_
 refine zC ?_
 refine zA rfl rfl (zG (v := .int .u64 p0) rfl) ?_
 have H3 := H
 obtain ⟨x4, e5, hF⟩ := zJ hF
 refine yJ rfl rfl (yC en96 rfl) (E.X_Len64_w p0 _ e5 _ _ _ (H.enter [] [] (by decide) rfl)) ?_
 rintro _ w6 ⟨rfl, G7⟩
 have H := H3.step (G7.only : Only [] _ _)
 refine ⟨_, rfl, ?_⟩
 obtain ⟨x8, e9, hF⟩ := zH hF
 refine zA rfl rfl (Do_sub (a := 64) (b := x4) rfl rfl e9) ?_
 refine zA rfl rfl (zF (v := .int .i64 x8) rfl) ?_
 refine (zI (zB (hK2 _ _ ?_)))
 have hR := Option.some.inj hF
 subst hR
 refine (yG (post1 (v1 := .int .i64 x8) rfl rfl ?_))
 exact ⟨rfl, H.pick [] (by decide)⟩
end Go.Proofs.YtbjhondbheijiaaGreatDoor.L
namespace Go.Proofs.YtbjhondbheijiaaGreatDoor.L
open Go.RowKit Go.OB Go.Lf
/- math/bits.Div64 -/
set_option maxHeartbeats 4000000 in
theorem F_math_bits_Div64_w (p0 : Int) (p1 : Int) (p2 : Int) (r : Int × Int) (hF : F_math_bits_Div64 p0 p1 p2 = some r) (O S : List Nat) (w : World) (H : Hd O w w S []) :
  Calls Tryz.prog 64 ([.int .u64 p0, .int .u64 p1, .int .u64 p2] : List Value).toArray w fun e w' => e = .returned (.tuple #[.int .u64 r.1, .int .u64 r.2]) ∧ Hd O w w' S [] := by
 unfold F_math_bits_Div64 at hF
 refine yB 135 Tryz.func64 rfl rfl rfl ?_
 refine zD fun K1 hK1 => ?_
 refine zC ?_
 refine zA rfl rfl (zF (v := .int .u64 0) rfl) ?_
 refine zA rfl rfl (zF (v := .int .u64 0) rfl) ?_
 refine (zI (zB (hK1 _ _ ?_)))
 refine zD fun K6 hK6 => ?_
 refine zD fun K7 hK7 => ?_
 refine zC ?_
 refine zA rfl rfl (zG (v := .int .u64 p2) rfl) ?_
 obtain ⟨x8, e9, hF⟩ := zH hF
 refine zA rfl rfl (zT (Do_eql (a := p2) (b := 0) rfl rfl) (congrArg Value.bool e9)) ?_
 refine (zI (zB (hK7 _ _ ?_)))
 refine yF (b := x8) rfl (fun c10 => ?_) (fun c10 => ?_)
 ·have hF := zW c10 hF
  cases hF
 have hF := zX c10 hF
 refine (yA (zB (hK6 _ _ ?_)))
 refine zD fun K15 hK15 => ?_
 refine zD fun K16 hK16 => ?_
 refine zC ?_
 refine zA rfl rfl (zG (v := .int .u64 p2) rfl) ?_
 refine zA rfl rfl (zG (v := .int .u64 p0) rfl) ?_
 obtain ⟨x17, e18, hF⟩ := zH hF
 refine zA rfl rfl (zT (Do_leq (a := p2) (b := p0) rfl rfl) (congrArg Value.bool e18)) ?_
 refine (zI (zB (hK16 _ _ ?_)))
 refine yF (b := x17) rfl (fun c19 => ?_) (fun c19 => ?_)
 ·have hF := zW c19 hF
  cases hF
 have hF := zX c19 hF
 refine (yA (zB (hK15 _ _ ?_)))
 refine zD fun K32 hK32 => ?_
 refine zD fun K33 hK33 => ?_
 refine zC ?_
 refine zA rfl rfl (zG (v := .int .u64 p0) rfl) ?_
 obtain ⟨x34, e35, hF⟩ := zH hF
 refine zA rfl rfl (zT (Do_eql (a := p0) (b := 0) rfl rfl) (congrArg Value.bool e35)) ?_
 refine (zI (zB (hK33 _ _ ?_)))
 refine yF (b := x34) rfl (fun c36 => ?_) (fun c36 => ?_)
 ·have hF := zW c36 hF
  refine zD fun K37 hK37 => ?_
  have H38 := H
  have H := H.rebase
  have H39 := H
  refine WP_mix0 H [0, 1, 2, 3, 4, 5, 6, 7] [.pure, .pure, .pure, .pure, .pure, .pure, .pure, .pure] mixed (by kernel_rfl) (by kernel_rfl) (by kernel_rfl) rfl ?_
  refine Mx.zS rfl rfl rfl (fun w' hw' => zG (v := .int .u64 p1) rfl) ?_
  refine Mx.zS rfl rfl rfl (fun w' hw' => zG (v := .int .u64 p2) rfl) ?_
  obtain ⟨x40, e41, hF⟩ := zJ hF
  refine Mx.zS rfl rfl rfl (fun w' hw' => Do_quo' (j := p1) (q := p2) rfl rfl e41) ?_
  refine Mx.zS rfl rfl rfl (fun w' hw' => zG (v := .int .u64 p1) rfl) ?_
  refine Mx.zS rfl rfl rfl (fun w' hw' => zG (v := .int .u64 p2) rfl) ?_
  obtain ⟨x42, e43, hF⟩ := zJ hF
  refine Mx.zS rfl rfl rfl (fun w' hw' => Do_rem' (j := p1) (q := p2) rfl rfl e43) ?_
  refine Mx.zS rfl rfl rfl (fun w' hw' => zF (v := .int .u64 x40) rfl) ?_
  refine Mx.zS rfl rfl rfl (fun w' hw' => zF (v := .int .u64 x42) rfl) ?_
  refine Mx.wG fun w44 hS => ?_
  have H := H.sees hS
  have H := H38.rejoin H
  refine (zB (hK37 _ _ ?_))
  have hR := Option.some.inj hF
  subst hR
  refine (yG (zZ (post2 (v1 := .int .u64 x40) (v2 := .int .u64 x42) rfl rfl rfl ?_)))
  exact ⟨rfl, H.pick [] (by decide)⟩
 have hF := zX c36 hF
 refine (yA (zB (hK32 _ _ ?_)))
 refine zD fun K45 hK45 => ?_
 refine zC ?_
 refine zA rfl rfl (zG (v := .int .u64 p2) rfl) ?_
 have H46 := H
 obtain ⟨x47, e48, hF⟩ := zJ hF
 refine yJ rfl rfl (yC en84 rfl) (F_math_bits_LeadingZeros64_w p2 _ e48 _ _ _ (H.enter [] [] (by decide) rfl)) ?_
 rintro _ w49 ⟨rfl, G50⟩
 have H := H46.step (G50.only : Only [] _ _)
 refine ⟨_, rfl, ?_⟩
 obtain ⟨x51, e52, hF⟩ := zH hF
 refine zA rfl rfl (Do_conv u3 u111 rfl e52) ?_
 refine zA rfl rfl (zF (v := .int .u64 x51) rfl) ?_
 refine (zI (zB (hK45 _ _ ?_)))
 refine zD fun K53 hK53 => ?_
 refine zC ?_
 refine zA rfl rfl (zG (v := .int .u64 p2) rfl) ?_
 refine zA rfl rfl (zG (v := .int .u64 x51) rfl) ?_
 obtain ⟨x54, e55, hF⟩ := zJ hF
 refine zA rfl rfl (Do_shl' (j := p2) (q := x51) rfl rfl e55) ?_
 refine zA rfl rfl (zF (v := .int .u64 x54) rfl) ?_
 refine (zI (zB (hK53 _ _ ?_)))
 refine zD fun K56 hK56 => ?_
 refine zC ?_
 refine zA rfl rfl (zG (v := .int .u64 x54) rfl) ?_
 obtain ⟨x57, e58, hF⟩ := zJ hF
 refine zA rfl rfl (Do_shr' (j := x54) (q := 32) rfl rfl e58) ?_
 refine zA rfl rfl (zF (v := .int .u64 x57) rfl) ?_
 refine (zI (zB (hK56 _ _ ?_)))
 refine zD fun K59 hK59 => ?_
 refine zC ?_
 refine zA rfl rfl (zG (v := .int .u64 x54) rfl) ?_
 obtain ⟨x60, e61, hF⟩ := zH hF
 refine zA rfl rfl (Do_and (a := x54) (b := 4294967295) rfl rfl e61) ?_
 refine zA rfl rfl (zF (v := .int .u64 x60) rfl) ?_
 refine (zI (zB (hK59 _ _ ?_)))
 refine zD fun K62 hK62 => ?_
 refine zC ?_
 refine zA rfl rfl (zG (v := .int .u64 p0) rfl) ?_
 refine zA rfl rfl (zG (v := .int .u64 x51) rfl) ?_
 obtain ⟨x63, e64, hF⟩ := zJ hF
 refine zA rfl rfl (Do_shl' (j := p0) (q := x51) rfl rfl e64) ?_
 refine zA rfl rfl (zG (v := .int .u64 p1) rfl) ?_
 refine zA rfl rfl (zG (v := .int .u64 x51) rfl) ?_
 obtain ⟨x65, e66, hF⟩ := zH hF
 refine zA rfl rfl (Do_sub (a := 64) (b := x51) rfl rfl e66) ?_
 obtain ⟨x67, e68, hF⟩ := zJ hF
 refine zA rfl rfl (Do_shr' (j := p1) (q := x65) rfl rfl e68) ?_
 obtain ⟨x69, e70, hF⟩ := zH hF
 refine zA rfl rfl (Do_or (a := x63) (b := x67) rfl rfl e70) ?_
 refine zA rfl rfl (zF (v := .int .u64 x69) rfl) ?_
 refine (zI (zB (hK62 _ _ ?_)))
 refine zD fun K71 hK71 => ?_
 refine zC ?_
 refine zA rfl rfl (zG (v := .int .u64 p1) rfl) ?_
 refine zA rfl rfl (zG (v := .int .u64 x51) rfl) ?_
 obtain ⟨x72, e73, hF⟩ := zJ hF
 refine zA rfl rfl (Do_shl' (j := p1) (q := x51) rfl rfl e73) ?_
 refine zA rfl rfl (zF (v := .int .u64 x72) rfl) ?_
 refine (zI (zB (hK71 _ _ ?_)))
 refine zD fun K74 hK74 => ?_
 refine zC ?_
 refine zA rfl rfl (zG (v := .int .u64 x72) rfl) ?_
 obtain ⟨x75, e76, hF⟩ := zJ hF
 refine zA rfl rfl (Do_shr' (j := x72) (q := 32) rfl rfl e76) ?_
 refine zA rfl rfl (zF (v := .int .u64 x75) rfl) ?_
 refine (zI (zB (hK74 _ _ ?_)))
 refine zD fun K77 hK77 => ?_
 refine zC ?_
 refine zA rfl rfl (zG (v := .int .u64 x72) rfl) ?_
 obtain ⟨x78, e79, hF⟩ := zH hF
 refine zA rfl rfl (Do_and (a := x72) (b := 4294967295) rfl rfl e79) ?_
 refine zA rfl rfl (zF (v := .int .u64 x78) rfl) ?_
 refine (zI (zB (hK77 _ _ ?_)))
 refine zD fun K80 hK80 => ?_
 refine zC ?_
 refine zA rfl rfl (zG (v := .int .u64 x69) rfl) ?_
 refine zA rfl rfl (zG (v := .int .u64 x57) rfl) ?_
 obtain ⟨x81, e82, hF⟩ := zJ hF
 refine zA rfl rfl (Do_quo' (j := x69) (q := x57) rfl rfl e82) ?_
 refine zA rfl rfl (zF (v := .int .u64 x81) rfl) ?_
 refine (zI (zB (hK80 _ _ ?_)))
 refine zD fun K83 hK83 => ?_
 refine zC ?_
 refine zA rfl rfl (zG (v := .int .u64 x69) rfl) ?_
 refine zA rfl rfl (zG (v := .int .u64 x81) rfl) ?_
 refine zA rfl rfl (zG (v := .int .u64 x57) rfl) ?_
 obtain ⟨x84, e85, hF⟩ := zH hF
 refine zA rfl rfl (Do_mul (a := x81) (b := x57) rfl rfl e85) ?_
 obtain ⟨x86, e87, hF⟩ := zH hF
 refine zA rfl rfl (Do_sub (a := x69) (b := x84) rfl rfl e87) ?_
 refine zA rfl rfl (zF (v := .int .u64 x86) rfl) ?_
 refine (zI (zB (hK83 _ _ ?_)))
 obtain ⟨g178, hF, hK180⟩ := zJ hF
 refine yL [15, 16, 67, 68, 69, 70, 71, 72, 73, 74, 75, 76, 77, 78, 79, 80, 81, 82, 83, 84, 85] (fun (g : Unit) => [(15, .int .u64 g178)]) (fun g wl => Hd O w wl S []) ?_ ?_
 ·skip
  refine yK ?_
  unfold F_math_bits_Div64_L1 at hF
  obtain ⟨B267, n268, eB269, hF⟩ := yT hF
  refine xC [15, 16, 67, 68, 69, 70, 71, 72, 73, 74, 75, 76, 77, 78, 79, 80, 81, 82, 83, 84, 85] (fun (g : Nat × Int × Int) => [(15, .int .u64 g.2.1), (16, .int .u64 g.2.2)]) (fun g wl => Hd O w wl S [] ∧ loopN B267 g.1 (g.2.1, g.2.2) = some g178) (fun g => g.1) (n268, x81, x86) (zK rfl (zK rfl zQ)) ⟨H.pick [] (by decide), hF⟩ ?_
  clear H hF
  rintro ⟨n268, g265, g266⟩ ρ w271 ⟨H, hF⟩
  obtain ⟨n272, rfl, hF⟩ := yX hF
  have hF := yY eB269 hF
  refine zD fun K288 hK288 => ?_
  obtain ⟨g300, hF, hK302⟩ := zJ hF
  refine yL [67, 68, 69, 70, 71, 72, 73, 74, 75, 76, 77, 78] (fun (g : Unit) => [(78, .bool g300)]) (fun g wl => Hd O w wl S []) ?_ ?_
  ·skip
   refine zC ?_
   refine zA rfl rfl (zG (v := .int .u64 g265) rfl) ?_
   obtain ⟨x303, e304, hF⟩ := zH hF
   refine zA rfl rfl (zT (Do_geq (a := g265) (b := 4294967296) rfl rfl) (congrArg Value.bool e304)) ?_
   refine yO (b := x303) rfl rfl rfl (fun c305 => ?_) (fun c305 => ?_)
   ·have hF := zW c305 hF
    refine zM rfl rfl ?_
    refine zM rfl rfl ?_
    refine zM rfl rfl ?_
    refine zM rfl rfl ?_
    refine zM rfl rfl ?_
    refine zM rfl rfl ?_
    refine zM rfl rfl ?_
    refine zM rfl rfl ?_
    refine zA rfl rfl (yI (v := .bool true) rfl rfl) ?_
    have hR := Option.some.inj hF
    subst hR
    refine (zI (zB (And.intro ?_ ?_)))
    ·repeat' (first | with_reducible exact zN | refine zV rfl ?_ | refine zO rfl rfl ?_)
    exact ⟨(), (zK rfl zQ), H.pick [] (by decide)⟩
   have hF := zX c305 hF
   refine zA rfl rfl (zG (v := .int .u64 g265) rfl) ?_
   refine zA rfl rfl (zG (v := .int .u64 x60) rfl) ?_
   obtain ⟨x306, e307, hF⟩ := zH hF
   refine zA rfl rfl (Do_mul (a := g265) (b := x60) rfl rfl e307) ?_
   refine zA rfl rfl (zG (v := .int .u64 g266) rfl) ?_
   obtain ⟨x308, e309, hF⟩ := zH hF
   refine zA rfl rfl (Do_mul (a := 4294967296) (b := g266) rfl rfl e309) ?_
   refine zA rfl rfl (zG (v := .int .u64 x75) rfl) ?_
   obtain ⟨x310, e311, hF⟩ := zH hF
   refine zA rfl rfl (xJ (a := x308) (b := x75) rfl rfl e311) ?_
   obtain ⟨x312, e313, hF⟩ := zH hF
   refine zA rfl rfl (zT (wF (a := x306) (b := x310) rfl rfl) (congrArg Value.bool e313)) ?_
   refine zA rfl rfl (yH (v := .bool x312) rfl rfl) ?_
   have hR := Option.some.inj hF
   subst hR
   refine (zI (zB (And.intro ?_ ?_)))
   ·repeat' (first | with_reducible exact zN | refine zV rfl ?_ | refine zO rfl rfl ?_)
   exact ⟨(), (zK rfl zQ), H.pick [] (by decide)⟩
  rintro _ ρ w301 H
  have hF := hK302
  refine yF (b := g300) rfl (fun c314 => ?_) (fun c314 => ?_)
  ·have hF := zW c314 hF
   refine (yA (zB (hK288 _ _ ?_)))
   refine yK ?_
   refine zD fun K315 hK315 => ?_
   refine zC ?_
   refine zA rfl rfl (zG (v := .int .u64 g265) rfl) ?_
   obtain ⟨x316, e317, hF⟩ := zH hF
   refine zA rfl rfl (Do_sub (a := g265) (b := 1) rfl rfl e317) ?_
   refine zA rfl rfl (zF (v := .int .u64 x316) rfl) ?_
   refine (zI (zB (hK315 _ _ ?_)))
   refine zD fun K318 hK318 => ?_
   refine zC ?_
   refine zA rfl rfl (zG (v := .int .u64 g266) rfl) ?_
   refine zA rfl rfl (zG (v := .int .u64 x57) rfl) ?_
   obtain ⟨x319, e320, hF⟩ := zH hF
   refine zA rfl rfl (xJ (a := g266) (b := x57) rfl rfl e320) ?_
   refine zA rfl rfl (zF (v := .int .u64 x319) rfl) ?_
   refine (zI (zB (hK318 _ _ ?_)))
   refine zD fun K321 hK321 => ?_
   refine zC ?_
   refine zA rfl rfl (zG (v := .int .u64 x319) rfl) ?_
   obtain ⟨x322, e323, hF⟩ := zH hF
   refine zA rfl rfl (zT (Do_geq (a := x319) (b := 4294967296) rfl rfl) (congrArg Value.bool e323)) ?_
   refine (zI (zB (hK321 _ _ ?_)))
   refine yF (b := x322) rfl (fun c324 => ?_) (fun c324 => ?_)
   ·have hF := zW c324 hF
    have hR := Option.some.inj hF
    subst hR
    refine (xB (blockQ_x rfl (yN (yR (zB (And.intro ?_ ?_))))))
    ·repeat' (first | with_reducible exact zN | refine zV rfl ?_ | refine zO rfl rfl ?_)
    exact ⟨(), (zK rfl zQ), H.pick [] (by decide)⟩
   have hF := zX c324 hF
   refine (yA (yU (zB (And.intro ?_ ?_))))
   ·repeat' (first | with_reducible exact zN | refine zV rfl ?_ | refine zO rfl rfl ?_)
   exact ⟨(n272, x316, x319), (zK rfl (zK rfl zQ)), ⟨H.pick [] (by decide), hF⟩, Nat.lt_succ_self _⟩
  have hF := zX c314 hF
  have hR := Option.some.inj hF
  subst hR
  refine (xB (yN (yN (yR (zB (And.intro ?_ ?_))))))
  ·repeat' (first | with_reducible exact zN | refine zV rfl ?_ | refine zO rfl rfl ?_)
  exact ⟨(), (zK rfl zQ), H.pick [] (by decide)⟩
 rintro _ ρ w179 H
 have hF := hK180
 refine zD fun K325 hK325 => ?_
 refine zC ?_
 refine zA rfl rfl (zG (v := .int .u64 x69) rfl) ?_
 obtain ⟨x326, e327, hF⟩ := zH hF
 refine zA rfl rfl (Do_mul (a := x69) (b := 4294967296) rfl rfl e327) ?_
 refine zA rfl rfl (zG (v := .int .u64 x75) rfl) ?_
 obtain ⟨x328, e329, hF⟩ := zH hF
 refine zA rfl rfl (xJ (a := x326) (b := x75) rfl rfl e329) ?_
 refine zA rfl rfl (zG (v := .int .u64 g178) rfl) ?_
 refine zA rfl rfl (zG (v := .int .u64 x54) rfl) ?_
 obtain ⟨x330, e331, hF⟩ := zH hF
 refine zA rfl rfl (Do_mul (a := g178) (b := x54) rfl rfl e331) ?_
 obtain ⟨x332, e333, hF⟩ := zH hF
 refine zA rfl rfl (Do_sub (a := x328) (b := x330) rfl rfl e333) ?_
 refine zA rfl rfl (zF (v := .int .u64 x332) rfl) ?_
 refine (zI (zB (hK325 _ _ ?_)))
 refine zD fun K334 hK334 => ?_
 refine zC ?_
 refine zA rfl rfl (zG (v := .int .u64 x332) rfl) ?_
 refine zA rfl rfl (zG (v := .int .u64 x57) rfl) ?_
 obtain ⟨x335, e336, hF⟩ := zJ hF
 refine zA rfl rfl (Do_quo' (j := x332) (q := x57) rfl rfl e336) ?_
 refine zA rfl rfl (zF (v := .int .u64 x335) rfl) ?_
 refine (zI (zB (hK334 _ _ ?_)))
 refine zD fun K337 hK337 => ?_
 refine zC ?_
 refine zA rfl rfl (zG (v := .int .u64 x332) rfl) ?_
 refine zA rfl rfl (zG (v := .int .u64 x335) rfl) ?_
 refine zA rfl rfl (zG (v := .int .u64 x57) rfl) ?_
 obtain ⟨x338, e339, hF⟩ := zH hF
 refine zA rfl rfl (Do_mul (a := x335) (b := x57) rfl rfl e339) ?_
 obtain ⟨x340, e341, hF⟩ := zH hF
 refine zA rfl rfl (Do_sub (a := x332) (b := x338) rfl rfl e341) ?_
 refine zA rfl rfl (zF (v := .int .u64 x340) rfl) ?_
 refine (zI (zB (hK337 _ _ ?_)))
 obtain ⟨g432, hF, hK434⟩ := zJ hF
 refine yL [16, 18, 102, 103, 104, 105, 106, 107, 108, 109, 110, 111, 112, 113, 114, 115, 116, 117, 118, 119, 120] (fun (g : Unit) => [(18, .int .u64 g432)]) (fun g wl => Hd O w wl S []) ?_ ?_
 ·skip
  refine yK ?_
  unfold F_math_bits_Div64_L2 at hF
  obtain ⟨B521, n522, eB523, hF⟩ := yT hF
  refine xC [16, 18, 102, 103, 104, 105, 106, 107, 108, 109, 110, 111, 112, 113, 114, 115, 116, 117, 118, 119, 120] (fun (g : Nat × Int × Int) => [(16, .int .u64 g.2.1), (18, .int .u64 g.2.2)]) (fun g wl => Hd O w wl S [] ∧ loopN B521 g.1 (g.2.1, g.2.2) = some g432) (fun g => g.1) (n522, x340, x335) (zK rfl (zK rfl zQ)) ⟨H.pick [] (by decide), hF⟩ ?_
  clear H hF
  rintro ⟨n522, g519, g520⟩ ρ w525 ⟨H, hF⟩
  obtain ⟨n526, rfl, hF⟩ := yX hF
  have hF := yY eB523 hF
  refine zD fun K542 hK542 => ?_
  obtain ⟨g554, hF, hK556⟩ := zJ hF
  refine yL [102, 103, 104, 105, 106, 107, 108, 109, 110, 111, 112, 113] (fun (g : Unit) => [(113, .bool g554)]) (fun g wl => Hd O w wl S []) ?_ ?_
  ·skip
   refine zC ?_
   refine zA rfl rfl (zG (v := .int .u64 g520) rfl) ?_
   obtain ⟨x557, e558, hF⟩ := zH hF
   refine zA rfl rfl (zT (Do_geq (a := g520) (b := 4294967296) rfl rfl) (congrArg Value.bool e558)) ?_
   refine yO (b := x557) rfl rfl rfl (fun c559 => ?_) (fun c559 => ?_)
   ·have hF := zW c559 hF
    refine zM rfl rfl ?_
    refine zM rfl rfl ?_
    refine zM rfl rfl ?_
    refine zM rfl rfl ?_
    refine zM rfl rfl ?_
    refine zM rfl rfl ?_
    refine zM rfl rfl ?_
    refine zM rfl rfl ?_
    refine zA rfl rfl (yI (v := .bool true) rfl rfl) ?_
    have hR := Option.some.inj hF
    subst hR
    refine (zI (zB (And.intro ?_ ?_)))
    ·repeat' (first | with_reducible exact zN | refine zV rfl ?_ | refine zO rfl rfl ?_)
    exact ⟨(), (zK rfl zQ), H.pick [] (by decide)⟩
   have hF := zX c559 hF
   refine zA rfl rfl (zG (v := .int .u64 g520) rfl) ?_
   refine zA rfl rfl (zG (v := .int .u64 x60) rfl) ?_
   obtain ⟨x560, e561, hF⟩ := zH hF
   refine zA rfl rfl (Do_mul (a := g520) (b := x60) rfl rfl e561) ?_
   refine zA rfl rfl (zG (v := .int .u64 g519) rfl) ?_
   obtain ⟨x562, e563, hF⟩ := zH hF
   refine zA rfl rfl (Do_mul (a := 4294967296) (b := g519) rfl rfl e563) ?_
   refine zA rfl rfl (zG (v := .int .u64 x78) rfl) ?_
   obtain ⟨x564, e565, hF⟩ := zH hF
   refine zA rfl rfl (xJ (a := x562) (b := x78) rfl rfl e565) ?_
   obtain ⟨x566, e567, hF⟩ := zH hF
   refine zA rfl rfl (zT (wF (a := x560) (b := x564) rfl rfl) (congrArg Value.bool e567)) ?_
   refine zA rfl rfl (yH (v := .bool x566) rfl rfl) ?_
   have hR := Option.some.inj hF
   subst hR
   refine (zI (zB (And.intro ?_ ?_)))
   ·repeat' (first | with_reducible exact zN | refine zV rfl ?_ | refine zO rfl rfl ?_)
   exact ⟨(), (zK rfl zQ), H.pick [] (by decide)⟩
  rintro _ ρ w555 H
  have hF := hK556
  refine yF (b := g554) rfl (fun c568 => ?_) (fun c568 => ?_)
  ·have hF := zW c568 hF
   refine (yA (zB (hK542 _ _ ?_)))
   refine yK ?_
   refine zD fun K569 hK569 => ?_
   refine zC ?_
   refine zA rfl rfl (zG (v := .int .u64 g520) rfl) ?_
   obtain ⟨x570, e571, hF⟩ := zH hF
   refine zA rfl rfl (Do_sub (a := g520) (b := 1) rfl rfl e571) ?_
   refine zA rfl rfl (zF (v := .int .u64 x570) rfl) ?_
   refine (zI (zB (hK569 _ _ ?_)))
   refine zD fun K572 hK572 => ?_
   refine zC ?_
   refine zA rfl rfl (zG (v := .int .u64 g519) rfl) ?_
   refine zA rfl rfl (zG (v := .int .u64 x57) rfl) ?_
   obtain ⟨x573, e574, hF⟩ := zH hF
   refine zA rfl rfl (xJ (a := g519) (b := x57) rfl rfl e574) ?_
   refine zA rfl rfl (zF (v := .int .u64 x573) rfl) ?_
   refine (zI (zB (hK572 _ _ ?_)))
   refine zD fun K575 hK575 => ?_
   refine zC ?_
   refine zA rfl rfl (zG (v := .int .u64 x573) rfl) ?_
   obtain ⟨x576, e577, hF⟩ := zH hF
   refine zA rfl rfl (zT (Do_geq (a := x573) (b := 4294967296) rfl rfl) (congrArg Value.bool e577)) ?_
   refine (zI (zB (hK575 _ _ ?_)))
   refine yF (b := x576) rfl (fun c578 => ?_) (fun c578 => ?_)
   ·have hF := zW c578 hF
    have hR := Option.some.inj hF
    subst hR
    refine (xB (blockQ_x rfl (yN (yR (zB (And.intro ?_ ?_))))))
    ·repeat' (first | with_reducible exact zN | refine zV rfl ?_ | refine zO rfl rfl ?_)
    exact ⟨(), (zK rfl zQ), H.pick [] (by decide)⟩
   have hF := zX c578 hF
   refine (yA (yU (zB (And.intro ?_ ?_))))
   ·repeat' (first | with_reducible exact zN | refine zV rfl ?_ | refine zO rfl rfl ?_)
   exact ⟨(n526, x573, x570), (zK rfl (zK rfl zQ)), ⟨H.pick [] (by decide), hF⟩, Nat.lt_succ_self _⟩
  have hF := zX c568 hF
  have hR := Option.some.inj hF
  subst hR
  refine (xB (yN (yN (yR (zB (And.intro ?_ ?_))))))
  ·repeat' (first | with_reducible exact zN | refine zV rfl ?_ | refine zO rfl rfl ?_)
  exact ⟨(), (zK rfl zQ), H.pick [] (by decide)⟩
 rintro _ ρ w433 H
 have hF := hK434
 refine zD fun K579 hK579 => ?_
 refine zC ?_
 refine zA rfl rfl (zG (v := .int .u64 g178) rfl) ?_
 obtain ⟨x580, e581, hF⟩ := zH hF
 refine zA rfl rfl (Do_mul (a := g178) (b := 4294967296) rfl rfl e581) ?_
 refine zA rfl rfl (zG (v := .int .u64 g432) rfl) ?_
 obtain ⟨x582, e583, hF⟩ := zH hF
 refine zA rfl rfl (xJ (a := x580) (b := g432) rfl rfl e583) ?_
 refine zA rfl rfl (zG (v := .int .u64 x332) rfl) ?_
 obtain ⟨x584, e585, hF⟩ := zH hF
 refine zA rfl rfl (Do_mul (a := x332) (b := 4294967296) rfl rfl e585) ?_
 refine zA rfl rfl (zG (v := .int .u64 x78) rfl) ?_
 obtain ⟨x586, e587, hF⟩ := zH hF
 refine zA rfl rfl (xJ (a := x584) (b := x78) rfl rfl e587) ?_
 refine zA rfl rfl (zG (v := .int .u64 g432) rfl) ?_
 refine zA rfl rfl (zG (v := .int .u64 x54) rfl) ?_
 obtain ⟨x588, e589, hF⟩ := zH hF
 refine zA rfl rfl (Do_mul (a := g432) (b := x54) rfl rfl e589) ?_
 obtain ⟨x590, e591, hF⟩ := zH hF
 refine zA rfl rfl (Do_sub (a := x586) (b := x588) rfl rfl e591) ?_
 refine zA rfl rfl (zG (v := .int .u64 x51) rfl) ?_
 obtain ⟨x592, e593, hF⟩ := zJ hF
 refine zA rfl rfl (Do_shr' (j := x590) (q := x51) rfl rfl e593) ?_
 refine zA rfl rfl (zF (v := .int .u64 x582) rfl) ?_
 refine zA rfl rfl (zF (v := .int .u64 x592) rfl) ?_
 refine (zI (zB (hK579 _ _ ?_)))
 have hR := Option.some.inj hF
 subst hR
 refine (yG (post2 (v1 := .int .u64 x582) (v2 := .int .u64 x592) rfl rfl rfl ?_))
 exact ⟨rfl, H.pick [] (by decide)⟩
end Go.Proofs.YtbjhondbheijiaaGreatDoor.L
namespace Go.Proofs.YtbjhondbheijiaaGreatDoor.L
open Go.RowKit Go.OB Go.Lf
/- orangebox/orangeboxref9.ratio -/
set_option maxHeartbeats 4000000 in
theorem F_ref9_ratio_w (p0 : Orangeboxref9Wide) (p1 : Int) (r : Ratio × Bool) (hF : F_ref9_ratio p0 p1 = some r) (O S : List Nat) (w : World) (H : Hd O w w S []) :
  Calls Tryz.prog 43 ([.agg [.bool p0.neg, .int .u64 p0.high, .int .u64 p0.low].toArray, .int .u64 p1] : List Value).toArray w fun e w' => e = .returned (.tuple #[.agg [.int .i64 r.1.Num, .int .i64 r.1.Den].toArray, .bool r.2]) ∧ Hd O w w' S [] := by
 unfold F_ref9_ratio at hF
 refine yB 81 Tryz.func43 rfl rfl rfl ?_
 refine zD fun K1 hK1 => ?_
 refine zC ?_
 refine xE rfl rfl (Lx_box (cs := [.bool p0.neg, .int .u64 p0.high, .int .u64 p0.low]) rfl H) ?_
 rintro _ w4 ⟨b2, rfl, H⟩
 refine xE rfl rfl (xR zero28 H) ?_
 rintro _ w7 ⟨b5, rfl, H⟩
 refine zA rfl rfl (zF (v := .bool false) rfl) ?_
 refine (zI (zB (hK1 _ _ ?_)))
 refine zD fun K19 hK19 => ?_
 obtain ⟨g25, hF, hK27⟩ := zJ hF
 refine yL [14, 15, 16, 17, 18, 19, 20, 21] (fun (g : Unit) => [(21, .bool g25)]) (fun g wl => Hd O w wl S [.blk b2 [.bool p0.neg, .int .u64 p0.high, .int .u64 p0.low] 53, .blk b5 [.int .i64 0, .int .i64 0] 28]) ?_ ?_
 ·skip
  refine zC ?_
  refine zA rfl rfl (fa53_1 rfl) ?_
  refine zA rfl rfl (zU one51 rfl (Cells.get (Blk.cells (H.item (i := 0) rfl)) (i := 1) rfl)) ?_
  obtain ⟨x28, e29, hF⟩ := zH hF
  refine zA rfl rfl (zT (Do_eql (a := p0.high) (b := 0) rfl rfl) (congrArg Value.bool e29)) ?_
  refine yO (b := x28) rfl rfl rfl (fun c30 => ?_) (fun c30 => ?_)
  ·have hF := zW c30 hF
   refine zA rfl rfl (fa53_2 rfl) ?_
   refine zA rfl rfl (zU one51 rfl (Cells.get (Blk.cells (H.item (i := 0) rfl)) (i := 2) rfl)) ?_
   obtain ⟨x31, e32, hF⟩ := zH hF
   refine zA rfl rfl (zT (Do_eql (a := p0.low) (b := 0) rfl rfl) (congrArg Value.bool e32)) ?_
   refine zA rfl rfl (yI (v := .bool x31) rfl rfl) ?_
   have hR := Option.some.inj hF
   subst hR
   refine (zI (zB (And.intro ?_ ?_)))
   ·repeat' (first | with_reducible exact zN | refine zV rfl ?_ | refine zO rfl rfl ?_)
   exact ⟨(), (zK rfl zQ), H.pick [0, 1] (by decide)⟩
  have hF := zX c30 hF
  refine zM rfl rfl ?_
  refine zM rfl rfl ?_
  refine zM rfl rfl ?_
  refine zA rfl rfl (yH (v := .bool false) rfl rfl) ?_
  have hR := Option.some.inj hF
  subst hR
  refine (zI (zB (And.intro ?_ ?_)))
  ·repeat' (first | with_reducible exact zN | refine zV rfl ?_ | refine zO rfl rfl ?_)
  exact ⟨(), (zK rfl zQ), H.pick [0, 1] (by decide)⟩
 rintro _ ρ w26 H
 have hF := hK27
 refine yF (b := g25) rfl (fun c33 => ?_) (fun c33 => ?_)
 ·have hF := zW c33 hF
  refine zD fun K34 hK34 => ?_
  refine zC ?_
  refine zA rfl rfl (Do_build (cs := [.int .i64 0, .int .i64 1]) (bt28_1 _)) ?_
  refine xO rfl (xA (vs := [.int .i64 0, .int .i64 1]) H 1 rfl sz28 rfl rfl rfl ⟨rfl, rfl, trivial⟩ rfl) ?_
  rintro w35 H
  refine zA rfl rfl (zF (v := .bool true) rfl) ?_
  refine (zI (zB (hK34 _ _ ?_)))
  have hR := Option.some.inj hF
  subst hR
  refine (yG (zZ (postc1 (v1 := .bool true) rfl rfl (xH agg28 sz28 rfl (Blk.cells (H.item (i := 1) rfl))) rfl ?_)))
  exact ⟨rfl, H.pick [] (by decide)⟩
 have hF := zX c33 hF
 refine (yA (zB (hK19 _ _ ?_)))
 refine zD fun K36 hK36 => ?_
 have H37 := H
 have H := H.rebase
 have H38 := H
 refine WP_mix0 H [0, 1, 2, 3, 4, 5, 6, 7, 8, 9, 10, 11, 12] [.pure, .read, .pure, .pure, .pure, .read, .pure, .fcall, .pure, .pure, .pure, .pure, .pure] mixed (by kernel_rfl) (by kernel_rfl) (by kernel_rfl) rfl ?_
 refine Mx.zS rfl rfl rfl (fun w' hw' => fa53_1 rfl) ?_
 refine Mx.xM oS rfl rfl rfl (fun w' hw' => zU one51 rfl (Cells.get (Blk.cells ((H.sees hw').item (i := 0) rfl)) (i := 1) rfl)) ?_
 refine Mx.zS rfl rfl rfl (fun w' hw' => zG (v := .int .u64 p1) rfl) ?_
 obtain ⟨x39, e40, hF⟩ := zJ hF
 refine Mx.zS rfl rfl rfl (fun w' hw' => Do_rem' (j := p0.high) (q := p1) rfl rfl e40) ?_
 refine Mx.zS rfl rfl rfl (fun w' hw' => fa53_2 rfl) ?_
 refine Mx.xM oS rfl rfl rfl (fun w' hw' => zU one51 rfl (Cells.get (Blk.cells ((H.sees hw').item (i := 0) rfl)) (i := 2) rfl)) ?_
 refine Mx.zS rfl rfl rfl (fun w' hw' => zG (v := .int .u64 p1) rfl) ?_
 have H41 := H
 obtain ⟨⟨x42, x43⟩, e44, hF⟩ := zJ hF
 refine Mx.XL_fcall oS rfl rfl rfl (v := .tuple #[.int .u64 x42, .int .u64 x43]) (fun w' hw' => yC en64 rfl) (fun w' hw' => by have q := call_read (F_math_bits_Div64_w x39 p0.low p1 _ e44 _ _ _ (Hd.fresh0 w')); exact q) ?_
 have H := H41
 refine Mx.zS rfl rfl rfl (fun w' hw' => zG (v := .tuple #[.int .u64 x42, .int .u64 x43]) rfl) ?_
 refine Mx.zS rfl rfl rfl (fun w' hw' => yQ (v := .int .u64 x42) rfl rfl) ?_
 refine Mx.zS rfl rfl rfl (fun w' hw' => yQ (v := .int .u64 x43) rfl rfl) ?_
 refine Mx.zS rfl rfl rfl (fun w' hw' => zF (v := .int .u64 x42) rfl) ?_
 refine Mx.zS rfl rfl rfl (fun w' hw' => zF (v := .int .u64 x43) rfl) ?_
 refine Mx.wG fun w45 hS => ?_
 have H := H.sees hS
 have H := H37.rejoin H
 refine (zB (hK36 _ _ ?_))
 refine zD fun K46 hK46 => ?_
 refine zC ?_
 refine zA rfl rfl (zG (v := .int .u64 p1) rfl) ?_
 refine zA rfl rfl (zF (v := .int .u64 p1) rfl) ?_
 refine (zI (zB (hK46 _ _ ?_)))
 obtain ⟨g84, hF, hK86⟩ := zJ hF
 refine yL [8, 9, 35, 36, 37, 38, 39, 40, 41] (fun (g : Unit) => [(8, .int .u64 g84)]) (fun g wl => Hd O w wl S [.blk b2 [.bool p0.neg, .int .u64 p0.high, .int .u64 p0.low] 53, .blk b5 [.int .i64 0, .int .i64 0] 28]) ?_ ?_
 ·skip
  refine zD fun K87 hK87 => ?_
  refine zC ?_
  refine zA rfl rfl (zG (v := .int .u64 x43) rfl) ?_
  refine zA rfl rfl (zF (v := .int .u64 x43) rfl) ?_
  refine (zI (zB (hK87 _ _ ?_)))
  refine yK ?_
  unfold F_ref9_ratio_L1 at hF
  obtain ⟨B120, n121, eB122, hF⟩ := yT hF
  refine xC [8, 9, 36, 37, 38, 39, 40, 41] (fun (g : Nat × Int × Int) => [(8, .int .u64 g.2.1), (9, .int .u64 g.2.2)]) (fun g wl => Hd O w wl S [.blk b2 [.bool p0.neg, .int .u64 p0.high, .int .u64 p0.low] 53, .blk b5 [.int .i64 0, .int .i64 0] 28] ∧ loopN B120 g.1 (g.2.1, g.2.2) = some g84) (fun g => g.1) (n121, p1, x43) (zK rfl (zK rfl zQ)) ⟨H.pick [0, 1] (by decide), hF⟩ ?_
  clear H hF
  rintro ⟨n121, g118, g119⟩ ρ w124 ⟨H, hF⟩
  obtain ⟨n125, rfl, hF⟩ := yX hF
  have hF := yY eB122 hF
  refine zD fun K130 hK130 => ?_
  refine zD fun K131 hK131 => ?_
  refine zC ?_
  refine zA rfl rfl (zG (v := .int .u64 g119) rfl) ?_
  obtain ⟨x132, e133, hF⟩ := zH hF
  refine zA rfl rfl (zT (Do_neq (a := g119) (b := 0) rfl rfl) (congrArg Value.bool e133)) ?_
  refine (zI (zB (hK131 _ _ ?_)))
  refine yF (b := x132) rfl (fun c134 => ?_) (fun c134 => ?_)
  ·have hF := zW c134 hF
   refine (yA (zB (hK130 _ _ ?_)))
   refine yK ?_
   have H135 := H
   have H := H.rebase
   have H136 := H
   refine WP_mix0 H [0, 1, 2, 3, 4, 5] [.pure, .pure, .pure, .pure, .pure, .pure] mixed (by kernel_rfl) (by kernel_rfl) (by kernel_rfl) rfl ?_
   refine Mx.zS rfl rfl rfl (fun w' hw' => zG (v := .int .u64 g119) rfl) ?_
   refine Mx.zS rfl rfl rfl (fun w' hw' => zG (v := .int .u64 g118) rfl) ?_
   refine Mx.zS rfl rfl rfl (fun w' hw' => zG (v := .int .u64 g119) rfl) ?_
   obtain ⟨x137, e138, hF⟩ := zJ hF
   refine Mx.zS rfl rfl rfl (fun w' hw' => Do_rem' (j := g118) (q := g119) rfl rfl e138) ?_
   refine Mx.zS rfl rfl rfl (fun w' hw' => zF (v := .int .u64 g119) rfl) ?_
   refine Mx.zS rfl rfl rfl (fun w' hw' => zF (v := .int .u64 x137) rfl) ?_
   refine Mx.wG fun w139 hS => ?_
   have H := H.sees hS
   have H := H135.rejoin H
   refine (yU (zB (And.intro ?_ ?_)))
   ·repeat' (first | with_reducible exact zN | refine zV rfl ?_ | refine zO rfl rfl ?_)
   exact ⟨(n125, g119, x137), (zK rfl (zK rfl zQ)), ⟨H.pick [0, 1] (by decide), hF⟩, Nat.lt_succ_self _⟩
  have hF := zX c134 hF
  have hR := Option.some.inj hF
  subst hR
  refine (xB (yN (yN (yR (zB (And.intro ?_ ?_))))))
  ·repeat' (first | with_reducible exact zN | refine zV rfl ?_ | refine zO rfl rfl ?_)
  exact ⟨(), (zK rfl zQ), H.pick [0, 1] (by decide)⟩
 rintro _ ρ w85 H
 have hF := hK86
 refine zD fun K140 hK140 => ?_
 refine zC ?_
 refine zA rfl rfl (fa53_1 rfl) ?_
 refine zA rfl rfl (zU one51 rfl (Cells.get (Blk.cells (H.item (i := 0) rfl)) (i := 1) rfl)) ?_
 refine zA rfl rfl (zG (v := .int .u64 g84) rfl) ?_
 obtain ⟨x141, e142, hF⟩ := zJ hF
 refine zA rfl rfl (Do_quo' (j := p0.high) (q := g84) rfl rfl e142) ?_
 refine zA rfl rfl (zF (v := .int .u64 x141) rfl) ?_
 refine (zI (zB (hK140 _ _ ?_)))
 refine zD fun K143 hK143 => ?_
 have H144 := H
 have H := H.rebase
 have H145 := H
 refine WP_mix0 H [0, 1, 2, 3, 4, 5, 6, 7, 8, 9, 10, 11, 12] [.pure, .read, .pure, .pure, .pure, .read, .pure, .fcall, .pure, .pure, .pure, .pure, .pure] mixed (by kernel_rfl) (by kernel_rfl) (by kernel_rfl) rfl ?_
 refine Mx.zS rfl rfl rfl (fun w' hw' => fa53_1 rfl) ?_
 refine Mx.xM oS rfl rfl rfl (fun w' hw' => zU one51 rfl (Cells.get (Blk.cells ((H.sees hw').item (i := 0) rfl)) (i := 1) rfl)) ?_
 refine Mx.zS rfl rfl rfl (fun w' hw' => zG (v := .int .u64 g84) rfl) ?_
 obtain ⟨x146, e147, hF⟩ := zJ hF
 refine Mx.zS rfl rfl rfl (fun w' hw' => Do_rem' (j := p0.high) (q := g84) rfl rfl e147) ?_
 refine Mx.zS rfl rfl rfl (fun w' hw' => fa53_2 rfl) ?_
 refine Mx.xM oS rfl rfl rfl (fun w' hw' => zU one51 rfl (Cells.get (Blk.cells ((H.sees hw').item (i := 0) rfl)) (i := 2) rfl)) ?_
 refine Mx.zS rfl rfl rfl (fun w' hw' => zG (v := .int .u64 g84) rfl) ?_
 have H148 := H
 obtain ⟨⟨x149, x150⟩, e151, hF⟩ := zJ hF
 refine Mx.XL_fcall oS rfl rfl rfl (v := .tuple #[.int .u64 x149, .int .u64 x150]) (fun w' hw' => yC en64 rfl) (fun w' hw' => by have q := call_read (F_math_bits_Div64_w x146 p0.low g84 _ e151 _ _ _ (Hd.fresh0 w')); exact q) ?_
 have H := H148
 refine Mx.zS rfl rfl rfl (fun w' hw' => zG (v := .tuple #[.int .u64 x149, .int .u64 x150]) rfl) ?_
 refine Mx.zS rfl rfl rfl (fun w' hw' => yQ (v := .int .u64 x149) rfl rfl) ?_
 refine Mx.zS rfl rfl rfl (fun w' hw' => yQ (v := .int .u64 x150) rfl rfl) ?_
 refine Mx.zS rfl rfl rfl (fun w' hw' => zF (v := .int .u64 x149) rfl) ?_
 refine Mx.zS rfl rfl rfl (fun w' hw' => zF (v := .int .u64 x150) rfl) ?_
 refine Mx.wG fun w152 hS => ?_
 have H := H.sees hS
 have H := H144.rejoin H
 refine (zB (hK143 _ _ ?_))
 refine zD fun K153 hK153 => ?_
 refine zC ?_
 refine zA rfl rfl (zG (v := .int .u64 p1) rfl) ?_
 refine zA rfl rfl (zG (v := .int .u64 g84) rfl) ?_
 obtain ⟨x154, e155, hF⟩ := zJ hF
 refine zA rfl rfl (Do_quo' (j := p1) (q := g84) rfl rfl e155) ?_
 refine zA rfl rfl (zF (v := .int .u64 x154) rfl) ?_
 refine (zI (zB (hK153 _ _ ?_)))
 refine zD fun K170 hK170 => ?_
 obtain ⟨g179, hF, hK181⟩ := zJ hF
 refine yL [60, 61, 62, 63, 64, 65, 66, 67, 68, 69] (fun (g : Unit) => [(69, .bool g179)]) (fun g wl => Hd O w wl S [.blk b2 [.bool p0.neg, .int .u64 p0.high, .int .u64 p0.low] 53, .blk b5 [.int .i64 0, .int .i64 0] 28]) ?_ ?_
 ·skip
  refine zC ?_
  refine zA rfl rfl (zG (v := .int .u64 x141) rfl) ?_
  obtain ⟨x182, e183, hF⟩ := zH hF
  refine zA rfl rfl (zT (Do_neq (a := x141) (b := 0) rfl rfl) (congrArg Value.bool e183)) ?_
  refine yO (b := x182) rfl rfl rfl (fun c184 => ?_) (fun c184 => ?_)
  ·have hF := zW c184 hF
   refine zM rfl rfl ?_
   refine zM rfl rfl ?_
   refine zA rfl rfl (yI (v := .bool true) rfl rfl) ?_
   refine zA rfl rfl (zG (v := .bool true) rfl) ?_
   refine zM rfl rfl ?_
   refine zM rfl rfl ?_
   refine zA rfl rfl (yI (v := .bool true) rfl rfl) ?_
   have hR := Option.some.inj hF
   subst hR
   refine (zI (zB (And.intro ?_ ?_)))
   ·repeat' (first | with_reducible exact zN | refine zV rfl ?_ | refine zO rfl rfl ?_)
   exact ⟨(), (zK rfl zQ), H.pick [0, 1] (by decide)⟩
  have hF := zX c184 hF
  refine zA rfl rfl (zG (v := .int .u64 x149) rfl) ?_
  obtain ⟨x185, e186, hF⟩ := zH hF
  refine zA rfl rfl (zT (wF (a := x149) (b := 4611686018427387904) rfl rfl) (congrArg Value.bool e186)) ?_
  refine zA rfl rfl (yH (v := .bool x185) rfl rfl) ?_
  refine yO (b := x185) rfl rfl rfl (fun c187 => ?_) (fun c187 => ?_)
  ·have hF := zW c187 hF
   refine zM rfl rfl ?_
   refine zM rfl rfl ?_
   refine zA rfl rfl (yI (v := .bool true) rfl rfl) ?_
   have hR := Option.some.inj hF
   subst hR
   refine (zI (zB (And.intro ?_ ?_)))
   ·repeat' (first | with_reducible exact zN | refine zV rfl ?_ | refine zO rfl rfl ?_)
   exact ⟨(), (zK rfl zQ), H.pick [0, 1] (by decide)⟩
  have hF := zX c187 hF
  refine zA rfl rfl (zG (v := .int .u64 x154) rfl) ?_
  obtain ⟨x188, e189, hF⟩ := zH hF
  refine zA rfl rfl (zT (wF (a := x154) (b := 4611686018427387904) rfl rfl) (congrArg Value.bool e189)) ?_
  refine zA rfl rfl (yH (v := .bool x188) rfl rfl) ?_
  have hR := Option.some.inj hF
  subst hR
  refine (zI (zB (And.intro ?_ ?_)))
  ·repeat' (first | with_reducible exact zN | refine zV rfl ?_ | refine zO rfl rfl ?_)
  exact ⟨(), (zK rfl zQ), H.pick [0, 1] (by decide)⟩
 rintro _ ρ w180 H
 have hF := hK181
 refine yF (b := g179) rfl (fun c190 => ?_) (fun c190 => ?_)
 ·have hF := zW c190 hF
  refine zD fun K191 hK191 => ?_
  refine zC ?_
  refine zA rfl rfl (Do_build (cs := [.int .i64 0, .int .i64 0]) bz28) ?_
  refine xO rfl (xA (vs := [.int .i64 0, .int .i64 0]) H 1 rfl sz28 rfl rfl rfl ⟨rfl, rfl, trivial⟩ rfl) ?_
  rintro w192 H
  refine zA rfl rfl (zF (v := .bool false) rfl) ?_
  refine (zI (zB (hK191 _ _ ?_)))
  have hR := Option.some.inj hF
  subst hR
  refine (yG (zZ (postc1 (v1 := .bool false) rfl rfl (xH agg28 sz28 rfl (Blk.cells (H.item (i := 1) rfl))) rfl ?_)))
  exact ⟨rfl, H.pick [] (by decide)⟩
 have hF := zX c190 hF
 refine (yA (zB (hK170 _ _ ?_)))
 refine zD fun K193 hK193 => ?_
 refine zC ?_
 refine zA rfl rfl (zG (v := .int .u64 x149) rfl) ?_
 obtain ⟨x194, e195, hF⟩ := zH hF
 refine zA rfl rfl (Do_conv u51 u3 rfl e195) ?_
 refine zA rfl rfl (zF (v := .int .i64 x194) rfl) ?_
 refine (zI (zB (hK193 _ _ ?_)))
 obtain ⟨g200, hF, hK202⟩ := zJ hF
 refine yL [13, 73, 74, 75, 76] (fun (g : Unit) => [(13, .int .i64 g200)]) (fun g wl => Hd O w wl S [.blk b5 [.int .i64 0, .int .i64 0] 28]) ?_ ?_
 ·skip
  refine zD fun K203 hK203 => ?_
  refine zC ?_
  refine zA rfl rfl (fa53_0 rfl) ?_
  refine zA rfl rfl (zU one4 rfl (Cells.get (Blk.cells (H.item (i := 0) rfl)) (i := 0) rfl)) ?_
  refine (zI (zB (hK203 _ _ ?_)))
  refine yF (b := p0.neg) rfl (fun c204 => ?_) (fun c204 => ?_)
  ·have hF := zW c204 hF
   refine zC ?_
   refine zA rfl rfl (zG (v := .int .i64 x194) rfl) ?_
   obtain ⟨x205, e206, hF⟩ := zH hF
   refine zA rfl rfl (Do_neg (a := x194) rfl e206) ?_
   refine zA rfl rfl (zF (v := .int .i64 x205) rfl) ?_
   have hR := Option.some.inj hF
   subst hR
   refine (zI (zB (And.intro ?_ ?_)))
   ·repeat' (first | with_reducible exact zN | refine zV rfl ?_ | refine zO rfl rfl ?_)
   exact ⟨(), (zK rfl zQ), H.pick [1] (by decide)⟩
  have hF := zX c204 hF
  have hR := Option.some.inj hF
  subst hR
  refine (yA (zB (And.intro ?_ ?_)))
  ·repeat' (first | with_reducible exact zN | refine zV rfl ?_ | refine zO rfl rfl ?_)
  exact ⟨(), (zK rfl zQ), H.pick [1] (by decide)⟩
 rintro _ ρ w201 H
 have hF := hK202
 refine zD fun K207 hK207 => ?_
 refine zC ?_
 refine zA rfl rfl (zG (v := .int .i64 g200) rfl) ?_
 refine zA rfl rfl (zG (v := .int .u64 x154) rfl) ?_
 obtain ⟨x208, e209, hF⟩ := zH hF
 refine zA rfl rfl (Do_conv u51 u3 rfl e209) ?_
 refine zA rfl rfl (Do_build (cs := [.int .i64 g200, .int .i64 x208]) (bt28_0_1 _ _)) ?_
 refine xO rfl (xA (vs := [.int .i64 g200, .int .i64 x208]) H 0 rfl sz28 rfl rfl rfl ⟨rfl, rfl, trivial⟩ rfl) ?_
 rintro w210 H
 refine zA rfl rfl (zF (v := .bool true) rfl) ?_
 refine (zI (zB (hK207 _ _ ?_)))
 have hR := Option.some.inj hF
 subst hR
 refine (yG (postc1 (v1 := .bool true) rfl rfl (xH agg28 sz28 rfl (Blk.cells (H.item (i := 0) rfl))) rfl ?_))
 exact ⟨rfl, H.pick [] (by decide)⟩
end Go.Proofs.YtbjhondbheijiaaGreatDoor.L
