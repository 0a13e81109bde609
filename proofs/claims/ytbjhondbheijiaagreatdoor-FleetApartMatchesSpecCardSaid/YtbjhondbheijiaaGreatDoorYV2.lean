/- Walks: what each function computes, for every argument; no condition but those that stand in the statements. -/
import Derived.Test.YtbjhondbheijiaaGreatDoorYV0
import Derived.Test.YtbjhondbheijiaaGreatDoorYV1
namespace Go.Proofs.YtbjhondbheijiaaGreatDoor.L
open Go.RowKit Go.OB Go.Lf
/- orangebox/fleet.CheckMask -/
set_option maxHeartbeats 4000000 in
theorem F_fleet_CheckMask_w (p0 : Mask) (v1 : Value) (v2 : Value) (r : Int) (hF : F_fleet_CheckMask p0 = some r) (O S : List Nat) (w : World) (H : Hd O w w S [.fz (.sl Rp.str v1 p0.Hide), .fz (.sl rGrain v2 p0.Grains)]) :
  Calls Tryz.prog 27 ([.agg [.bool p0.Tails, .int .i64 p0.Days, v1, v2, .int .i64 p0.Least].toArray] : List Value).toArray w fun e w' => e = .returned (.int .i64 r) ∧ Hd O w w' S [] := by
 unfold F_fleet_CheckMask at hF
 refine yB 50 Tryz.func27 rfl rfl rfl ?_
 refine zD fun K5 hK5 => ?_
 refine zC ?_
 refine xE rfl rfl (Lx_box (cs := [.bool p0.Tails, .int .i64 p0.Days, v1, v2, .int .i64 p0.Least]) rfl H) ?_
 rintro _ w8 ⟨b6, rfl, H⟩
 refine zA rfl rfl (zF (v := .int .i64 0) rfl) ?_
 refine (zI (zB (hK5 _ _ ?_)))
 refine zD fun K19 hK19 => ?_
 refine zD fun K20 hK20 => ?_
 refine zC ?_
 refine zA rfl rfl (fa26_1 rfl) ?_
 refine zA rfl rfl (zU one3 rfl (Cells.get (Blk.cells (H.item (i := 2) rfl)) (i := 1) rfl)) ?_
 have H21 := H
 obtain ⟨x22, e23, hF⟩ := zJ hF
 refine yJ rfl rfl (yC en21 rfl) (F_fleet_within_w p0.Days 1 1000000 _ e23 _ _ _ (H.enter [] [] (by decide) rfl)) ?_
 rintro _ w24 ⟨rfl, G25⟩
 have H := H21.step (G25.only : Only [] _ _)
 refine ⟨_, rfl, ?_⟩
 obtain ⟨x26, e27, hF⟩ := zH hF
 refine zA rfl rfl (zT (xY (p := x22) rfl) (congrArg Value.bool e27)) ?_
 refine (zI (zB (hK20 _ _ ?_)))
 refine yF (b := x26) rfl (fun c28 => ?_) (fun c28 => ?_)
 ·have hF := zW c28 hF
  refine zD fun K29 hK29 => ?_
  refine zC ?_
  refine zA rfl rfl (zF (v := .int .i64 9) rfl) ?_
  refine (zI (zB (hK29 _ _ ?_)))
  have hR := Option.some.inj hF
  subst hR
  refine (yG (zZ (post1 (v1 := .int .i64 9) rfl rfl ?_)))
  exact ⟨rfl, H.pick [] (by decide)⟩
 have hF := zX c28 hF
 refine (yA (zB (hK19 _ _ ?_)))
 refine zD fun K41 hK41 => ?_
 refine zD fun K42 hK42 => ?_
 refine zC ?_
 refine zA rfl rfl (fa26_2 rfl) ?_
 refine zA rfl rfl (zU one23 rfl (Cells.get (Blk.cells (H.item (i := 2) rfl)) (i := 2) rfl)) ?_
 have H43 := H
 obtain ⟨x44, e45, hF⟩ := zJ hF
 refine yJ rfl rfl (yC en52 rfl) (F_fleet_checkNames_w p0.Hide v1 _ e45 _ _ _ (H.enter [] [0] (by decide) rfl)) ?_
 rintro _ w46 ⟨rfl, G47⟩
 have H := H43.step (G47.only : Only [] _ _)
 refine ⟨_, rfl, ?_⟩
 refine zA rfl rfl (zF (v := .int .i64 x44) rfl) ?_
 refine (zI (zB (hK42 _ _ ?_)))
 refine zD fun K48 hK48 => ?_
 refine zC ?_
 refine zA rfl rfl (zG (v := .int .i64 x44) rfl) ?_
 obtain ⟨x49, e50, hF⟩ := zH hF
 refine zA rfl rfl (zT (Do_neq (a := x44) (b := 0) rfl rfl) (congrArg Value.bool e50)) ?_
 refine (zI (zB (hK48 _ _ ?_)))
 refine yF (b := x49) rfl (fun c51 => ?_) (fun c51 => ?_)
 ·have hF := zW c51 hF
  refine zD fun K52 hK52 => ?_
  refine zC ?_
  refine zA rfl rfl (zG (v := .int .i64 x44) rfl) ?_
  refine zA rfl rfl (zF (v := .int .i64 x44) rfl) ?_
  refine (zI (zB (hK52 _ _ ?_)))
  have hR := Option.some.inj hF
  subst hR
  refine (yG (zZ (post1 (v1 := .int .i64 x44) rfl rfl ?_)))
  exact ⟨rfl, H.pick [] (by decide)⟩
 have hF := zX c51 hF
 refine (yA (zB (hK41 _ _ ?_)))
 refine zD fun K63 hK63 => ?_
 refine zD fun K64 hK64 => ?_
 refine zC ?_
 refine zA rfl rfl (fa26_3 rfl) ?_
 refine zA rfl rfl (zU one24 rfl (Cells.get (Blk.cells (H.item (i := 2) rfl)) (i := 3) rfl)) ?_
 obtain ⟨x65, e66, hF⟩ := zH hF
 obtain ⟨a67, c68, q69⟩ := SlF.len ((H.item (i := 1) rfl))
 refine zA rfl rfl (zT (xI u24 q69) (congrArg (Value.int .i64) e66)) ?_
 obtain ⟨x70, e71, hF⟩ := zH hF
 refine zA rfl rfl (zT (wF (a := x65) (b := 30) rfl rfl) (congrArg Value.bool e71)) ?_
 refine (zI (zB (hK64 _ _ ?_)))
 refine yF (b := x70) rfl (fun c72 => ?_) (fun c72 => ?_)
 ·have hF := zW c72 hF
  refine zD fun K73 hK73 => ?_
  refine zC ?_
  refine zA rfl rfl (zF (v := .int .i64 3) rfl) ?_
  refine (zI (zB (hK73 _ _ ?_)))
  have hR := Option.some.inj hF
  subst hR
  refine (yG (zZ (post1 (v1 := .int .i64 3) rfl rfl ?_)))
  exact ⟨rfl, H.pick [] (by decide)⟩
 have hF := zX c72 hF
 refine (yA (zB (hK63 _ _ ?_)))
 obtain ⟨k302, ek303, hF⟩ := xU hF
 refine yL [2, 4, 5, 20, 21, 22, 23, 24, 25, 26, 27, 28, 29, 30, 31, 32, 33, 34, 35, 36, 37, 38, 39, 40, 41, 42, 43, 44, 45] (fun (g : Unit) => []) (fun g wl => Hd O w wl S [.blk b6 [.bool p0.Tails, .int .i64 p0.Days, v1, v2, .int .i64 p0.Least] 26, .fz (.sl Rp.str v1 p0.Hide), .fz (.sl rGrain v2 p0.Grains)] ∧ k302 () = some r) ?_ ?_
 ·skip
  refine zD fun K304 hK304 => ?_
  refine zC ?_
  refine zA rfl rfl (fa26_3 rfl) ?_
  refine zA rfl rfl (zU one24 rfl (Cells.get (Blk.cells (H.item (i := 2) rfl)) (i := 3) rfl)) ?_
  obtain ⟨x305, e306, hF⟩ := zH hF
  obtain ⟨a307, c308, q309⟩ := SlF.len ((H.item (i := 1) rfl))
  refine zA rfl rfl (zT (xI u24 q309) (congrArg (Value.int .i64) e306)) ?_
  refine zA rfl rfl (zG (v := .int .i64 0) rfl) ?_
  refine (zI (zB (hK304 _ _ ?_)))
  refine yK ?_
  unfold F_fleet_CheckMask_L1 at hF
  obtain ⟨B526, n527, eB528, hF⟩ := yT hF
  refine xC [2, 4, 5, 23, 24, 25, 26, 27, 28, 29, 30, 31, 32, 33, 34, 35, 36, 37, 38, 39, 40, 41, 42, 43, 44, 45] (fun (g : Nat × Int) => [(23, .int .i64 g.2)]) (fun g wl => Hd O w wl S [.fz (.sl rGrain v2 p0.Grains), .blk b6 [.bool p0.Tails, .int .i64 p0.Days, v1, v2, .int .i64 p0.Least] 26, .fz (.sl Rp.str v1 p0.Hide)] ∧ loopN B526 g.1 g.2 = some r) (fun g => g.1) (n527, 0) (zK rfl zQ) ⟨H.pick [1, 2, 0] (by decide), hF⟩ ?_
  clear H hF
  rintro ⟨n527, g525⟩ ρ w530 ⟨H, hF⟩
  obtain ⟨n531, rfl, hF⟩ := yX hF
  have hF := yY eB528 hF
  refine zD fun K532 hK532 => ?_
  refine zC ?_
  obtain ⟨x533, e534, hF⟩ := zH hF
  refine zA rfl rfl (zT (xK (a := g525) (b := x305) rfl rfl) (congrArg Value.bool e534)) ?_
  refine (zI (zB (hK532 _ _ ?_)))
  refine zD fun K536 hK536 => ?_
  refine yF (b := x533) rfl (fun c537 => ?_) (fun c537 => ?_)
  ·have hF := zW c537 hF
   refine (yA (zB (hK536 _ _ ?_)))
   refine zD fun K587 hK587 => ?_
   refine yK ?_
   refine zD fun K588 hK588 => ?_
   refine zC ?_
   refine zA rfl rfl (zG (v := .int .i64 g525) rfl) ?_
   obtain ⟨x589, e590, hF⟩ := zJ hF
   obtain ⟨b591, o592, c593, cs594, q595, h598, h596, h597, h599⟩ := wB (H.item (i := 0) rfl) e590
   obtain rfl := rGrain_open h598
   have H := H.fz (.at b591 (o592 + g525.toNat * 2) _) ⟨h596, h597, h599⟩
   refine zA rfl rfl (xG u24 sz103 q595 rfl (yD e590).1 (yD e590).2.1 rfl rfl) ?_
   refine zA rfl rfl (zT (yV (cs := [.string (bs x589.Track), .int .i64 x589.N]) agg103 rfl sz103 rfl (H.item (i := 3) rfl).2.2) rfl) ?_
   refine xE rfl rfl (xR zero103 H) ?_
   rintro _ w603 ⟨b601, rfl, H⟩
   refine zA rfl rfl (zF (v := .int .i64 g525) rfl) ?_
   refine xO rfl (xA (vs := [.string (bs x589.Track), .int .i64 x589.N]) H 4 rfl sz103 rfl rfl rfl ⟨rfl, rfl, trivial⟩ rfl) ?_
   rintro w604 H
   refine (zI (zB (hK588 _ _ ?_)))
   refine yK ?_
   refine zD fun K605 hK605 => ?_
   refine zC ?_
   refine zA rfl rfl (fa103_0 rfl) ?_
   refine zA rfl rfl (zU one9 rfl (Cells.get (Blk.cells (H.item (i := 4) rfl)) (i := 0) rfl)) ?_
   have H606 := H
   obtain ⟨x607, e608, hF⟩ := zJ hF
   refine yJ rfl rfl (yC en28 rfl) (F_event_IsName_w x589.Track _ e608 _ _ _ (H.enter [] [] (by decide) rfl)) ?_
   rintro _ w609 ⟨rfl, G610⟩
   have H := H606.step (G610.only : Only [] _ _)
   refine ⟨_, rfl, ?_⟩
   obtain ⟨x611, e612, hF⟩ := zH hF
   refine zA rfl rfl (zT (xY (p := x607) rfl) (congrArg Value.bool e612)) ?_
   refine zA rfl rfl (zF (v := .bool x611) rfl) ?_
   refine (zI (zB (hK605 _ _ ?_)))
   refine yF (b := x611) rfl (fun c613 => ?_) (fun c613 => ?_)
   ·have hF := zW c613 hF
    refine zD fun K614 hK614 => ?_
    refine zC ?_
    refine zA rfl rfl (zF (v := .int .i64 8) rfl) ?_
    refine (zI (zB (hK614 _ _ ?_)))
    have hR := Option.some.inj hF
    subst hR
    refine (yG (yM (yM (zZ (zZ (yM (zZ (post1 (v1 := .int .i64 8) rfl rfl ?_))))))))
    exact ⟨rfl, H.pick [] (by decide)⟩
   have hF := zX c613 hF
   refine zD fun K615 hK615 => ?_
   refine zC ?_
   refine zA rfl rfl (fa26_3 rfl) ?_
   refine zA rfl rfl (zU one24 rfl (Cells.get (Blk.cells (H.item (i := 1) rfl)) (i := 3) rfl)) ?_
   refine zA rfl rfl (zG (v := .int .i64 g525) rfl) ?_
   obtain ⟨x616, e617, hF⟩ := zJ hF
   refine RL_exP rfl rfl (Lx_slice_h u24 sz103 (H.item (i := 0) rfl) rfl rfl e617) ?_
   rintro v618 h619
   have H := H.fz (.sl rGrain v618 x616) h619
   refine zA rfl rfl (Do_makeFunc rfl) ?_
   obtain ⟨x621, e622, hF⟩ := zJ hF
   refine yJ rfl rfl (yC en53 rfl) (F_slices_ContainsFunc___api_Grain_api_Grain__fleet_CheckMask_1_w x616 x589 v618 b601 _ e622 _ _ _ (H.enter [4] [5] (by decide) rfl)) ?_
   rintro _ w623 ⟨rfl, G624⟩
   have H : Hd O _ w623 _ [.fz (.sl rGrain v2 p0.Grains), .blk b6 [.bool p0.Tails, .int .i64 p0.Days, v1, v2, .int .i64 p0.Least] 26, .fz (.sl Rp.str v1 p0.Hide), .fz (.at b591 (o592 + g525.toNat * 2) [.string (bs x589.Track), .int .i64 x589.N]), .fz (.sl rGrain v618 x616), .blk b601 [.string (bs x589.Track), .int .i64 x589.N] 103] := H.back [4] [5] rfl G624
   refine ⟨_, rfl, ?_⟩
   refine zA rfl rfl (zF (v := .bool x621) rfl) ?_
   refine (zI (zB (hK615 _ _ ?_)))
   refine yF (b := x621) rfl (fun c625 => ?_) (fun c625 => ?_)
   ·have hF := zW c625 hF
    refine zD fun K626 hK626 => ?_
    refine zC ?_
    refine zA rfl rfl (zF (v := .int .i64 5) rfl) ?_
    refine (zI (zB (hK626 _ _ ?_)))
    have hR := Option.some.inj hF
    subst hR
    refine (yG (yM (yM (zZ (zZ (yM (zZ (post1 (v1 := .int .i64 5) rfl rfl ?_))))))))
    exact ⟨rfl, H.pick [] (by decide)⟩
   have hF := zX c625 hF
   refine zD fun K627 hK627 => ?_
   refine zC ?_
   refine zA rfl rfl (fa103_1 rfl) ?_
   refine zA rfl rfl (zU one3 rfl (Cells.get (Blk.cells (H.item (i := 5) rfl)) (i := 1) rfl)) ?_
   have H628 := H
   obtain ⟨x629, e630, hF⟩ := zJ hF
   refine yJ rfl rfl (yC en21 rfl) (F_fleet_within_w x589.N 1 1125899906842624 _ e630 _ _ _ (H.enter [] [] (by decide) rfl)) ?_
   rintro _ w631 ⟨rfl, G632⟩
   have H := H628.step (G632.only : Only [] _ _)
   refine ⟨_, rfl, ?_⟩
   obtain ⟨x633, e634, hF⟩ := zH hF
   refine zA rfl rfl (zT (xY (p := x629) rfl) (congrArg Value.bool e634)) ?_
   refine zA rfl rfl (zF (v := .bool x633) rfl) ?_
   refine (zI (zB (hK627 _ _ ?_)))
   refine yF (b := x633) rfl (fun c635 => ?_) (fun c635 => ?_)
   ·have hF := zW c635 hF
    refine zD fun K636 hK636 => ?_
    refine zC ?_
    refine zA rfl rfl (zF (v := .int .i64 9) rfl) ?_
    refine (zI (zB (hK636 _ _ ?_)))
    have hR := Option.some.inj hF
    subst hR
    refine (yG (yM (yM (zZ (zZ (yM (zZ (post1 (v1 := .int .i64 9) rfl rfl ?_))))))))
    exact ⟨rfl, H.pick [] (by decide)⟩
   have hF := zX c635 hF
   refine (yA (yU (yU (zB (hK587 _ _ ?_)))))
   refine zC ?_
   obtain ⟨x637, e638, hF⟩ := zH hF
   refine zA rfl rfl (xJ (a := g525) (b := 1) rfl rfl e638) ?_
   refine zA rfl rfl (zG (v := .int .i64 x637) rfl) ?_
   refine (zI (zB (And.intro ?_ ?_)))
   ·repeat' (first | with_reducible exact zN | refine zV rfl ?_ | refine zO rfl rfl ?_)
   exact ⟨(n531, x637), (zK rfl zQ), ⟨H.pick [0, 1, 2] (by decide), hF⟩, Nat.lt_succ_self _⟩
  have hF := zX c537 hF
  refine (xB (yN (yN (yR (zB (And.intro ?_ ?_))))))
  ·repeat' (first | with_reducible exact zN | refine zV rfl ?_ | refine zO rfl rfl ?_)
  exact ⟨(), zQ, ⟨H.pick [1, 2, 0] (by decide), hF⟩⟩
 rintro _ ρ w301 ⟨H, hF⟩
 have hF := xZ ek303 hF
 refine zD fun K649 hK649 => ?_
 refine zD fun K650 hK650 => ?_
 refine zC ?_
 refine zA rfl rfl (fa26_4 rfl) ?_
 refine zA rfl rfl (zU one3 rfl (Cells.get (Blk.cells (H.item (i := 0) rfl)) (i := 4) rfl)) ?_
 have H651 := H
 obtain ⟨x652, e653, hF⟩ := zJ hF
 refine yJ rfl rfl (yC en21 rfl) (F_fleet_within_w p0.Least 1 1000 _ e653 _ _ _ (H.enter [] [] (by decide) rfl)) ?_
 rintro _ w654 ⟨rfl, G655⟩
 have H := H651.step (G655.only : Only [] _ _)
 refine ⟨_, rfl, ?_⟩
 obtain ⟨x656, e657, hF⟩ := zH hF
 refine zA rfl rfl (zT (xY (p := x652) rfl) (congrArg Value.bool e657)) ?_
 refine (zI (zB (hK650 _ _ ?_)))
 refine yF (b := x656) rfl (fun c658 => ?_) (fun c658 => ?_)
 ·have hF := zW c658 hF
  refine zD fun K659 hK659 => ?_
  refine zC ?_
  refine zA rfl rfl (zF (v := .int .i64 9) rfl) ?_
  refine (zI (zB (hK659 _ _ ?_)))
  have hR := Option.some.inj hF
  subst hR
  refine (yG (zZ (post1 (v1 := .int .i64 9) rfl rfl ?_)))
  exact ⟨rfl, H.pick [] (by decide)⟩
 have hF := zX c658 hF
 refine (yA (zB (hK649 _ _ ?_)))
 refine zD fun K660 hK660 => ?_
 refine zC ?_
 refine zA rfl rfl (zF (v := .int .i64 0) rfl) ?_
 refine (zI (zB (hK660 _ _ ?_)))
 have hR := Option.some.inj hF
 subst hR
 refine (yG (post1 (v1 := .int .i64 0) rfl rfl ?_))
 exact ⟨rfl, H.pick [] (by decide)⟩
end Go.Proofs.YtbjhondbheijiaaGreatDoor.L
namespace Go.Proofs.YtbjhondbheijiaaGreatDoor.L
open Go.RowKit Go.OB Go.Lf
/- slices.Clone[[]orangebox/api.Sample,orangebox/api.Sample] -/
set_option maxHeartbeats 4000000 in
theorem F_slices_Clone___api_Sample_api_Sample__w (p0 : List Sample) (v1 : Value) (r : (List Sample)) (hF : F_slices_Clone___api_Sample_api_Sample_ p0 = some r) (O S : List Nat) (w : World) (H : Hd O w w S [.fz (.sl rSample v1 p0)]) :
  Calls Tryz.prog 57 ([v1] : List Value).toArray w fun e w' => ∃ u3, e = .returned (u3) ∧ Hd O w w' S [.own rSample u3 109 r] := by
 unfold F_slices_Clone___api_Sample_api_Sample_ at hF
 refine yB 8 Tryz.func57 rfl rfl rfl ?_
 refine zD fun K4 hK4 => ?_
 refine zC ?_
 refine zA rfl rfl (zF (v := .slice none 0 0) rfl) ?_
 refine (zI (zB (hK4 _ _ ?_)))
 refine zD fun K13 hK13 => ?_
 refine zD fun K14 hK14 => ?_
 refine zC ?_
 refine zA rfl rfl (zG (v := v1) rfl) ?_
 obtain ⟨a15, c16, q17, e190⟩ := slf_nilq (H.item (i := 0) rfl)
 obtain ⟨x18, e19, hF⟩ := nilO_some hF e190
 refine zA rfl rfl (zT (Do_eqlnils u74 q17 rfl) (congrArg Value.bool e19)) ?_
 refine (zI (zB (hK14 _ _ ?_)))
 refine yF (b := x18) rfl (fun c20 => ?_) (fun c20 => ?_)
 ·have hF := zW c20 hF
  refine zD fun K21 hK21 => ?_
  refine zC ?_
  refine zA rfl rfl (zF (v := .slice none 0 0) rfl) ?_
  refine (zI (zB (hK21 _ _ ?_)))
  have H := own_nil H rSample 109
  have hR := Option.some.inj hF
  subst hR
  refine (yG (zZ (post1 (v1 := .slice none 0 0) rfl rfl ?_)))
  exact ⟨.slice none 0 0, rfl, H.pick [1] (by decide)⟩
 have hF := zX c20 hF
 refine (yA (zB (hK13 _ _ ?_)))
 refine zD fun K23 hK23 => ?_
 refine zC ?_
 refine xE rfl rfl (Lx_bs0 (r := rSample) u74 el109 H) ?_
 rintro v25 w26 H
 refine zA rfl rfl (zG (v := v1) rfl) ?_
 obtain ⟨x27, e28, hF⟩ := zJ hF
 refine xE rfl rfl (Lx_app H (i := 1) rfl u74 el109 rfl rfl (Sr.of_rd (H.item (i := 0) rfl)) e28) ?_
 rintro v29 w30 H
 refine zA rfl rfl (zF (v := v29) rfl) ?_
 refine (zI (zB (hK23 _ _ ?_)))
 have hR := Option.some.inj hF
 subst hR
 refine (yG (post1 (v1 := v29) rfl rfl ?_))
 exact ⟨v29, rfl, H.pick [1] (by decide)⟩
end Go.Proofs.YtbjhondbheijiaaGreatDoor.L
namespace Go.Proofs.YtbjhondbheijiaaGreatDoor.L
open Go.RowKit Go.OB Go.Lf
/- orangebox/fleet.coarse -/
set_option maxHeartbeats 4000000 in
theorem F_fleet_coarse_w (p0 : Int) (p1 : Int) (r : Int) (hF : F_fleet_coarse p0 p1 = some r) (O S : List Nat) (w : World) (H : Hd O w w S []) :
  Calls Tryz.prog 58 ([.int .i64 p0, .int .i64 p1] : List Value).toArray w fun e w' => e = .returned (.int .i64 r) ∧ Hd O w w' S [] := by
 unfold F_fleet_coarse at hF
 refine yB 18 Tryz.func58 rfl rfl rfl ?_
 refine zD fun K1 hK1 => ?_
 refine zC ?_
 refine zA rfl rfl (zF (v := .int .i64 0) rfl) ?_
 refine (zI (zB (hK1 _ _ ?_)))
 refine zD fun K2 hK2 => ?_
 refine zC ?_
 refine zA rfl rfl (zG (v := .int .i64 p0) rfl) ?_
 refine zA rfl rfl (zG (v := .int .i64 p1) rfl) ?_
 obtain ⟨x3, e4, hF⟩ := zJ hF
 refine zA rfl rfl (Do_rem' (j := p0) (q := p1) rfl rfl e4) ?_
 refine zA rfl rfl (zF (v := .int .i64 x3) rfl) ?_
 refine (zI (zB (hK2 _ _ ?_)))
 obtain ⟨g11, hF, hK13⟩ := zJ hF
 refine yL [5, 9, 10, 11, 12, 13] (fun (g : Unit) => [(5, .int .i64 g11)]) (fun g wl => Hd O w wl S []) ?_ ?_
 ·skip
  refine zD fun K14 hK14 => ?_
  refine zC ?_
  refine zA rfl rfl (zG (v := .int .i64 x3) rfl) ?_
  obtain ⟨x15, e16, hF⟩ := zH hF
  refine zA rfl rfl (zT (xK (a := x3) (b := 0) rfl rfl) (congrArg Value.bool e16)) ?_
  refine (zI (zB (hK14 _ _ ?_)))
  refine yF (b := x15) rfl (fun c17 => ?_) (fun c17 => ?_)
  ·have hF := zW c17 hF
   refine zC ?_
   refine zA rfl rfl (zG (v := .int .i64 x3) rfl) ?_
   refine zA rfl rfl (zG (v := .int .i64 p1) rfl) ?_
   obtain ⟨x18, e19, hF⟩ := zH hF
   refine zA rfl rfl (xJ (a := x3) (b := p1) rfl rfl e19) ?_
   refine zA rfl rfl (zF (v := .int .i64 x18) rfl) ?_
   have hR := Option.some.inj hF
   subst hR
   refine (zI (zB (And.intro ?_ ?_)))
   ·repeat' (first | with_reducible exact zN | refine zV rfl ?_ | refine zO rfl rfl ?_)
   exact ⟨(), (zK rfl zQ), H.pick [] (by decide)⟩
  have hF := zX c17 hF
  have hR := Option.some.inj hF
  subst hR
  refine (yA (zB (And.intro ?_ ?_)))
  ·repeat' (first | with_reducible exact zN | refine zV rfl ?_ | refine zO rfl rfl ?_)
  exact ⟨(), (zK rfl zQ), H.pick [] (by decide)⟩
 rintro _ ρ w12 H
 have hF := hK13
 refine zD fun K20 hK20 => ?_
 refine zC ?_
 refine zA rfl rfl (zG (v := .int .i64 p0) rfl) ?_
 refine zA rfl rfl (zG (v := .int .i64 g11) rfl) ?_
 obtain ⟨x21, e22, hF⟩ := zH hF
 refine zA rfl rfl (Do_sub (a := p0) (b := g11) rfl rfl e22) ?_
 obtain ⟨x23, e24, hF⟩ := zH hF
 refine zA rfl rfl (Do_max (j := x21) (q := (-1125899906842624)) rfl rfl e24) ?_
 refine zA rfl rfl (zF (v := .int .i64 x23) rfl) ?_
 refine (zI (zB (hK20 _ _ ?_)))
 have hR := Option.some.inj hF
 subst hR
 refine (yG (post1 (v1 := .int .i64 x23) rfl rfl ?_))
 exact ⟨rfl, H.pick [] (by decide)⟩
end Go.Proofs.YtbjhondbheijiaaGreatDoor.L
namespace Go.Proofs.YtbjhondbheijiaaGreatDoor.L
open Go.RowKit Go.OB Go.Lf
/- orangebox/fleet.masked -/
set_option maxHeartbeats 4000000 in
theorem F_fleet_masked_w (p0 : Flight) (p1 : Mask) (v1 : Value) (v3 : Value) (v4 : Value) (r : Flight) (hF : F_fleet_masked p0 p1 = some r) (O S : List Nat) (w : World) (H : Hd O w w S [.fz (.sl rTrack v1 p0.Tracks), .fz (.sl Rp.str v3 p1.Hide), .fz (.sl rGrain v4 p1.Grains)]) :
  Calls Tryz.prog 29 ([.agg [.string (bs p0.Tail), .string (bs p0.Route), .int .i64 p0.Day, .int .i64 p0.From, .int .i64 p0.To, v1].toArray, .agg [.bool p1.Tails, .int .i64 p1.Days, v3, v4, .int .i64 p1.Least].toArray] : List Value).toArray w fun e w' => ∃ u7, e = .returned (.agg [.string (bs r.Tail), .string (bs r.Route), .int .i64 r.Day, .int .i64 r.From, .int .i64 r.To, u7].toArray) ∧ Hd O w w' S [.fz (.sl rTrack u7 r.Tracks)] := by
 unfold F_fleet_masked at hF
 refine yB 87 Tryz.func29 rfl rfl rfl ?_
 refine zD fun K8 hK8 => ?_
 refine zC ?_
 refine xE rfl rfl (Lx_box (cs := [.string (bs p0.Tail), .string (bs p0.Route), .int .i64 p0.Day, .int .i64 p0.From, .int .i64 p0.To, v1]) rfl H) ?_
 rintro _ w11 ⟨b9, rfl, H⟩
 refine xE rfl rfl (Lx_box (cs := [.bool p1.Tails, .int .i64 p1.Days, v3, v4, .int .i64 p1.Least]) rfl H) ?_
 rintro _ w14 ⟨b12, rfl, H⟩
 refine xE rfl rfl (xR zero70 H) ?_
 rintro _ w17 ⟨b15, rfl, H⟩
 refine (zI (zB (hK8 _ _ ?_)))
 obtain ⟨g21, hF, hK23⟩ := zJ hF
 refine yL [12, 13, 14] (fun (g : Unit) => []) (fun g wl => Hd O w wl S [.blk b9 [.string (bs g21), .string (bs p0.Route), .int .i64 p0.Day, .int .i64 p0.From, .int .i64 p0.To, v1] 70, .fz (.sl rTrack v1 p0.Tracks), .blk b12 [.bool p1.Tails, .int .i64 p1.Days, v3, v4, .int .i64 p1.Least] 26, .fz (.sl Rp.str v3 p1.Hide), .fz (.sl rGrain v4 p1.Grains), .blk b15 [.string (bs []), .string (bs []), .int .i64 0, .int .i64 0, .int .i64 0, .slice none 0 0] 70]) ?_ ?_
 ·skip
  refine zD fun K24 hK24 => ?_
  refine zC ?_
  refine zA rfl rfl (fa26_0 rfl) ?_
  refine zA rfl rfl (zU one4 rfl (Cells.get (Blk.cells (H.item (i := 4) rfl)) (i := 0) rfl)) ?_
  refine (zI (zB (hK24 _ _ ?_)))
  refine yF (b := p1.Tails) rfl (fun c25 => ?_) (fun c25 => ?_)
  ·have hF := zW c25 hF
   refine zC ?_
   refine zA rfl rfl (fa70_0 rfl) ?_
   refine xO rfl (Lx_store1 H 3 rfl sz9 rfl (v := .string (bs [])) rfl rfl rfl) ?_
   rintro w26 H
   have hR := Option.some.inj hF
   subst hR
   refine (zI (zB (And.intro ?_ ?_)))
   ·repeat' (first | with_reducible exact zN | refine zV rfl ?_ | refine zO rfl rfl ?_)
   exact ⟨(), zQ, H.pick [3, 0, 4, 1, 2, 5] (by decide)⟩
  have hF := zX c25 hF
  have hR := Option.some.inj hF
  subst hR
  refine (yA (zB (And.intro ?_ ?_)))
  ·repeat' (first | with_reducible exact zN | refine zV rfl ?_ | refine zO rfl rfl ?_)
  exact ⟨(), zQ, H.pick [3, 0, 4, 1, 2, 5] (by decide)⟩
 rintro _ ρ w22 H
 have hF := hK23
 refine zD fun K27 hK27 => ?_
 have H28 := H
 have H := H.rebase
 have H29 := H
 refine WP_mix0 H [0, 1, 2, 3, 4, 5, 6, 7, 8, 9] [.pure, .read, .pure, .read, .pure, .read, .pure, .pure, .pure, .eff] mixed (by kernel_rfl) (by kernel_rfl) (by kernel_rfl) rfl ?_
 refine Mx.zS rfl rfl rfl (fun w' hw' => fa70_2 rfl) ?_
 refine Mx.xM oS rfl rfl rfl (fun w' hw' => zU one3 rfl (Cells.get (Blk.cells ((H.sees hw').item (i := 0) rfl)) (i := 2) rfl)) ?_
 refine Mx.zS rfl rfl rfl (fun w' hw' => fa70_2 rfl) ?_
 refine Mx.xM oS rfl rfl rfl (fun w' hw' => zU one3 rfl (Cells.get (Blk.cells ((H.sees hw').item (i := 0) rfl)) (i := 2) rfl)) ?_
 refine Mx.zS rfl rfl rfl (fun w' hw' => fa26_1 rfl) ?_
 refine Mx.xM oS rfl rfl rfl (fun w' hw' => zU one3 rfl (Cells.get (Blk.cells ((H.sees hw').item (i := 2) rfl)) (i := 1) rfl)) ?_
 obtain ⟨x30, e31, hF⟩ := zJ hF
 refine Mx.zS rfl rfl rfl (fun w' hw' => Do_rem' (j := p0.Day) (q := p1.Days) rfl rfl e31) ?_
 obtain ⟨x32, e33, hF⟩ := zH hF
 refine Mx.zS rfl rfl rfl (fun w' hw' => Do_sub (a := p0.Day) (b := x30) rfl rfl e33) ?_
 refine Mx.zS rfl rfl rfl (fun w' hw' => fa70_2 rfl) ?_
 refine Mx.XL_exU oS rfl rfl (fun w' hw' => Lx_store1 (H.sees hw') 0 rfl sz3 rfl (v := .int .i64 x32) rfl rfl rfl) ?_
 rintro w' w34 hw' H
 refine ⟨H.only, ?_⟩
 refine Mx.wG fun w35 hS => ?_
 have H := H.sees hS
 have H := H28.rejoin H
 refine (zB (hK27 _ _ ?_))
 refine zD fun K36 hK36 => ?_
 refine zC ?_
 refine zA rfl rfl (zF (v := .slice none 0 0) rfl) ?_
 refine (zI (zB (hK36 _ _ ?_)))
 obtain ⟨g1247, hF, hK1250⟩ := zJ hF
 refine yL [5, 7, 9, 10, 11, 24, 25, 26, 27, 28, 29, 30, 31, 32, 33, 34, 35, 36, 37, 38, 39, 40, 41, 42, 43, 44, 45, 46, 47, 48, 49, 50, 51, 52, 53, 54, 55, 56, 57, 58, 59, 60, 61, 62, 63, 64, 65, 66, 67, 68, 69, 70, 71, 72, 73, 74, 75, 76, 77, 78, 79, 80, 81, 82, 83] (fun (g : Value) => [(5, g)]) (fun g wl => Hd O w wl S [.own rTrack g 78 g1247, .blk b9 [.string (bs g21), .string (bs p0.Route), .int .i64 x32, .int .i64 p0.From, .int .i64 p0.To, v1] 70, .fz (.sl rTrack v1 p0.Tracks), .blk b15 [.string (bs []), .string (bs []), .int .i64 0, .int .i64 0, .int .i64 0, .slice none 0 0] 70]) ?_ ?_
 ·skip
  refine zD fun K1251 hK1251 => ?_
  refine zC ?_
  refine zA rfl rfl (fa70_5 rfl) ?_
  refine zA rfl rfl (zU one68 rfl (Cells.get (Blk.cells (H.item (i := 0) rfl)) (i := 5) rfl)) ?_
  obtain ⟨x1252, e1253, hF⟩ := zH hF
  obtain ⟨a1254, c1255, q1256⟩ := SlF.len ((H.item (i := 1) rfl))
  refine zA rfl rfl (zT (xI u68 q1256) (congrArg (Value.int .i64) e1253)) ?_
  refine zA rfl rfl (zG (v := .int .i64 0) rfl) ?_
  refine (zI (zB (hK1251 _ _ ?_)))
  refine yK ?_
  have H := own_nil H rTrack 78
  unfold F_fleet_masked_L1 at hF
  obtain ⟨B2458, n2459, eB2460, hF⟩ := yT hF
  refine xC [5, 7, 9, 10, 11, 27, 28, 29, 30, 31, 32, 33, 34, 35, 36, 37, 38, 39, 40, 41, 42, 43, 44, 45, 46, 47, 48, 49, 50, 51, 52, 53, 54, 55, 56, 57, 58, 59, 60, 61, 62, 63, 64, 65, 66, 67, 68, 69, 70, 71, 72, 73, 74, 75, 76, 77, 78, 79, 80, 81, 82, 83] (fun (g : Nat × (List Track) × Int × Value) => [(5, g.2.2.2), (27, .int .i64 g.2.2.1)]) (fun g wl => Hd O w wl S [.own rTrack g.2.2.2 78 g.2.1, .blk b9 [.string (bs g21), .string (bs p0.Route), .int .i64 x32, .int .i64 p0.From, .int .i64 p0.To, v1] 70, .fz (.sl rTrack v1 p0.Tracks), .blk b12 [.bool p1.Tails, .int .i64 p1.Days, v3, v4, .int .i64 p1.Least] 26, .fz (.sl Rp.str v3 p1.Hide), .fz (.sl rGrain v4 p1.Grains), .blk b15 [.string (bs []), .string (bs []), .int .i64 0, .int .i64 0, .int .i64 0, .slice none 0 0] 70] ∧ loopN B2458 g.1 (g.2.1, g.2.2.1) = some g1247) (fun g => g.1) (n2459, [], 0, .slice none 0 0) (zK rfl (zK rfl zQ)) ⟨H.pick [6, 0, 1, 2, 3, 4, 5] (by decide), hF⟩ ?_
  clear H hF
  rintro ⟨n2459, g2454, g2456, v2455⟩ ρ w2462 ⟨H, hF⟩
  obtain ⟨n2463, rfl, hF⟩ := yX hF
  have hF := yY eB2460 hF
  refine zD fun K2464 hK2464 => ?_
  refine zC ?_
  obtain ⟨x2465, e2466, hF⟩ := zH hF
  refine zA rfl rfl (zT (xK (a := g2456) (b := x1252) rfl rfl) (congrArg Value.bool e2466)) ?_
  refine (zI (zB (hK2464 _ _ ?_)))
  refine zD fun K2468 hK2468 => ?_
  refine yF (b := x2465) rfl (fun c2469 => ?_) (fun c2469 => ?_)
  ·have hF := zW c2469 hF
   refine (yA (zB (hK2468 _ _ ?_)))
   obtain ⟨g2845, hF, hK2848⟩ := zJ hF
   refine yL [5, 7, 9, 10, 11, 29, 30, 31, 32, 33, 34, 35, 36, 37, 38, 39, 40, 41, 42, 43, 44, 45, 46, 47, 48, 49, 50, 51, 52, 53, 54, 55, 56, 57, 58, 59, 60, 61, 62, 63, 64, 65, 66, 67, 68, 69, 70, 71, 72, 73, 74, 75, 76, 77, 78, 79, 80, 81, 82] (fun (g : Value) => [(5, g)]) (fun g wl => Hd O w wl S [.own rTrack g 78 g2845, .blk b9 [.string (bs g21), .string (bs p0.Route), .int .i64 x32, .int .i64 p0.From, .int .i64 p0.To, v1] 70, .fz (.sl rTrack v1 p0.Tracks), .blk b12 [.bool p1.Tails, .int .i64 p1.Days, v3, v4, .int .i64 p1.Least] 26, .fz (.sl Rp.str v3 p1.Hide), .fz (.sl rGrain v4 p1.Grains), .blk b15 [.string (bs []), .string (bs []), .int .i64 0, .int .i64 0, .int .i64 0, .slice none 0 0] 70]) ?_ ?_
   ·skip
    refine yK ?_
    refine zD fun K2849 hK2849 => ?_
    refine zC ?_
    obtain ⟨x2850, e2851, hF⟩ := zJ hF
    obtain ⟨b2852, o2853, c2854, cs2855, q2856, h2859, h2857, h2858, h2860⟩ := wB (H.item (i := 2) rfl) e2851
    obtain ⟨v2861, rfl, h2862⟩ := rTrack_open h2859
    have H := H.fzs [.at b2852 (o2853 + g2456.toNat * 4) _, .sl rSample v2861 x2850.Series.Samples] ⟨⟨h2857, h2858, h2860⟩, h2862, trivial⟩
    refine zA rfl rfl (xG u68 sz78 q2856 rfl (yD e2851).1 (yD e2851).2.1 rfl rfl) ?_
    refine zA rfl rfl (zT (yV (cs := [.string (bs x2850.Name), .int .i64 x2850.Series.Den, v2861, .int .i64 x2850.Long]) agg78 rfl sz78 rfl (H.item (i := 7) rfl).2.2) rfl) ?_
    refine xE rfl rfl (xR zero78 H) ?_
    rintro _ w2867 ⟨b2865, rfl, H⟩
    refine xO rfl (xA (vs := [.string (bs x2850.Name), .int .i64 x2850.Series.Den, v2861, .int .i64 x2850.Long]) H 9 rfl sz78 rfl rfl rfl ⟨rfl, rfl, (slf_one (H.item (i := 8) rfl)), rfl, trivial⟩ rfl) ?_
    rintro w2868 H
    refine (zI (zB (hK2849 _ _ ?_)))
    refine zD fun K2876 hK2876 => ?_
    refine zD fun K2877 hK2877 => ?_
    refine zC ?_
    refine zA rfl rfl (fa26_2 rfl) ?_
    refine zA rfl rfl (zU one23 rfl (Cells.get (Blk.cells (H.item (i := 3) rfl)) (i := 2) rfl)) ?_
    refine zA rfl rfl (fa78_0 rfl) ?_
    refine zA rfl rfl (zU one9 rfl (Cells.get (Blk.cells (H.item (i := 9) rfl)) (i := 0) rfl)) ?_
    have H2878 := H
    obtain ⟨x2879, e2880, hF⟩ := zJ hF
    refine yJ rfl rfl (yC en56 rfl) (F_slices_Contains___string_string__w p1.Hide x2850.Name v3 _ e2880 _ _ _ (H.enter [] [4] (by decide) rfl)) ?_
    rintro _ w2881 ⟨rfl, G2882⟩
    have H := H2878.step (G2882.only : Only [] _ _)
    refine ⟨_, rfl, ?_⟩
    refine (zI (zB (hK2877 _ _ ?_)))
    refine yF (b := x2879) rfl (fun c2883 => ?_) (fun c2883 => ?_)
    ·have hF := zW c2883 hF
     have hR := Option.some.inj hF
     subst hR
     refine (xB (yN (yR (zB (And.intro ?_ ?_)))))
     ·repeat' (first | with_reducible exact zN | refine zV rfl ?_ | refine zO rfl rfl ?_)
     exact ⟨v2455, (zK rfl zQ), H.pick [0, 1, 2, 3, 4, 5, 6] (by decide)⟩
    have hF := zX c2883 hF
    refine (yA (zB (hK2876 _ _ ?_)))
    refine zD fun K2884 hK2884 => ?_
    refine zC ?_
    refine zA rfl rfl (fa78_1 rfl) ?_
    refine zA rfl rfl (fa76_1 rfl) ?_
    refine zA rfl rfl (zU one74 rfl (Cells.get (Blk.cells (H.item (i := 9) rfl)) (i := 2) rfl)) ?_
    obtain ⟨x2885, e2886, hF⟩ := zJ hF
    refine yJ rfl rfl (yC en57 rfl) (F_slices_Clone___api_Sample_api_Sample__w x2850.Series.Samples v2861 _ e2886 _ _ _ (H.enter [] [8] (by decide) rfl)) ?_
    rintro _ w2889 ⟨v2887, rfl, G2890⟩
    have H := H.back1 [8] rfl G2890
    refine ⟨_, rfl, ?_⟩
    refine zA rfl rfl (fa78_1 rfl) ?_
    refine zA rfl rfl (fa76_1 rfl) ?_
    refine xO rfl (Lx_store1 H 9 rfl sz74 rfl (v := v2887) rfl (own_one (H.item (i := 10) rfl)) rfl) ?_
    rintro w2891 H
    refine (zI (zB (hK2884 _ _ ?_)))
    obtain ⟨g3212, hF, hK3214⟩ := zJ hF
    refine yL [9, 10, 11, 42, 43, 44, 45, 46, 47, 48, 49, 50, 51, 52, 53, 54, 55, 56, 57, 58, 59, 60, 61, 62, 63, 64, 65, 66, 67, 68, 69, 70, 71, 72, 73, 74, 75, 76, 77, 78] (fun (g : Unit) => []) (fun g wl => Hd O w wl S [.own rTrack v2455 78 g2454, .blk b9 [.string (bs g21), .string (bs p0.Route), .int .i64 x32, .int .i64 p0.From, .int .i64 p0.To, v1] 70, .fz (.sl rTrack v1 p0.Tracks), .blk b12 [.bool p1.Tails, .int .i64 p1.Days, v3, v4, .int .i64 p1.Least] 26, .fz (.sl Rp.str v3 p1.Hide), .fz (.sl rGrain v4 p1.Grains), .blk b15 [.string (bs []), .string (bs []), .int .i64 0, .int .i64 0, .int .i64 0, .slice none 0 0] 70, .blk b2865 [.string (bs x2850.Name), .int .i64 x2850.Series.Den, v2887, .int .i64 x2850.Long] 78, .own rSample v2887 109 g3212]) ?_ ?_
    ·skip
     refine zD fun K3215 hK3215 => ?_
     refine zC ?_
     refine zA rfl rfl (fa26_3 rfl) ?_
     refine zA rfl rfl (zU one24 rfl (Cells.get (Blk.cells (H.item (i := 3) rfl)) (i := 3) rfl)) ?_
     obtain ⟨x3216, e3217, hF⟩ := zH hF
     obtain ⟨a3218, c3219, q3220⟩ := SlF.len ((H.item (i := 5) rfl))
     refine zA rfl rfl (zT (xI u24 q3220) (congrArg (Value.int .i64) e3217)) ?_
     refine zA rfl rfl (zG (v := .int .i64 0) rfl) ?_
     refine (zI (zB (hK3215 _ _ ?_)))
     refine yK ?_
     unfold F_fleet_masked_L2 at hF
     obtain ⟨B3531, n3532, eB3533, hF⟩ := yT hF
     refine xC [9, 10, 11, 45, 46, 47, 48, 49, 50, 51, 52, 53, 54, 55, 56, 57, 58, 59, 60, 61, 62, 63, 64, 65, 66, 67, 68, 69, 70, 71, 72, 73, 74, 75, 76, 77, 78] (fun (g : Nat × Int × (List Sample)) => [(45, .int .i64 g.2.1)]) (fun g wl => Hd O w wl S [.own rTrack v2455 78 g2454, .blk b9 [.string (bs g21), .string (bs p0.Route), .int .i64 x32, .int .i64 p0.From, .int .i64 p0.To, v1] 70, .fz (.sl rTrack v1 p0.Tracks), .blk b12 [.bool p1.Tails, .int .i64 p1.Days, v3, v4, .int .i64 p1.Least] 26, .fz (.sl Rp.str v3 p1.Hide), .fz (.sl rGrain v4 p1.Grains), .blk b15 [.string (bs []), .string (bs []), .int .i64 0, .int .i64 0, .int .i64 0, .slice none 0 0] 70, .blk b2865 [.string (bs x2850.Name), .int .i64 x2850.Series.Den, v2887, .int .i64 x2850.Long] 78, .own rSample v2887 109 g.2.2] ∧ loopN B3531 g.1 (g.2.1, g.2.2) = some g3212) (fun g => g.1) (n3532, 0, x2885) (zK rfl zQ) ⟨H.pick [0, 1, 2, 3, 4, 5, 6, 9, 10] (by decide), hF⟩ ?_
     clear H hF
     rintro ⟨n3532, g3529, g3530⟩ ρ w3535 ⟨H, hF⟩
     obtain ⟨n3536, rfl, hF⟩ := yX hF
     have hF := yY eB3533 hF
     refine zD fun K3537 hK3537 => ?_
     refine zC ?_
     obtain ⟨x3538, e3539, hF⟩ := zH hF
     refine zA rfl rfl (zT (xK (a := g3529) (b := x3216) rfl rfl) (congrArg Value.bool e3539)) ?_
     refine (zI (zB (hK3537 _ _ ?_)))
     refine zD fun K3541 hK3541 => ?_
     refine yF (b := x3538) rfl (fun c3542 => ?_) (fun c3542 => ?_)
     ·have hF := zW c3542 hF
      refine (yA (zB (hK3541 _ _ ?_)))
      obtain ⟨g3685, hF, hK3687⟩ := zJ hF
      refine yL [9, 10, 11, 47, 48, 49, 50, 51, 52, 53, 54, 55, 56, 57, 58, 59, 60, 61, 62, 63, 64, 65, 66, 67, 68, 69, 70, 71, 72, 73, 74, 75, 76, 77] (fun (g : Unit) => []) (fun g wl => Hd O w wl S [.own rTrack v2455 78 g2454, .blk b9 [.string (bs g21), .string (bs p0.Route), .int .i64 x32, .int .i64 p0.From, .int .i64 p0.To, v1] 70, .fz (.sl rTrack v1 p0.Tracks), .blk b12 [.bool p1.Tails, .int .i64 p1.Days, v3, v4, .int .i64 p1.Least] 26, .fz (.sl Rp.str v3 p1.Hide), .fz (.sl rGrain v4 p1.Grains), .blk b15 [.string (bs []), .string (bs []), .int .i64 0, .int .i64 0, .int .i64 0, .slice none 0 0] 70, .blk b2865 [.string (bs x2850.Name), .int .i64 x2850.Series.Den, v2887, .int .i64 x2850.Long] 78, .own rSample v2887 109 g3685]) ?_ ?_
      ·skip
       refine yK ?_
       refine zD fun K3688 hK3688 => ?_
       refine zC ?_
       obtain ⟨x3689, e3690, hF⟩ := zJ hF
       obtain ⟨b3691, o3692, c3693, cs3694, q3695, h3698, h3696, h3697, h3699⟩ := wB (H.item (i := 5) rfl) e3690
       obtain rfl := rGrain_open h3698
       have H := H.fz (.at b3691 (o3692 + g3529.toNat * 2) _) ⟨h3696, h3697, h3699⟩
       refine zA rfl rfl (xG u24 sz103 q3695 rfl (yD e3690).1 (yD e3690).2.1 rfl rfl) ?_
       refine zA rfl rfl (zT (yV (cs := [.string (bs x3689.Track), .int .i64 x3689.N]) agg103 rfl sz103 rfl (H.item (i := 9) rfl).2.2) rfl) ?_
       refine xE rfl rfl (xR zero103 H) ?_
       rintro _ w3703 ⟨b3701, rfl, H⟩
       refine xO rfl (xA (vs := [.string (bs x3689.Track), .int .i64 x3689.N]) H 10 rfl sz103 rfl rfl rfl ⟨rfl, rfl, trivial⟩ rfl) ?_
       rintro w3704 H
       refine (zI (zB (hK3688 _ _ ?_)))
       refine zD fun K3709 hK3709 => ?_
       refine zD fun K3710 hK3710 => ?_
       refine zC ?_
       refine zA rfl rfl (fa103_0 rfl) ?_
       refine zA rfl rfl (zU one9 rfl (Cells.get (Blk.cells (H.item (i := 10) rfl)) (i := 0) rfl)) ?_
       refine zA rfl rfl (fa78_0 rfl) ?_
       refine zA rfl rfl (zU one9 rfl (Cells.get (Blk.cells (H.item (i := 7) rfl)) (i := 0) rfl)) ?_
       obtain ⟨x3711, e3712, hF⟩ := zH hF
       refine zA rfl rfl (zT (Do_neqs (s1 := x3689.Track) (s2 := x2850.Name) rfl rfl) (congrArg Value.bool e3712)) ?_
       refine (zI (zB (hK3710 _ _ ?_)))
       refine yF (b := x3711) rfl (fun c3713 => ?_) (fun c3713 => ?_)
       ·have hF := zW c3713 hF
        have hR := Option.some.inj hF
        subst hR
        refine (xB (yN (yR (zB (And.intro ?_ ?_)))))
        ·repeat' (first | with_reducible exact zN | refine zV rfl ?_ | refine zO rfl rfl ?_)
        exact ⟨(), zQ, H.pick [0, 1, 2, 3, 4, 5, 6, 7, 8] (by decide)⟩
       have hF := zX c3713 hF
       refine (yA (zB (hK3709 _ _ ?_)))
       refine zD fun K3714 hK3714 => ?_
       refine zC ?_
       refine zA rfl rfl (fa78_1 rfl) ?_
       refine zA rfl rfl (fa76_1 rfl) ?_
       refine zA rfl rfl (zU one74 rfl (Cells.get (Blk.cells (H.item (i := 7) rfl)) (i := 2) rfl)) ?_
       obtain ⟨x3715, e3716, hF⟩ := zH hF
       obtain ⟨a3717, c3718, q3719⟩ := Sr.len (Sr.of_own (H.item (i := 8) rfl))
       refine zA rfl rfl (zT (xI u74 q3719) (congrArg (Value.int .i64) e3716)) ?_
       refine zA rfl rfl (zG (v := .int .i64 0) rfl) ?_
       refine (zI (zB (hK3714 _ _ ?_)))
       refine yK ?_
       unfold F_fleet_masked_L3 at hF
       obtain ⟨B3826, n3827, eB3828, hF⟩ := yT hF
       refine xC [10, 11, 58, 59, 60, 61, 62, 63, 64, 65, 66, 67, 68, 69, 70, 71, 72, 73, 74, 75, 76, 77] (fun (g : Nat × Int × (List Sample)) => [(58, .int .i64 g.2.1)]) (fun g wl => Hd O w wl S [.own rTrack v2455 78 g2454, .blk b9 [.string (bs g21), .string (bs p0.Route), .int .i64 x32, .int .i64 p0.From, .int .i64 p0.To, v1] 70, .fz (.sl rTrack v1 p0.Tracks), .blk b12 [.bool p1.Tails, .int .i64 p1.Days, v3, v4, .int .i64 p1.Least] 26, .fz (.sl Rp.str v3 p1.Hide), .fz (.sl rGrain v4 p1.Grains), .blk b15 [.string (bs []), .string (bs []), .int .i64 0, .int .i64 0, .int .i64 0, .slice none 0 0] 70, .blk b2865 [.string (bs x2850.Name), .int .i64 x2850.Series.Den, v2887, .int .i64 x2850.Long] 78, .own rSample v2887 109 g.2.2, .blk b3701 [.string (bs x3689.Track), .int .i64 x3689.N] 103] ∧ loopN B3826 g.1 (g.2.1, g.2.2) = some g3685) (fun g => g.1) (n3827, 0, g3530) (zK rfl zQ) ⟨H.pick [0, 1, 2, 3, 4, 5, 6, 7, 8, 10] (by decide), hF⟩ ?_
       clear H hF
       rintro ⟨n3827, g3824, g3825⟩ ρ w3830 ⟨H, hF⟩
       obtain ⟨n3831, rfl, hF⟩ := yX hF
       have hF := yY eB3828 hF
       refine zD fun K3832 hK3832 => ?_
       refine zC ?_
       obtain ⟨x3833, e3834, hF⟩ := zH hF
       refine zA rfl rfl (zT (xK (a := g3824) (b := x3715) rfl rfl) (congrArg Value.bool e3834)) ?_
       refine (zI (zB (hK3832 _ _ ?_)))
       refine zD fun K3836 hK3836 => ?_
       refine yF (b := x3833) rfl (fun c3837 => ?_) (fun c3837 => ?_)
       ·have hF := zW c3837 hF
        refine (yA (zB (hK3836 _ _ ?_)))
        obtain ⟨g3878, hF, hK3880⟩ := zJ hF
        refine yL [10, 11, 60, 61, 62, 63, 64, 65, 66, 67, 68, 69, 70, 71, 72, 73, 74, 75, 76] (fun (g : Unit) => []) (fun g wl => Hd O w wl S [.own rTrack v2455 78 g2454, .blk b9 [.string (bs g21), .string (bs p0.Route), .int .i64 x32, .int .i64 p0.From, .int .i64 p0.To, v1] 70, .fz (.sl rTrack v1 p0.Tracks), .blk b12 [.bool p1.Tails, .int .i64 p1.Days, v3, v4, .int .i64 p1.Least] 26, .fz (.sl Rp.str v3 p1.Hide), .fz (.sl rGrain v4 p1.Grains), .blk b15 [.string (bs []), .string (bs []), .int .i64 0, .int .i64 0, .int .i64 0, .slice none 0 0] 70, .blk b2865 [.string (bs x2850.Name), .int .i64 x2850.Series.Den, v2887, .int .i64 x2850.Long] 78, .own rSample v2887 109 g3878, .blk b3701 [.string (bs x3689.Track), .int .i64 x3689.N] 103]) ?_ ?_
        ·skip
         refine yK ?_
         refine zD fun K3881 hK3881 => ?_
         refine zC ?_
         refine zA rfl rfl (zG (v := .int .i64 g3824) rfl) ?_
         obtain ⟨x3882, e3883, hF⟩ := zJ hF
         obtain ⟨b3884, c3886, cs3887, q3888, h3891, h3892⟩ := own_at (H.item (i := 8) rfl) e3883
         obtain rfl := rSample_open h3891
         refine zA rfl rfl (xG u74 sz109 q3888 rfl (yD e3883).1 (yD e3883).2.1 rfl rfl) ?_
         refine zA rfl rfl (zT (yV (cs := [.int .i64 x3882.At, .int .i64 x3882.N, .int .i64 x3882.Mark]) agg109 rfl sz109 rfl h3892) rfl) ?_
         refine xE rfl rfl (xR zero109 H) ?_
         rintro _ w3895 ⟨b3893, rfl, H⟩
         refine zA rfl rfl (zF (v := .int .i64 g3824) rfl) ?_
         refine xO rfl (xA (vs := [.int .i64 x3882.At, .int .i64 x3882.N, .int .i64 x3882.Mark]) H 10 rfl sz109 rfl rfl rfl ⟨rfl, rfl, rfl, trivial⟩ rfl) ?_
         rintro w3896 H
         refine (zI (zB (hK3881 _ _ ?_)))
         refine zD fun K3897 hK3897 => ?_
         refine zC ?_
         refine zA rfl rfl (fa109_2 rfl) ?_
         refine zA rfl rfl (zU one3 rfl (Cells.get (Blk.cells (H.item (i := 10) rfl)) (i := 2) rfl)) ?_
         obtain ⟨x3898, e3899, hF⟩ := zH hF
         refine zA rfl rfl (zT (Do_geq (a := x3882.Mark) (b := 2) rfl rfl) (congrArg Value.bool e3899)) ?_
         refine (zI (zB (hK3897 _ _ ?_)))
         refine yF (b := x3898) rfl (fun c3900 => ?_) (fun c3900 => ?_)
         ·have hF := zW c3900 hF
          have H3901 := H
          have H := H.rebase
          have H3902 := H
          refine WP_mix0 H [0, 1, 2, 3, 4, 5, 6, 7, 8, 9, 10, 11] [.pure, .pure, .read, .pure, .pure, .read, .pure, .read, .fcall, .pure, .pure, .eff] mixed (by kernel_rfl) (by kernel_rfl) (by kernel_rfl) rfl ?_
          refine Mx.zS rfl rfl rfl (fun w' hw' => fa78_1 rfl) ?_
          refine Mx.zS rfl rfl rfl (fun w' hw' => fa76_1 rfl) ?_
          refine Mx.xM oS rfl rfl rfl (fun w' hw' => zU one74 rfl (Cells.get (Blk.cells ((H.sees hw').item (i := 7) rfl)) (i := 2) rfl)) ?_
          refine Mx.zS rfl rfl rfl (fun w' hw' => zG (v := .int .i64 g3824) rfl) ?_
          refine Mx.zS rfl rfl rfl (fun w' hw' => fa109_1 rfl) ?_
          refine Mx.xM oS rfl rfl rfl (fun w' hw' => zU one3 rfl (Cells.get (Blk.cells ((H.sees hw').item (i := 10) rfl)) (i := 1) rfl)) ?_
          refine Mx.zS rfl rfl rfl (fun w' hw' => fa103_1 rfl) ?_
          refine Mx.xM oS rfl rfl rfl (fun w' hw' => zU one3 rfl (Cells.get (Blk.cells ((H.sees hw').item (i := 9) rfl)) (i := 1) rfl)) ?_
          have H3903 := H
          obtain ⟨x3904, e3905, hF⟩ := zJ hF
          refine Mx.XL_fcall oS rfl rfl rfl (v := .int .i64 x3904) (fun w' hw' => yC en58 rfl) (fun w' hw' => call_read (F_fleet_coarse_w x3882.N x3689.N _ e3905 _ _ _ (Hd.fresh0 w'))) ?_
          have H := H3903
          obtain ⟨x3906, e3907, hF⟩ := zJ hF
          obtain ⟨b3908, c3910, cs3911, q3912, h3915, h3916⟩ := own_at (H.item (i := 8) rfl) e3907
          obtain rfl := rSample_open h3915
          refine Mx.zS rfl rfl rfl (fun w' hw' => xG u74 sz109 q3912 rfl (yD e3907).1 (yD e3907).2.1 rfl rfl) ?_
          refine Mx.zS rfl rfl rfl (fun w' hw' => fa109_1 rfl) ?_
          obtain ⟨x3917, e3918, hF⟩ := zJ hF
          refine Mx.XL_exU oS rfl rfl (fun w' hw' => Lx_own_store (vs := [.int .i64 x3904]) (off := 1) (H.sees hw') 8 rfl q3912 (h3916.sees hw') rfl sz3 rfl rfl rfl (allone_mem ⟨rfl, trivial⟩) e3918 (by decide) rfl (rSample_mk (x := Sample.mk x3906.At x3904 x3906.Mark))) ?_
          rintro w' w3919 hw' H
          refine ⟨H.only, ?_⟩
          refine Mx.wG fun w3920 hS => ?_
          have H := H.sees hS
          have H := H3901.rejoin H
          have hR := Option.some.inj hF
          subst hR
          refine (yU (zB (And.intro ?_ ?_)))
          ·repeat' (first | with_reducible exact zN | refine zV rfl ?_ | refine zO rfl rfl ?_)
          exact ⟨(), zQ, H.pick [0, 1, 2, 3, 4, 5, 6, 7, 8, 9] (by decide)⟩
         have hF := zX c3900 hF
         have hR := Option.some.inj hF
         subst hR
         refine (yA (yU (zB (And.intro ?_ ?_))))
         ·repeat' (first | with_reducible exact zN | refine zV rfl ?_ | refine zO rfl rfl ?_)
         exact ⟨(), zQ, H.pick [0, 1, 2, 3, 4, 5, 6, 7, 8, 9] (by decide)⟩
        rintro _ ρ w3879 H
        have hF := hK3880
        refine zC ?_
        obtain ⟨x3921, e3922, hF⟩ := zH hF
        refine zA rfl rfl (xJ (a := g3824) (b := 1) rfl rfl e3922) ?_
        refine zA rfl rfl (zG (v := .int .i64 x3921) rfl) ?_
        refine (zI (zB (And.intro ?_ ?_)))
        ·repeat' (first | with_reducible exact zN | refine zV rfl ?_ | refine zO rfl rfl ?_)
        exact ⟨(n3831, x3921, g3878), (zK rfl zQ), ⟨H.pick [0, 1, 2, 3, 4, 5, 6, 7, 8, 9] (by decide), hF⟩, Nat.lt_succ_self _⟩
       have hF := zX c3837 hF
       have hR := Option.some.inj hF
       subst hR
       refine (xB (yN (yN (yR (yU (zB (And.intro ?_ ?_)))))))
       ·repeat' (first | with_reducible exact zN | refine zV rfl ?_ | refine zO rfl rfl ?_)
       exact ⟨(), zQ, H.pick [0, 1, 2, 3, 4, 5, 6, 7, 8] (by decide)⟩
      rintro _ ρ w3686 H
      have hF := hK3687
      refine zC ?_
      obtain ⟨x3923, e3924, hF⟩ := zH hF
      refine zA rfl rfl (xJ (a := g3529) (b := 1) rfl rfl e3924) ?_
      refine zA rfl rfl (zG (v := .int .i64 x3923) rfl) ?_
      refine (zI (zB (And.intro ?_ ?_)))
      ·repeat' (first | with_reducible exact zN | refine zV rfl ?_ | refine zO rfl rfl ?_)
      exact ⟨(n3536, x3923, g3685), (zK rfl zQ), ⟨H.pick [0, 1, 2, 3, 4, 5, 6, 7, 8] (by decide), hF⟩, Nat.lt_succ_self _⟩
     have hF := zX c3542 hF
     have hR := Option.some.inj hF
     subst hR
     refine (xB (yN (yN (yR (zB (And.intro ?_ ?_))))))
     ·repeat' (first | with_reducible exact zN | refine zV rfl ?_ | refine zO rfl rfl ?_)
     exact ⟨(), zQ, H.pick [0, 1, 2, 3, 4, 5, 6, 7, 8] (by decide)⟩
    rintro _ ρ w3213 H
    have hF := hK3214
    refine zC ?_
    refine zA rfl rfl (zG (v := v2455) rfl) ?_
    refine zA rfl rfl (zT (yV (cs := [.string (bs x2850.Name), .int .i64 x2850.Series.Den, v2887, .int .i64 x2850.Long]) agg78 rfl sz78 rfl (Blk.cells (H.item (i := 7) rfl))) rfl) ?_
    have H := H.freeze (i := 8) rfl
    obtain ⟨x3925, e3926, hF⟩ := zH hF
    subst e3926
    refine xE rfl rfl (Lx_bs (r := rTrack) (xl := [Track.mk x2850.Name (Series.mk x2850.Series.Den g3212) x2850.Long]) (cs := [.string (bs x2850.Name), .int .i64 x2850.Series.Den, v2887, .int .i64 x2850.Long]) u68 el78 (by decide) (by decide) rfl (xW (vs := [.agg [.string (bs x2850.Name), .int .i64 x2850.Series.Den, v2887, .int .i64 x2850.Long].toArray]) (by decide) rfl rfl ⟨rfl, trivial⟩ rfl) H ⟨[.string (bs x2850.Name), .int .i64 x2850.Series.Den, v2887, .int .i64 x2850.Long], [], rfl, (rTrack_mk (x := Track.mk x2850.Name (Series.mk x2850.Series.Den g3212) x2850.Long) (H.item (i := 8) rfl)), rfl⟩) ?_
    rintro v3928 w3929 H
    obtain ⟨x3930, e3931, hF⟩ := zJ hF
    refine xE rfl rfl (Lx_app H (i := 0) rfl u68 el78 rfl rfl (Sr.of_own (H.item (i := 9) rfl)) e3931) ?_
    rintro v3932 w3933 H
    refine zA rfl rfl (zF (v := v3932) rfl) ?_
    have hR := Option.some.inj hF
    subst hR
    refine (zI (yU (zB (And.intro ?_ ?_))))
    ·repeat' (first | with_reducible exact zN | refine zV rfl ?_ | refine zO rfl rfl ?_)
    exact ⟨v3932, (zK rfl zQ), H.pick [0, 1, 2, 3, 4, 5, 6] (by decide)⟩
   rintro v2846 ρ w2847 H
   have hF := hK2848
   refine zC ?_
   obtain ⟨x3934, e3935, hF⟩ := zH hF
   refine zA rfl rfl (xJ (a := g2456) (b := 1) rfl rfl e3935) ?_
   refine zA rfl rfl (zG (v := .int .i64 x3934) rfl) ?_
   refine (zI (zB (And.intro ?_ ?_)))
   ·repeat' (first | with_reducible exact zN | refine zV rfl ?_ | refine zO rfl rfl ?_)
   exact ⟨(n2463, g2845, x3934, v2846), (zK rfl (zK rfl zQ)), ⟨H.pick [0, 1, 2, 3, 4, 5, 6] (by decide), hF⟩, Nat.lt_succ_self _⟩
  have hF := zX c2469 hF
  have hR := Option.some.inj hF
  subst hR
  refine (xB (yN (yN (yR (zB (And.intro ?_ ?_))))))
  ·repeat' (first | with_reducible exact zN | refine zV rfl ?_ | refine zO rfl rfl ?_)
  exact ⟨v2455, (zK rfl zQ), H.pick [0, 1, 2, 6] (by decide)⟩
 rintro v1248 ρ w1249 H
 have hF := hK1250
 refine zD fun K3936 hK3936 => ?_
 refine zC ?_
 refine zA rfl rfl (zG (v := v1248) rfl) ?_
 refine zA rfl rfl (fa70_5 rfl) ?_
 refine xO rfl (Lx_store1 H 1 rfl sz68 rfl (v := v1248) rfl (own_one (H.item (i := 0) rfl)) rfl) ?_
 rintro w3937 H
 refine (zI (zB (hK3936 _ _ ?_)))
 refine zD fun K3938 hK3938 => ?_
 refine zC ?_
 refine zA rfl rfl (zT (yV (cs := [.string (bs g21), .string (bs p0.Route), .int .i64 x32, .int .i64 p0.From, .int .i64 p0.To, v1248]) agg70 rfl sz70 rfl (Blk.cells (H.item (i := 1) rfl))) rfl) ?_
 refine xO rfl (xA (vs := [.string (bs g21), .string (bs p0.Route), .int .i64 x32, .int .i64 p0.From, .int .i64 p0.To, v1248]) H 3 rfl sz70 rfl rfl rfl ⟨rfl, rfl, rfl, rfl, rfl, (own_one (H.item (i := 0) rfl)), trivial⟩ rfl) ?_
 rintro w3939 H
 refine (zI (zB (hK3938 _ _ ?_)))
 have H := H.freeze (i := 0) rfl
 have hR := Option.some.inj hF
 subst hR
 refine (yG (postc  rfl rfl (xH agg70 sz70 rfl (Blk.cells (H.item (i := 3) rfl))) ?_))
 exact ⟨v1248, rfl, H.pick [0] (by decide)⟩
end Go.Proofs.YtbjhondbheijiaaGreatDoor.L
namespace Go.Proofs.YtbjhondbheijiaaGreatDoor.L
open Go.RowKit Go.OB Go.Lf
/- orangebox/fleet.trackOf -/
set_option maxHeartbeats 4000000 in
theorem F_fleet_trackOf_w (p0 : Flight) (p1 : Str) (v1 : Value) (r : (Option Track)) (hF : F_fleet_trackOf p0 p1 = some r) (O S : List Nat) (w : World) (H : Hd O w w S [.fz (.sl rTrack v1 p0.Tracks)]) :
  Calls Tryz.prog 31 ([.agg [.string (bs p0.Tail), .string (bs p0.Route), .int .i64 p0.Day, .int .i64 p0.From, .int .i64 p0.To, v1].toArray, .string (bs p1)] : List Value).toArray w fun e w' => ∃ u3, e = .returned (.pointer u3) ∧ Hd O w w' S [.fz (.pt rTrack u3 r)] := by
 unfold F_fleet_trackOf at hF
 refine yB 25 Tryz.func31 rfl rfl rfl ?_
 refine zD fun K4 hK4 => ?_
 refine zC ?_
 refine xE rfl rfl (Lx_box (cs := [.string (bs p0.Tail), .string (bs p0.Route), .int .i64 p0.Day, .int .i64 p0.From, .int .i64 p0.To, v1]) rfl H) ?_
 rintro _ w7 ⟨b5, rfl, H⟩
 refine zA rfl rfl (zF (v := .pointer none) rfl) ?_
 refine (zI (zB (hK4 _ _ ?_)))
 obtain ⟨k184, ek185, hF⟩ := xU hF
 refine yL [4, 5, 6, 7, 8, 9, 10, 11, 12, 13, 14, 15, 16, 17, 18, 19, 20, 21, 22, 23, 24] (fun (g : Unit) => []) (fun g wl => Hd O w wl S [] ∧ k184 () = some r) ?_ ?_
 ·skip
  refine zD fun K186 hK186 => ?_
  refine zC ?_
  refine zA rfl rfl (fa70_5 rfl) ?_
  refine zA rfl rfl (zU one68 rfl (Cells.get (Blk.cells (H.item (i := 1) rfl)) (i := 5) rfl)) ?_
  obtain ⟨x187, e188, hF⟩ := zH hF
  obtain ⟨a189, c190, q191⟩ := SlF.len ((H.item (i := 0) rfl))
  refine zA rfl rfl (zT (xI u68 q191) (congrArg (Value.int .i64) e188)) ?_
  refine zA rfl rfl (zG (v := .int .i64 0) rfl) ?_
  refine (zI (zB (hK186 _ _ ?_)))
  refine yK ?_
  unfold F_fleet_trackOf_L1 at hF
  obtain ⟨B356, n357, eB358, hF⟩ := yT hF
  refine xC [4, 5, 9, 10, 11, 12, 13, 14, 15, 16, 17, 18, 19, 20, 21, 22, 23, 24] (fun (g : Nat × Int) => [(9, .int .i64 g.2)]) (fun g wl => Hd O w wl S [.blk b5 [.string (bs p0.Tail), .string (bs p0.Route), .int .i64 p0.Day, .int .i64 p0.From, .int .i64 p0.To, v1] 70, .fz (.sl rTrack v1 p0.Tracks)] ∧ loopN B356 g.1 g.2 = some r) (fun g => g.1) (n357, 0) (zK rfl zQ) ⟨H.pick [1, 0] (by decide), hF⟩ ?_
  clear H hF
  rintro ⟨n357, g355⟩ ρ w360 ⟨H, hF⟩
  obtain ⟨n361, rfl, hF⟩ := yX hF
  have hF := yY eB358 hF
  refine zD fun K362 hK362 => ?_
  refine zC ?_
  obtain ⟨x363, e364, hF⟩ := zH hF
  refine zA rfl rfl (zT (xK (a := g355) (b := x187) rfl rfl) (congrArg Value.bool e364)) ?_
  refine (zI (zB (hK362 _ _ ?_)))
  refine zD fun K366 hK366 => ?_
  refine yF (b := x363) rfl (fun c367 => ?_) (fun c367 => ?_)
  ·have hF := zW c367 hF
   refine (yA (zB (hK366 _ _ ?_)))
   refine zD fun K404 hK404 => ?_
   refine yK ?_
   refine zD fun K405 hK405 => ?_
   refine zC ?_
   refine zA rfl rfl (zG (v := .int .i64 g355) rfl) ?_
   refine zA rfl rfl (zF (v := .int .i64 g355) rfl) ?_
   refine (zI (zB (hK405 _ _ ?_)))
   refine zD fun K406 hK406 => ?_
   refine zC ?_
   refine zA rfl rfl (fa70_5 rfl) ?_
   refine zA rfl rfl (zU one68 rfl (Cells.get (Blk.cells (H.item (i := 0) rfl)) (i := 5) rfl)) ?_
   refine zA rfl rfl (zG (v := .int .i64 g355) rfl) ?_
   obtain ⟨x407, e408, hF⟩ := zJ hF
   obtain ⟨b409, o410, c411, cs412, q413, h416, h414, h415, h417⟩ := wB (H.item (i := 1) rfl) e408
   obtain ⟨v418, rfl, h419⟩ := rTrack_open h416
   have H := H.fzs [.at b409 (o410 + g355.toNat * 4) _, .sl rSample v418 x407.Series.Samples] ⟨⟨h414, h415, h417⟩, h419, trivial⟩
   refine zA rfl rfl (xG u68 sz78 q413 rfl (yD e408).1 (yD e408).2.1 rfl rfl) ?_
   refine zA rfl rfl (fa78_0 rfl) ?_
   refine zA rfl rfl (zU one9 rfl (Cells.get (H.item (i := 2) rfl).2.2 (i := 0) rfl)) ?_
   refine zA rfl rfl (zG (v := .string (bs p1)) rfl) ?_
   obtain ⟨x422, e423, hF⟩ := zH hF
   refine zA rfl rfl (zT (Do_eqls (s1 := x407.Name) (s2 := p1) rfl rfl) (congrArg Value.bool e423)) ?_
   refine (zI (zB (hK406 _ _ ?_)))
   refine yF (b := x422) rfl (fun c424 => ?_) (fun c424 => ?_)
   ·have hF := zW c424 hF
    refine zD fun K425 hK425 => ?_
    refine zC ?_
    refine zA rfl rfl (fa70_5 rfl) ?_
    refine zA rfl rfl (zU one68 rfl (Cells.get (Blk.cells (H.item (i := 0) rfl)) (i := 5) rfl)) ?_
    refine zA rfl rfl (zG (v := .int .i64 g355) rfl) ?_
    obtain ⟨x426, e427, hF⟩ := zJ hF
    obtain ⟨b428, o429, c430, cs431, q432, h435, h433, h434, h436⟩ := wB (H.item (i := 1) rfl) e427
    obtain ⟨v437, rfl, h438⟩ := rTrack_open h435
    have H := H.fzs [.at b428 (o429 + g355.toNat * 4) _, .sl rSample v437 x426.Series.Samples] ⟨⟨h433, h434, h436⟩, h438, trivial⟩
    refine zA rfl rfl (xG u68 sz78 q432 rfl (yD e427).1 (yD e427).2.1 rfl rfl) ?_
    refine zA rfl rfl (zF (v := .pointer (some ⟨b428, o429 + g355.toNat * 4, none⟩)) rfl) ?_
    refine (zI (zB (hK425 _ _ ?_)))
    have H := H.fz (.pt rTrack (some ⟨b428, o429 + g355.toNat * 4, none⟩) (some x426)) ⟨_, _, _, rfl, (H.item (i := 4) rfl).1, (H.item (i := 4) rfl).2.1, (rTrack_mk (x := x426) (H.item (i := 5) rfl)), (H.item (i := 4) rfl).2.2⟩
    have hR := Option.some.inj hF
    subst hR
    refine (yG (yM (zZ (zZ (yM (zZ (post1 (v1 := .pointer (some ⟨b428, o429 + g355.toNat * 4, none⟩)) rfl rfl ?_)))))))
    exact ⟨(some ⟨b428, o429 + g355.toNat * 4, none⟩), rfl, H.pick [6] (by decide)⟩
   have hF := zX c424 hF
   refine (yA (yU (zB (hK404 _ _ ?_))))
   refine zC ?_
   obtain ⟨x442, e443, hF⟩ := zH hF
   refine zA rfl rfl (xJ (a := g355) (b := 1) rfl rfl e443) ?_
   refine zA rfl rfl (zG (v := .int .i64 x442) rfl) ?_
   refine (zI (zB (And.intro ?_ ?_)))
   ·repeat' (first | with_reducible exact zN | refine zV rfl ?_ | refine zO rfl rfl ?_)
   exact ⟨(n361, x442), (zK rfl zQ), ⟨H.pick [0, 1] (by decide), hF⟩, Nat.lt_succ_self _⟩
  have hF := zX c367 hF
  refine (xB (yN (yN (yR (zB (And.intro ?_ ?_))))))
  ·repeat' (first | with_reducible exact zN | refine zV rfl ?_ | refine zO rfl rfl ?_)
  exact ⟨(), zQ, ⟨H.pick [] (by decide), hF⟩⟩
 rintro _ ρ w183 ⟨H, hF⟩
 have hF := xZ ek185 hF
 refine zD fun K444 hK444 => ?_
 refine zC ?_
 refine zA rfl rfl (zF (v := .pointer none) rfl) ?_
 refine (zI (zB (hK444 _ _ ?_)))
 have H := H.fz (.pt rTrack none none) rfl
 have hR := Option.some.inj hF
 subst hR
 refine (yG (post1 (v1 := .pointer none) rfl rfl ?_))
 exact ⟨none, rfl, H.pick [0] (by decide)⟩
end Go.Proofs.YtbjhondbheijiaaGreatDoor.L
namespace Go.Proofs.YtbjhondbheijiaaGreatDoor.L
open Go.RowKit Go.OB Go.Lf
/- orangebox/fleet.peak -/
set_option maxHeartbeats 4000000 in
theorem F_fleet_peak_w (p0 : Flight) (p1 : Str) (v1 : Value) (r : Int × Bool) (hF : F_fleet_peak p0 p1 = some r) (O S : List Nat) (w : World) (H : Hd O w w S [.fz (.sl rTrack v1 p0.Tracks)]) :
  Calls Tryz.prog 30 ([.agg [.string (bs p0.Tail), .string (bs p0.Route), .int .i64 p0.Day, .int .i64 p0.From, .int .i64 p0.To, v1].toArray, .string (bs p1)] : List Value).toArray w fun e w' => e = .returned (.tuple #[.int .i64 r.1, .bool r.2]) ∧ Hd O w w' S [] := by
 unfold F_fleet_peak at hF
 refine yB 56 Tryz.func30 rfl rfl rfl ?_
 refine zD fun K3 hK3 => ?_
 refine zC ?_
 refine xE rfl rfl (Lx_box (cs := [.string (bs p0.Tail), .string (bs p0.Route), .int .i64 p0.Day, .int .i64 p0.From, .int .i64 p0.To, v1]) rfl H) ?_
 rintro _ w6 ⟨b4, rfl, H⟩
 refine zA rfl rfl (zF (v := .int .i64 0) rfl) ?_
 refine zA rfl rfl (zF (v := .bool false) rfl) ?_
 refine (zI (zB (hK3 _ _ ?_)))
 refine zD fun K7 hK7 => ?_
 refine zC ?_
 refine zA rfl rfl (zT (yV (cs := [.string (bs p0.Tail), .string (bs p0.Route), .int .i64 p0.Day, .int .i64 p0.From, .int .i64 p0.To, v1]) agg70 rfl sz70 rfl (Blk.cells (H.item (i := 1) rfl))) rfl) ?_
 refine zA rfl rfl (zG (v := .string (bs p1)) rfl) ?_
 obtain ⟨x8, e9, hF⟩ := zJ hF
 refine yJ rfl rfl (yC en31 rfl) (F_fleet_trackOf_w p0 p1 v1 _ e9 _ _ _ (H.enter [] [0] (by decide) rfl)) ?_
 rintro _ w12 ⟨v10, rfl, G13⟩
 have H := H.back1 [0] rfl G13
 refine ⟨_, rfl, ?_⟩
 refine zA rfl rfl (zF (v := .pointer v10) rfl) ?_
 refine (zI (zB (hK7 _ _ ?_)))
 refine zD fun K19 hK19 => ?_
 refine zD fun K20 hK20 => ?_
 refine zC ?_
 refine zA rfl rfl (zG (v := .pointer v10) rfl) ?_
 obtain ⟨x21, e22, hF⟩ := zH hF
 refine zA rfl rfl (zT (Do_eqlnilp (pv := v10) u79 rfl rfl) (congrArg Value.bool ((congrArg (fun b => b) (PtF.isNone (H.item (i := 2) rfl))).trans e22))) ?_
 refine (zI (zB (hK20 _ _ ?_)))
 refine yF (b := x21) rfl (fun c23 => ?_) (fun c23 => ?_)
 ·have hF := zW c23 hF
  refine zD fun K24 hK24 => ?_
  refine zC ?_
  refine zA rfl rfl (zF (v := .int .i64 0) rfl) ?_
  refine zA rfl rfl (zF (v := .bool false) rfl) ?_
  refine (zI (zB (hK24 _ _ ?_)))
  have hR := Option.some.inj hF
  subst hR
  refine (yG (zZ (post2 (v1 := .int .i64 0) (v2 := .bool false) rfl rfl rfl ?_)))
  exact ⟨rfl, H.pick [] (by decide)⟩
 have hF := zX c23 hF
 refine (yA (zB (hK19 _ _ ?_)))
 refine zD fun K25 hK25 => ?_
 refine zC ?_
 refine zA rfl rfl (zF (v := .int .i64 0) rfl) ?_
 refine zA rfl rfl (zF (v := .bool false) rfl) ?_
 refine (zI (zB (hK25 _ _ ?_)))
 obtain ⟨j219, hF, hK218⟩ := zJ hF
 refine yL [7, 8, 10, 16, 17, 18, 19, 20, 21, 22, 23, 24, 25, 26, 27, 28, 29, 30, 31, 32, 33, 34, 35, 36, 37, 38, 39, 40, 41, 42, 43, 44, 45, 46, 47, 48, 49, 50, 51, 52, 53] (fun (g : Unit) => [(7, .int .i64 j219.1), (8, .bool j219.2)]) (fun g wl => Hd O w wl S []) ?_ ?_
 ·skip
  refine zD fun K220 hK220 => ?_
  refine zC ?_
  refine zA rfl rfl (zG (v := .pointer v10) rfl) ?_
  obtain ⟨x221, e222, hF⟩ := zJ hF
  obtain ⟨b223, o224, cs225, q226, h227, h228, h229, h230⟩ := ptf_some ((H.item (i := 2) rfl) : PtF _ _ _ _ _) e222
  obtain ⟨v231, rfl, h232⟩ := rTrack_open h229
  have H := H.fzs [.at b223 o224 _, .sl rSample v231 x221.Series.Samples] ⟨⟨h227, h228, h230⟩, h232, trivial⟩
  refine zA rfl rfl (Do_nilCheck (ad := ⟨b223, o224, none⟩) (congrArg Value.pointer q226)) ?_
  refine zA rfl rfl (fa78_1 rfl) ?_
  refine zA rfl rfl (fa76_1 rfl) ?_
  refine zA rfl rfl (zU one74 rfl (Cells.get (H.item (i := 3) rfl).2.2 (i := 2) rfl)) ?_
  obtain ⟨x235, e236, hF⟩ := zH hF
  obtain ⟨a237, c238, q239⟩ := SlF.len ((H.item (i := 4) rfl))
  refine zA rfl rfl (zT (xI u74 q239) (congrArg (Value.int .i64) e236)) ?_
  refine zA rfl rfl (zG (v := .int .i64 0) rfl) ?_
  refine (zI (zB (hK220 _ _ ?_)))
  refine yK ?_
  unfold F_fleet_peak_L1 at hF
  obtain ⟨B406, n407, eB408, hF⟩ := yT hF
  refine xC [7, 8, 10, 22, 23, 24, 25, 26, 27, 28, 29, 30, 31, 32, 33, 34, 35, 36, 37, 38, 39, 40, 41, 42, 43, 44, 45, 46, 47, 48, 49, 50, 51, 52, 53] (fun (g : Nat × Int × Bool × Int) => [(7, .int .i64 g.2.1), (8, .bool g.2.2.1), (22, .int .i64 g.2.2.2)]) (fun g wl => Hd O w wl S [.blk b4 [.string (bs p0.Tail), .string (bs p0.Route), .int .i64 p0.Day, .int .i64 p0.From, .int .i64 p0.To, v1] 70, .fz (.sl rTrack v1 p0.Tracks), .fz (.sl rSample v231 x221.Series.Samples)] ∧ loopN B406 g.1 (g.2.1, g.2.2.1, g.2.2.2) = some j219) (fun g => g.1) (n407, 0, false, 0) (zK rfl (zK rfl (zK rfl zQ))) ⟨H.pick [1, 0, 4] (by decide), hF⟩ ?_
  clear H hF
  rintro ⟨n407, g403, g404, g405⟩ ρ w410 ⟨H, hF⟩
  obtain ⟨n411, rfl, hF⟩ := yX hF
  have hF := yY eB408 hF
  refine zD fun K412 hK412 => ?_
  refine zC ?_
  obtain ⟨x413, e414, hF⟩ := zH hF
  refine zA rfl rfl (zT (xK (a := g405) (b := x235) rfl rfl) (congrArg Value.bool e414)) ?_
  refine (zI (zB (hK412 _ _ ?_)))
  refine zD fun K416 hK416 => ?_
  refine yF (b := x413) rfl (fun c417 => ?_) (fun c417 => ?_)
  ·have hF := zW c417 hF
   refine (yA (zB (hK416 _ _ ?_)))
   obtain ⟨j493, hF, hK492⟩ := zJ hF
   refine yL [7, 8, 10, 24, 25, 26, 27, 28, 29, 30, 31, 32, 33, 34, 35, 36, 37, 38, 39, 40, 41, 42, 43, 44, 45, 46, 47, 48, 49, 50, 51, 52] (fun (g : Unit) => [(7, .int .i64 j493.1), (8, .bool j493.2)]) (fun g wl => Hd O w wl S [.blk b4 [.string (bs p0.Tail), .string (bs p0.Route), .int .i64 p0.Day, .int .i64 p0.From, .int .i64 p0.To, v1] 70, .fz (.sl rTrack v1 p0.Tracks), .fz (.sl rSample v231 x221.Series.Samples)]) ?_ ?_
   ·skip
    refine yK ?_
    refine zD fun K494 hK494 => ?_
    refine zC ?_
    obtain ⟨x495, e496, hF⟩ := zJ hF
    obtain ⟨b497, o498, c499, cs500, q501, h504, h502, h503, h505⟩ := wB (H.item (i := 2) rfl) e496
    obtain rfl := rSample_open h504
    have H := H.fz (.at b497 (o498 + g405.toNat * 3) _) ⟨h502, h503, h505⟩
    refine zA rfl rfl (xG u74 sz109 q501 rfl (yD e496).1 (yD e496).2.1 rfl rfl) ?_
    refine zA rfl rfl (zT (yV (cs := [.int .i64 x495.At, .int .i64 x495.N, .int .i64 x495.Mark]) agg109 rfl sz109 rfl (H.item (i := 3) rfl).2.2) rfl) ?_
    refine xE rfl rfl (xR zero109 H) ?_
    rintro _ w509 ⟨b507, rfl, H⟩
    refine xO rfl (xA (vs := [.int .i64 x495.At, .int .i64 x495.N, .int .i64 x495.Mark]) H 4 rfl sz109 rfl rfl rfl ⟨rfl, rfl, rfl, trivial⟩ rfl) ?_
    rintro w510 H
    refine (zI (zB (hK494 _ _ ?_)))
    refine zD fun K533 hK533 => ?_
    obtain ⟨g552, hF, hK554⟩ := zJ hF
    refine yL [26, 27, 28, 29, 30, 31, 32, 33, 34, 35, 36, 37, 38, 39, 40, 41, 42] (fun (g : Unit) => [(42, .bool g552)]) (fun g wl => Hd O w wl S [.blk b4 [.string (bs p0.Tail), .string (bs p0.Route), .int .i64 p0.Day, .int .i64 p0.From, .int .i64 p0.To, v1] 70, .fz (.sl rTrack v1 p0.Tracks), .fz (.sl rSample v231 x221.Series.Samples), .blk b507 [.int .i64 x495.At, .int .i64 x495.N, .int .i64 x495.Mark] 109]) ?_ ?_
    ·skip
     refine zC ?_
     refine zA rfl rfl (fa109_2 rfl) ?_
     refine zA rfl rfl (zU one3 rfl (Cells.get (Blk.cells (H.item (i := 4) rfl)) (i := 2) rfl)) ?_
     obtain ⟨x555, e556, hF⟩ := zH hF
     refine zA rfl rfl (zT (xK (a := x495.Mark) (b := 3) rfl rfl) (congrArg Value.bool e556)) ?_
     refine yO (b := x555) rfl rfl rfl (fun c557 => ?_) (fun c557 => ?_)
     ·have hF := zW c557 hF
      refine zM rfl rfl ?_
      refine zM rfl rfl ?_
      refine zM rfl rfl ?_
      refine zM rfl rfl ?_
      refine zM rfl rfl ?_
      refine zM rfl rfl ?_
      refine zM rfl rfl ?_
      refine zM rfl rfl ?_
      refine zM rfl rfl ?_
      refine zM rfl rfl ?_
      refine zM rfl rfl ?_
      refine zM rfl rfl ?_
      refine zA rfl rfl (yI (v := .bool true) rfl rfl) ?_
      have hR := Option.some.inj hF
      subst hR
      refine (zI (zB (And.intro ?_ ?_)))
      ·repeat' (first | with_reducible exact zN | refine zV rfl ?_ | refine zO rfl rfl ?_)
      exact ⟨(), (zK rfl zQ), H.pick [0, 1, 2, 4] (by decide)⟩
     have hF := zX c557 hF
     refine zA rfl rfl (fa109_0 rfl) ?_
     refine zA rfl rfl (zU one3 rfl (Cells.get (Blk.cells (H.item (i := 4) rfl)) (i := 0) rfl)) ?_
     refine zA rfl rfl (fa70_3 rfl) ?_
     refine zA rfl rfl (zU one3 rfl (Cells.get (Blk.cells (H.item (i := 0) rfl)) (i := 3) rfl)) ?_
     obtain ⟨x558, e559, hF⟩ := zH hF
     refine zA rfl rfl (Do_mul (a := 64) (b := p0.From) rfl rfl e559) ?_
     refine zA rfl rfl (fa70_4 rfl) ?_
     refine zA rfl rfl (zU one3 rfl (Cells.get (Blk.cells (H.item (i := 0) rfl)) (i := 4) rfl)) ?_
     obtain ⟨x560, e561, hF⟩ := zH hF
     refine zA rfl rfl (Do_mul (a := 64) (b := p0.To) rfl rfl e561) ?_
     obtain ⟨x562, e563, hF⟩ := zH hF
     refine zA rfl rfl (xJ (a := x560) (b := 64) rfl rfl e563) ?_
     obtain ⟨x564, e565, hF⟩ := zH hF
     refine zA rfl rfl (Do_sub (a := x562) (b := 1) rfl rfl e565) ?_
     have H566 := H
     obtain ⟨x567, e568, hF⟩ := zJ hF
     refine yJ rfl rfl (yC en21 rfl) (F_fleet_within_w x495.At x558 x564 _ e568 _ _ _ (H.enter [] [] (by decide) rfl)) ?_
     rintro _ w569 ⟨rfl, G570⟩
     have H := H566.step (G570.only : Only [] _ _)
     refine ⟨_, rfl, ?_⟩
     obtain ⟨x571, e572, hF⟩ := zH hF
     refine zA rfl rfl (zT (xY (p := x567) rfl) (congrArg Value.bool e572)) ?_
     refine zA rfl rfl (yH (v := .bool x571) rfl rfl) ?_
     have hR := Option.some.inj hF
     subst hR
     refine (zI (zB (And.intro ?_ ?_)))
     ·repeat' (first | with_reducible exact zN | refine zV rfl ?_ | refine zO rfl rfl ?_)
     exact ⟨(), (zK rfl zQ), H.pick [0, 1, 2, 4] (by decide)⟩
    rintro _ ρ w553 H
    have hF := hK554
    refine yF (b := g552) rfl (fun c573 => ?_) (fun c573 => ?_)
    ·have hF := zW c573 hF
     have hR := Option.some.inj hF
     subst hR
     refine (xB (yN (yR (zB (And.intro ?_ ?_)))))
     ·repeat' (first | with_reducible exact zN | refine zV rfl ?_ | refine zO rfl rfl ?_)
     exact ⟨(), (zK rfl (zK rfl zQ)), H.pick [0, 1, 2] (by decide)⟩
    have hF := zX c573 hF
    refine (yA (zB (hK533 _ _ ?_)))
    obtain ⟨g579, hF, hK581⟩ := zJ hF
    refine yL [43, 44, 45, 46, 47, 48, 49, 50] (fun (g : Unit) => [(50, .bool g579)]) (fun g wl => Hd O w wl S [.blk b4 [.string (bs p0.Tail), .string (bs p0.Route), .int .i64 p0.Day, .int .i64 p0.From, .int .i64 p0.To, v1] 70, .fz (.sl rTrack v1 p0.Tracks), .fz (.sl rSample v231 x221.Series.Samples), .blk b507 [.int .i64 x495.At, .int .i64 x495.N, .int .i64 x495.Mark] 109]) ?_ ?_
    ·skip
     refine zC ?_
     refine zA rfl rfl (zG (v := .bool g404) rfl) ?_
     obtain ⟨x582, e583, hF⟩ := zH hF
     refine zA rfl rfl (zT (xY (p := g404) rfl) (congrArg Value.bool e583)) ?_
     refine yO (b := x582) rfl rfl rfl (fun c584 => ?_) (fun c584 => ?_)
     ·have hF := zW c584 hF
      refine zM rfl rfl ?_
      refine zM rfl rfl ?_
      refine zM rfl rfl ?_
      refine zM rfl rfl ?_
      refine zA rfl rfl (yI (v := .bool true) rfl rfl) ?_
      have hR := Option.some.inj hF
      subst hR
      refine (zI (zB (And.intro ?_ ?_)))
      ·repeat' (first | with_reducible exact zN | refine zV rfl ?_ | refine zO rfl rfl ?_)
      exact ⟨(), (zK rfl zQ), H.pick [0, 1, 2, 3] (by decide)⟩
     have hF := zX c584 hF
     refine zA rfl rfl (fa109_1 rfl) ?_
     refine zA rfl rfl (zU one3 rfl (Cells.get (Blk.cells (H.item (i := 3) rfl)) (i := 1) rfl)) ?_
     refine zA rfl rfl (zG (v := .int .i64 g403) rfl) ?_
     obtain ⟨x585, e586, hF⟩ := zH hF
     refine zA rfl rfl (zT (wF (a := x495.N) (b := g403) rfl rfl) (congrArg Value.bool e586)) ?_
     refine zA rfl rfl (yH (v := .bool x585) rfl rfl) ?_
     have hR := Option.some.inj hF
     subst hR
     refine (zI (zB (And.intro ?_ ?_)))
     ·repeat' (first | with_reducible exact zN | refine zV rfl ?_ | refine zO rfl rfl ?_)
     exact ⟨(), (zK rfl zQ), H.pick [0, 1, 2, 3] (by decide)⟩
    rintro _ ρ w580 H
    have hF := hK581
    refine yF (b := g579) rfl (fun c587 => ?_) (fun c587 => ?_)
    ·have hF := zW c587 hF
     refine zC ?_
     refine zA rfl rfl (fa109_1 rfl) ?_
     refine zA rfl rfl (zU one3 rfl (Cells.get (Blk.cells (H.item (i := 3) rfl)) (i := 1) rfl)) ?_
     refine zA rfl rfl (zF (v := .int .i64 x495.N) rfl) ?_
     refine zA rfl rfl (zF (v := .bool true) rfl) ?_
     have hR := Option.some.inj hF
     subst hR
     refine (zI (yU (zB (And.intro ?_ ?_))))
     ·repeat' (first | with_reducible exact zN | refine zV rfl ?_ | refine zO rfl rfl ?_)
     exact ⟨(), (zK rfl (zK rfl zQ)), H.pick [0, 1, 2] (by decide)⟩
    have hF := zX c587 hF
    have hR := Option.some.inj hF
    subst hR
    refine (yA (yU (zB (And.intro ?_ ?_))))
    ·repeat' (first | with_reducible exact zN | refine zV rfl ?_ | refine zO rfl rfl ?_)
    exact ⟨(), (zK rfl (zK rfl zQ)), H.pick [0, 1, 2] (by decide)⟩
   rintro _ ρ w491 H
   have hF := hK492
   obtain ⟨g489, g490⟩ := j493
   refine zC ?_
   obtain ⟨x588, e589, hF⟩ := zH hF
   refine zA rfl rfl (xJ (a := g405) (b := 1) rfl rfl e589) ?_
   refine zA rfl rfl (zG (v := .int .i64 x588) rfl) ?_
   refine (zI (zB (And.intro ?_ ?_)))
   ·repeat' (first | with_reducible exact zN | refine zV rfl ?_ | refine zO rfl rfl ?_)
   exact ⟨(n411, g489, g490, x588), (zK rfl (zK rfl (zK rfl zQ))), ⟨H.pick [0, 1, 2] (by decide), hF⟩, Nat.lt_succ_self _⟩
  have hF := zX c417 hF
  have hR := Option.some.inj hF
  subst hR
  refine (xB (yN (yN (yR (zB (And.intro ?_ ?_))))))
  ·repeat' (first | with_reducible exact zN | refine zV rfl ?_ | refine zO rfl rfl ?_)
  exact ⟨(), (zK rfl (zK rfl zQ)), H.pick [] (by decide)⟩
 rintro _ ρ w217 H
 have hF := hK218
 obtain ⟨g215, g216⟩ := j219
 refine zD fun K590 hK590 => ?_
 refine zC ?_
 refine zA rfl rfl (zG (v := .int .i64 g215) rfl) ?_
 refine zA rfl rfl (zG (v := .bool g216) rfl) ?_
 refine zA rfl rfl (zF (v := .int .i64 g215) rfl) ?_
 refine zA rfl rfl (zF (v := .bool g216) rfl) ?_
 refine (zI (zB (hK590 _ _ ?_)))
 have hR := Option.some.inj hF
 subst hR
 refine (yG (post2 (v1 := .int .i64 g215) (v2 := .bool g216) rfl rfl rfl ?_))
 exact ⟨rfl, H.pick [] (by decide)⟩
end Go.Proofs.YtbjhondbheijiaaGreatDoor.L
namespace Go.Proofs.YtbjhondbheijiaaGreatDoor.L
open Go.RowKit Go.OB Go.Lf
/- orangebox/fleet.peaksOf$1 -/
set_option maxHeartbeats 4000000 in
theorem F_fleet_peaksOf_1_w (p0 : FleetPeaks) (c0 : Mask) (v1 : Value) (v2 : Value) (b5 : Nat) (v6 : Value) (v7 : Value) (r : Bool) (hF : F_fleet_peaksOf_1 p0 c0 = some r) (O S : List Nat) (w : World) (H : Hd O w w S [.blk b5 [.bool c0.Tails, .int .i64 c0.Days, v6, v7, .int .i64 c0.Least] 26, .fz (.sl (Rp.int .i64) v1 p0.l), .fz (.sl (Rp.int .i64) v2 p0.flights), .fz (.sl Rp.str v6 c0.Hide), .fz (.sl rGrain v7 c0.Grains)]) :
  Calls Tryz.prog 33 ([.agg [v1, v2, .int .i64 p0.den].toArray, .pointer (some ⟨b5, 0, none⟩)] : List Value).toArray w fun e w' => e = .returned (.bool r) ∧ Hd O w w' S [.blk b5 [.bool c0.Tails, .int .i64 c0.Days, v6, v7, .int .i64 c0.Least] 26] := by
 unfold F_fleet_peaksOf_1 at hF
 refine yB 10 Tryz.func33 rfl rfl rfl ?_
 refine zD fun K11 hK11 => ?_
 refine zC ?_
 refine xE rfl rfl (Lx_box (cs := [v1, v2, .int .i64 p0.den]) rfl H) ?_
 rintro _ w14 ⟨b12, rfl, H⟩
 refine zA rfl rfl (zF (v := .bool false) rfl) ?_
 refine (zI (zB (hK11 _ _ ?_)))
 refine zD fun K15 hK15 => ?_
 refine zC ?_
 refine zA rfl rfl (fa44_0 rfl) ?_
 refine zA rfl rfl (zU one33 rfl (Cells.get (Blk.cells (H.item (i := 5) rfl)) (i := 0) rfl)) ?_
 obtain ⟨x16, e17, hF⟩ := zH hF
 obtain ⟨a18, c19, q20⟩ := SlF.len ((H.item (i := 1) rfl))
 refine zA rfl rfl (zT (xI u33 q20) (congrArg (Value.int .i64) e17)) ?_
 refine zA rfl rfl (fa26_4 rfl) ?_
 refine zA rfl rfl (zU one3 rfl (Cells.get (Blk.cells (H.item (i := 0) rfl)) (i := 4) rfl)) ?_
 obtain ⟨x21, e22, hF⟩ := zH hF
 refine zA rfl rfl (zT (xK (a := x16) (b := c0.Least) rfl rfl) (congrArg Value.bool e22)) ?_
 refine zA rfl rfl (zF (v := .bool x21) rfl) ?_
 refine (zI (zB (hK15 _ _ ?_)))
 have hR := Option.some.inj hF
 subst hR
 refine (yG (post1 (v1 := .bool x21) rfl rfl ?_))
 exact ⟨rfl, H.pick [0] (by decide)⟩
end Go.Proofs.YtbjhondbheijiaaGreatDoor.L
namespace Go.Proofs.YtbjhondbheijiaaGreatDoor.L
open Go.RowKit Go.OB Go.Lf
/- slices.IndexFunc[[]orangebox/fleet.peaks,orangebox/fleet.peaks]@orangebox/fleet.peaksOf$1 -/
set_option maxHeartbeats 4000000 in
theorem F_slices_IndexFunc___fleet_peaks_fleet_peaks__fleet_peaksOf_1_w (p0 : List FleetPeaks) (p1c0 : Mask) (v1 : Value) (b3 : Nat) (v4 : Value) (v5 : Value) (r : Int) (hF : F_slices_IndexFunc___fleet_peaks_fleet_peaks__fleet_peaksOf_1 p0 p1c0 = some r) (O S : List Nat) (w : World) (H : Hd O w w S [.blk b3 [.bool p1c0.Tails, .int .i64 p1c0.Days, v4, v5, .int .i64 p1c0.Least] 26, .fz (.sl rFleetPeaks v1 p0), .fz (.sl Rp.str v4 p1c0.Hide), .fz (.sl rGrain v5 p1c0.Grains)]) :
  Calls Tryz.prog 59 ([v1, .func (.func 33) #[] [.pointer (some ⟨b3, 0, none⟩)].toArray] : List Value).toArray w fun e w' => e = .returned (.int .i64 r) ∧ Hd O w w' S [.blk b3 [.bool p1c0.Tails, .int .i64 p1c0.Days, v4, v5, .int .i64 p1c0.Least] 26] := by
 unfold F_slices_IndexFunc___fleet_peaks_fleet_peaks__fleet_peaksOf_1 at hF
 refine yB 19 Tryz.func59 rfl rfl rfl ?_
 refine zD fun K9 hK9 => ?_
 refine zC ?_
 refine zA rfl rfl (zF (v := .int .i64 0) rfl) ?_
 refine (zI (zB (hK9 _ _ ?_)))
 obtain ⟨k146, ek147, hF⟩ := xU hF
 refine yL [4, 5, 6, 7, 8, 9, 10, 11, 12, 13, 14, 15, 16, 17, 18] (fun (g : Unit) => []) (fun g wl => Hd O w wl S [.blk b3 [.bool p1c0.Tails, .int .i64 p1c0.Days, v4, v5, .int .i64 p1c0.Least] 26, .fz (.sl Rp.str v4 p1c0.Hide), .fz (.sl rGrain v5 p1c0.Grains)] ∧ k146 () = some r) ?_ ?_
 ·skip
  refine zD fun K148 hK148 => ?_
  refine zC ?_
  refine zA rfl rfl (zG (v := v1) rfl) ?_
  obtain ⟨x149, e150, hF⟩ := zH hF
  obtain ⟨a151, c152, q153⟩ := SlF.len ((H.item (i := 1) rfl))
  refine zA rfl rfl (zT (xI u38 q153) (congrArg (Value.int .i64) e150)) ?_
  refine zA rfl rfl (zG (v := .int .i64 0) rfl) ?_
  refine (zI (zB (hK148 _ _ ?_)))
  refine yK ?_
  unfold F_slices_IndexFunc___fleet_peaks_fleet_peaks__fleet_peaksOf_1_L1 at hF
  obtain ⟨B278, n279, eB280, hF⟩ := yT hF
  refine xC [4, 5, 8, 9, 10, 11, 12, 13, 14, 15, 16, 17, 18] (fun (g : Nat × Int) => [(8, .int .i64 g.2)]) (fun g wl => Hd O w wl S [.blk b3 [.bool p1c0.Tails, .int .i64 p1c0.Days, v4, v5, .int .i64 p1c0.Least] 26, .fz (.sl Rp.str v4 p1c0.Hide), .fz (.sl rGrain v5 p1c0.Grains), .fz (.sl rFleetPeaks v1 p0)] ∧ loopN B278 g.1 g.2 = some r) (fun g => g.1) (n279, 0) (zK rfl zQ) ⟨H.pick [0, 2, 3, 1] (by decide), hF⟩ ?_
  clear H hF
  rintro ⟨n279, g277⟩ ρ w282 ⟨H, hF⟩
  obtain ⟨n283, rfl, hF⟩ := yX hF
  have hF := yY eB280 hF
  refine zD fun K284 hK284 => ?_
  refine zC ?_
  obtain ⟨x285, e286, hF⟩ := zH hF
  refine zA rfl rfl (zT (xK (a := g277) (b := x149) rfl rfl) (congrArg Value.bool e286)) ?_
  refine (zI (zB (hK284 _ _ ?_)))
  refine zD fun K288 hK288 => ?_
  refine yF (b := x285) rfl (fun c289 => ?_) (fun c289 => ?_)
  ·have hF := zW c289 hF
   refine (yA (zB (hK288 _ _ ?_)))
   refine zD fun K316 hK316 => ?_
   refine yK ?_
   refine zD fun K317 hK317 => ?_
   refine zC ?_
   refine zA rfl rfl (zG (v := .int .i64 g277) rfl) ?_
   refine zA rfl rfl (zF (v := .int .i64 g277) rfl) ?_
   refine (zI (zB (hK317 _ _ ?_)))
   refine zD fun K318 hK318 => ?_
   refine zC ?_
   refine zA rfl rfl (zG (v := .func (.func 33) #[] [.pointer (some ⟨b3, 0, none⟩)].toArray) rfl) ?_
   refine zA rfl rfl (zG (v := v1) rfl) ?_
   refine zA rfl rfl (zG (v := .int .i64 g277) rfl) ?_
   obtain ⟨x319, e320, hF⟩ := zJ hF
   obtain ⟨b321, o322, c323, cs324, q325, h328, h326, h327, h329⟩ := wB (H.item (i := 3) rfl) e320
   obtain ⟨v330, v331, rfl, h332, h333⟩ := rFleetPeaks_open h328
   have H := H.fzs [.at b321 (o322 + g277.toNat * 3) _, .sl (Rp.int .i64) v330 x319.l, .sl (Rp.int .i64) v331 x319.flights] ⟨⟨h326, h327, h329⟩, h332, h333, trivial⟩
   refine zA rfl rfl (xG u38 sz44 q325 rfl (yD e320).1 (yD e320).2.1 rfl rfl) ?_
   refine zA rfl rfl (zT (yV (cs := [v330, v331, .int .i64 x319.den]) agg44 rfl sz44 rfl (H.item (i := 4) rfl).2.2) rfl) ?_
   obtain ⟨x337, e338, hF⟩ := zJ hF
   refine yJ rfl rfl (DoC_clo en33 rfl rfl) (F_fleet_peaksOf_1_w x319 p1c0 v330 v331 b3 v4 v5 _ e338 _ _ _ (H.enter [0] [5, 6, 1, 2] (by decide) rfl)) ?_
   rintro _ w339 ⟨rfl, G340⟩
   have H : Hd O _ w339 _ [.fz (.sl Rp.str v4 p1c0.Hide), .fz (.sl rGrain v5 p1c0.Grains), .fz (.sl rFleetPeaks v1 p0), .fz (.at b321 (o322 + g277.toNat * 3) [v330, v331, .int .i64 x319.den]), .fz (.sl (Rp.int .i64) v330 x319.l), .fz (.sl (Rp.int .i64) v331 x319.flights), .blk b3 [.bool p1c0.Tails, .int .i64 p1c0.Days, v4, v5, .int .i64 p1c0.Least] 26] := H.back [0] [5, 6, 1, 2] rfl G340
   refine ⟨_, rfl, ?_⟩
   refine (zI (zB (hK318 _ _ ?_)))
   refine yF (b := x337) rfl (fun c341 => ?_) (fun c341 => ?_)
   ·have hF := zW c341 hF
    refine zD fun K342 hK342 => ?_
    refine zC ?_
    refine zA rfl rfl (zG (v := .int .i64 g277) rfl) ?_
    refine zA rfl rfl (zF (v := .int .i64 g277) rfl) ?_
    refine (zI (zB (hK342 _ _ ?_)))
    have hR := Option.some.inj hF
    subst hR
    refine (yG (yM (zZ (zZ (yM (zZ (post1 (v1 := .int .i64 g277) rfl rfl ?_)))))))
    exact ⟨rfl, H.pick [6] (by decide)⟩
   have hF := zX c341 hF
   refine (yA (yU (zB (hK316 _ _ ?_))))
   refine zC ?_
   obtain ⟨x343, e344, hF⟩ := zH hF
   refine zA rfl rfl (xJ (a := g277) (b := 1) rfl rfl e344) ?_
   refine zA rfl rfl (zG (v := .int .i64 x343) rfl) ?_
   refine (zI (zB (And.intro ?_ ?_)))
   ·repeat' (first | with_reducible exact zN | refine zV rfl ?_ | refine zO rfl rfl ?_)
   exact ⟨(n283, x343), (zK rfl zQ), ⟨H.pick [6, 0, 1, 2] (by decide), hF⟩, Nat.lt_succ_self _⟩
  have hF := zX c289 hF
  refine (xB (yN (yN (yR (zB (And.intro ?_ ?_))))))
  ·repeat' (first | with_reducible exact zN | refine zV rfl ?_ | refine zO rfl rfl ?_)
  exact ⟨(), zQ, ⟨H.pick [0, 1, 2] (by decide), hF⟩⟩
 rintro _ ρ w145 ⟨H, hF⟩
 have hF := xZ ek147 hF
 refine zD fun K345 hK345 => ?_
 refine zC ?_
 refine zA rfl rfl (zF (v := .int .i64 (-1)) rfl) ?_
 refine (zI (zB (hK345 _ _ ?_)))
 have hR := Option.some.inj hF
 subst hR
 refine (yG (post1 (v1 := .int .i64 (-1)) rfl rfl ?_))
 exact ⟨rfl, H.pick [0] (by decide)⟩
end Go.Proofs.YtbjhondbheijiaaGreatDoor.L
