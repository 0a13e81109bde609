/- Walks: what each function computes, for every argument; no condition but those that stand in the statements. -/
import Derived.Test.YtnajnkghilemhaaGreatDoorVV0
namespace Go.Proofs.YtnajnkghilemhaaGreatDoor.L
open Go.RowKit Go.OB Go.Lf
/- orangebox/series.check -/
set_option maxHeartbeats 4000000 in
set_option maxRecDepth 100000 in
theorem F_series_check_w (p0 : Series) (v1 : Value) (r : Int × Int) (hF : F_series_check p0 = some r) (O S : List Nat) (w : World) (H : Hd O w w S [.fz (.sl rSample v1 p0.Samples)]) :
  Calls Tryz.prog 122 ([.agg [.int .i64 p0.Den, v1].toArray] : List Value).toArray w fun e w' => e = .returned (.tuple #[.int .i64 r.1, .int .i64 r.2]) ∧ Hd O w w' S [] := by
 unfold F_series_check at hF
 refine yD 67 Tryz.func122 rfl rfl rfl ?_
 refine zD fun K3 hK3 => ?_
 refine zC ?_
 refine yY rfl rfl (Lx_box (cs := [.int .i64 p0.Den, v1]) rfl H) ?_
 rintro _ w6 ⟨b4, rfl, H⟩
 refine zA rfl rfl (zG (v := .int .i64 0) rfl) ?_
 refine zA rfl rfl (zG (v := .int .i64 0) rfl) ?_
 refine (zJ (zB (hK3 _ _ ?_)))
 refine zD fun K17 hK17 => ?_
 refine zD fun K18 hK18 => ?_
 refine zC ?_
 refine zA rfl rfl (fa35_0 rfl) ?_
 refine zA rfl rfl (zL one3 rfl (Cells.get (Blk.cells (H.item (i := 1) rfl)) (i := 0) rfl)) ?_
 have H19 := H
 obtain ⟨x20, e21, hF⟩ := zI hF
 refine yA rfl rfl (zX en159 rfl) (F_series_within_w p0.Den 1 1000000 _ e21 _ _ _ (H.enter [] [] (by decide) rfl)) ?_
 rintro _ w22 ⟨rfl, G23⟩
 have H := H19.step (G23.only : Only [] _ _)
 refine ⟨_, rfl, ?_⟩
 obtain ⟨x24, e25, hF⟩ := zF hF
 refine zA rfl rfl (zM (yS (p := x20) rfl) (congrArg Value.bool e25)) ?_
 refine (zJ (zB (hK18 _ _ ?_)))
 refine yH (b := x24) rfl (fun c26 => ?_) (fun c26 => ?_)
 ·have hF := zV c26 hF
  refine zD fun K27 hK27 => ?_
  refine zC ?_
  refine zA rfl rfl (zG (v := .int .i64 (-1)) rfl) ?_
  refine zA rfl rfl (zG (v := .int .i64 9) rfl) ?_
  refine (zJ (zB (hK27 _ _ ?_)))
  have hR := Option.some.inj hF
  subst hR
  refine (yG (yC (post2 (v1 := .int .i64 (-1)) (v2 := .int .i64 9) rfl rfl rfl ?_)))
  exact ⟨rfl, H.pick [] (by decide)⟩
 have hF := zW c26 hF
 refine (yI (zB (hK17 _ _ ?_)))
 refine zD fun K38 hK38 => ?_
 refine zD fun K39 hK39 => ?_
 refine zC ?_
 refine zA rfl rfl (fa35_1 rfl) ?_
 refine zA rfl rfl (zL one33 rfl (Cells.get (Blk.cells (H.item (i := 1) rfl)) (i := 1) rfl)) ?_
 obtain ⟨x40, e41, hF⟩ := zF hF
 obtain ⟨a42, c43, q44⟩ := SlF.len ((H.item (i := 0) rfl))
 refine zA rfl rfl (zM (xA u33 q44) (congrArg (Value.int .i64) e41)) ?_
 obtain ⟨x45, e46, hF⟩ := zF hF
 refine zA rfl rfl (zM (Do_gtr (a := x40) (b := 20000) rfl rfl) (congrArg Value.bool e46)) ?_
 refine (zJ (zB (hK39 _ _ ?_)))
 refine yH (b := x45) rfl (fun c47 => ?_) (fun c47 => ?_)
 ·have hF := zV c47 hF
  refine zD fun K48 hK48 => ?_
  refine zC ?_
  refine zA rfl rfl (zG (v := .int .i64 (-1)) rfl) ?_
  refine zA rfl rfl (zG (v := .int .i64 3) rfl) ?_
  refine (zJ (zB (hK48 _ _ ?_)))
  have hR := Option.some.inj hF
  subst hR
  refine (yG (yC (post2 (v1 := .int .i64 (-1)) (v2 := .int .i64 3) rfl rfl rfl ?_)))
  exact ⟨rfl, H.pick [] (by decide)⟩
 have hF := zW c47 hF
 refine (yI (zB (hK38 _ _ ?_)))
 obtain ⟨k413, ek414, hF⟩ := wC hF
 refine yQ [2, 3, 4, 5, 14, 15, 16, 17, 18, 19, 20, 21, 22, 23, 24, 25, 26, 27, 28, 29, 30, 31, 32, 33, 34, 35, 36, 37, 38, 39, 40, 41, 42, 43, 44, 45, 46, 47, 48, 49, 50, 51, 52, 53, 54, 55, 56, 57, 58, 59, 60, 61, 62, 63, 64, 65, 66] (fun (g : Unit) => []) (fun g wl => Hd O w wl S [] ∧ k413 () = some r) ?_ ?_
 ·skip
  refine zD fun K415 hK415 => ?_
  refine zC ?_
  refine zA rfl rfl (fa35_1 rfl) ?_
  refine zA rfl rfl (zL one33 rfl (Cells.get (Blk.cells (H.item (i := 1) rfl)) (i := 1) rfl)) ?_
  obtain ⟨x416, e417, hF⟩ := zF hF
  obtain ⟨a418, c419, q420⟩ := SlF.len ((H.item (i := 0) rfl))
  refine zA rfl rfl (zM (xA u33 q420) (congrArg (Value.int .i64) e417)) ?_
  refine zA rfl rfl (zK (v := .int .i64 0) rfl) ?_
  refine (zJ (zB (hK415 _ _ ?_)))
  refine yM ?_
  unfold F_series_check_L1 at hF
  obtain ⟨B773, n774, eB775, hF⟩ := yZ hF
  refine xN [2, 3, 4, 5, 17, 18, 19, 20, 21, 22, 23, 24, 25, 26, 27, 28, 29, 30, 31, 32, 33, 34, 35, 36, 37, 38, 39, 40, 41, 42, 43, 44, 45, 46, 47, 48, 49, 50, 51, 52, 53, 54, 55, 56, 57, 58, 59, 60, 61, 62, 63, 64, 65, 66] (fun (g : Nat × Int) => [(17, .int .i64 g.2)]) (fun g wl => Hd O w wl S [.fz (.sl rSample v1 p0.Samples), .blk b4 [.int .i64 p0.Den, v1] 35] ∧ loopN B773 g.1 g.2 = some r) (fun g => g.1) (n774, 0) (zQ rfl zU) ⟨H.pick [0, 1] (by decide), hF⟩ ?_
  clear H hF
  rintro ⟨n774, g772⟩ ρ w777 ⟨H, hF⟩
  obtain ⟨n778, rfl, hF⟩ := xH hF
  have hF := xG eB775 hF
  refine zD fun K779 hK779 => ?_
  refine zC ?_
  obtain ⟨x780, e781, hF⟩ := zF hF
  refine zA rfl rfl (zM (xZ (a := g772) (b := x416) rfl rfl) (congrArg Value.bool e781)) ?_
  refine (zJ (zB (hK779 _ _ ?_)))
  refine zD fun K783 hK783 => ?_
  refine yH (b := x780) rfl (fun c784 => ?_) (fun c784 => ?_)
  ·have hF := zV c784 hF
   refine (yI (zB (hK783 _ _ ?_)))
   refine zD fun K868 hK868 => ?_
   refine yM ?_
   refine zD fun K869 hK869 => ?_
   refine zC ?_
   refine zA rfl rfl (zK (v := .int .i64 g772) rfl) ?_
   obtain ⟨x870, e871, hF⟩ := zI hF
   obtain ⟨b872, o873, c874, cs875, q876, h879, h877, h878, h880⟩ := rd_at (H.item (i := 0) rfl) e871
   obtain rfl := rSample_open h879
   have H := H.fz (.at b872 (o873 + g772.toNat * 3) _) ⟨h877, h878, h880⟩
   refine zA rfl rfl (xY u33 sz40 q876 rfl (yP e871).1 (yP e871).2.1 rfl rfl) ?_
   refine zA rfl rfl (zM (yT (cs := [.int .i64 x870.At, .int .i64 x870.N, .int .i64 x870.Mark]) agg40 rfl sz40 rfl (H.item (i := 2) rfl).2.2) rfl) ?_
   refine yY rfl rfl (xJ zero40 H) ?_
   rintro _ w884 ⟨b882, rfl, H⟩
   refine zA rfl rfl (zG (v := .int .i64 g772) rfl) ?_
   refine yV rfl (yN (vs := [.int .i64 x870.At, .int .i64 x870.N, .int .i64 x870.Mark]) H 3 rfl sz40 rfl rfl rfl ⟨rfl, rfl, rfl, trivial⟩ rfl) ?_
   rintro w885 H
   refine (zJ (zB (hK869 _ _ ?_)))
   refine yM ?_
   obtain ⟨g909, hF, hK911⟩ := zI hF
   refine yQ [22, 23, 24, 25, 26, 27, 28, 29, 30, 31, 32, 33, 34, 35, 36, 37, 38] (fun (g : Unit) => [(22, .bool g909)]) (fun g wl => Hd O w wl S [.fz (.sl rSample v1 p0.Samples), .blk b4 [.int .i64 p0.Den, v1] 35, .blk b882 [.int .i64 x870.At, .int .i64 x870.N, .int .i64 x870.Mark] 40]) ?_ ?_
   ·skip
    refine zC ?_
    refine zA rfl rfl (fa40_0 rfl) ?_
    refine zA rfl rfl (zL one3 rfl (Cells.get (Blk.cells (H.item (i := 3) rfl)) (i := 0) rfl)) ?_
    have H912 := H
    obtain ⟨x913, e914, hF⟩ := zI hF
    refine yA rfl rfl (zX en159 rfl) (F_series_within_w x870.At 0 1099511627776 _ e914 _ _ _ (H.enter [] [] (by decide) rfl)) ?_
    rintro _ w915 ⟨rfl, G916⟩
    have H := H912.step (G916.only : Only [] _ _)
    refine ⟨_, rfl, ?_⟩
    obtain ⟨x917, e918, hF⟩ := zF hF
    refine zA rfl rfl (zM (yS (p := x913) rfl) (congrArg Value.bool e918)) ?_
    refine yE (b := x917) rfl rfl rfl (fun c919 => ?_) (fun c919 => ?_)
    ·have hF := zV c919 hF
     refine zH rfl rfl ?_
     refine zH rfl rfl ?_
     refine zH rfl rfl ?_
     refine zH rfl rfl ?_
     refine zA rfl rfl (zY (v := .bool true) rfl rfl) ?_
     refine zA rfl rfl (zK (v := .bool true) rfl) ?_
     refine zH rfl rfl ?_
     refine zH rfl rfl ?_
     refine zH rfl rfl ?_
     refine zH rfl rfl ?_
     refine zA rfl rfl (zY (v := .bool true) rfl rfl) ?_
     refine zA rfl rfl (zG (v := .bool true) rfl) ?_
     have hR := Option.some.inj hF
     subst hR
     refine (zJ (zB (And.intro ?_ ?_)))
     ·repeat' (first | with_reducible exact zS | refine zZ rfl ?_ | refine zT rfl rfl ?_)
     exact ⟨(), (zQ rfl zU), H.pick [0, 1, 3] (by decide)⟩
    have hF := zW c919 hF
    refine zA rfl rfl (fa40_1 rfl) ?_
    refine zA rfl rfl (zL one3 rfl (Cells.get (Blk.cells (H.item (i := 3) rfl)) (i := 1) rfl)) ?_
    have H920 := H
    obtain ⟨x921, e922, hF⟩ := zI hF
    refine yA rfl rfl (zX en159 rfl) (F_series_within_w x870.N (-1125899906842624) 1125899906842624 _ e922 _ _ _ (H.enter [] [] (by decide) rfl)) ?_
    rintro _ w923 ⟨rfl, G924⟩
    have H := H920.step (G924.only : Only [] _ _)
    refine ⟨_, rfl, ?_⟩
    obtain ⟨x925, e926, hF⟩ := zF hF
    refine zA rfl rfl (zM (yS (p := x921) rfl) (congrArg Value.bool e926)) ?_
    refine zA rfl rfl (zN (v := .bool x925) rfl rfl) ?_
    refine yE (b := x925) rfl rfl rfl (fun c927 => ?_) (fun c927 => ?_)
    ·have hF := zV c927 hF
     refine zH rfl rfl ?_
     refine zH rfl rfl ?_
     refine zH rfl rfl ?_
     refine zH rfl rfl ?_
     refine zA rfl rfl (zY (v := .bool true) rfl rfl) ?_
     refine zA rfl rfl (zG (v := .bool true) rfl) ?_
     have hR := Option.some.inj hF
     subst hR
     refine (zJ (zB (And.intro ?_ ?_)))
     ·repeat' (first | with_reducible exact zS | refine zZ rfl ?_ | refine zT rfl rfl ?_)
     exact ⟨(), (zQ rfl zU), H.pick [0, 1, 3] (by decide)⟩
    have hF := zW c927 hF
    refine zA rfl rfl (fa40_2 rfl) ?_
    refine zA rfl rfl (zL one3 rfl (Cells.get (Blk.cells (H.item (i := 3) rfl)) (i := 2) rfl)) ?_
    have H928 := H
    obtain ⟨x929, e930, hF⟩ := zI hF
    refine yA rfl rfl (zX en159 rfl) (F_series_within_w x870.Mark 0 4 _ e930 _ _ _ (H.enter [] [] (by decide) rfl)) ?_
    rintro _ w931 ⟨rfl, G932⟩
    have H := H928.step (G932.only : Only [] _ _)
    refine ⟨_, rfl, ?_⟩
    obtain ⟨x933, e934, hF⟩ := zF hF
    refine zA rfl rfl (zM (yS (p := x929) rfl) (congrArg Value.bool e934)) ?_
    refine zA rfl rfl (zN (v := .bool x933) rfl rfl) ?_
    refine zA rfl rfl (zG (v := .bool x933) rfl) ?_
    have hR := Option.some.inj hF
    subst hR
    refine (zJ (zB (And.intro ?_ ?_)))
    ·repeat' (first | with_reducible exact zS | refine zZ rfl ?_ | refine zT rfl rfl ?_)
    exact ⟨(), (zQ rfl zU), H.pick [0, 1, 3] (by decide)⟩
   rintro _ ρ w910 H
   have hF := hK911
   refine yH (b := g909) rfl (fun c935 => ?_) (fun c935 => ?_)
   ·have hF := zV c935 hF
    refine zD fun K936 hK936 => ?_
    refine zC ?_
    refine zA rfl rfl (zK (v := .int .i64 g772) rfl) ?_
    refine zA rfl rfl (zG (v := .int .i64 g772) rfl) ?_
    refine zA rfl rfl (zG (v := .int .i64 9) rfl) ?_
    refine (zJ (zB (hK936 _ _ ?_)))
    have hR := Option.some.inj hF
    subst hR
    refine (yG (yJ (yJ (yC (yC (yJ (yC (post2 (v1 := .int .i64 g772) (v2 := .int .i64 9) rfl rfl rfl ?_))))))))
    exact ⟨rfl, H.pick [] (by decide)⟩
   have hF := zW c935 hF
   obtain ⟨g942, hF, hK944⟩ := zI hF
   refine yQ [40, 41, 42, 43, 44, 45, 46, 47, 48] (fun (g : Unit) => [(40, .bool g942)]) (fun g wl => Hd O w wl S [.fz (.sl rSample v1 p0.Samples), .blk b4 [.int .i64 p0.Den, v1] 35, .blk b882 [.int .i64 x870.At, .int .i64 x870.N, .int .i64 x870.Mark] 40]) ?_ ?_
   ·skip
    refine zC ?_
    refine zA rfl rfl (fa40_1 rfl) ?_
    refine zA rfl rfl (zL one3 rfl (Cells.get (Blk.cells (H.item (i := 2) rfl)) (i := 1) rfl)) ?_
    obtain ⟨x945, e946, hF⟩ := zF hF
    refine zA rfl rfl (zM (xO (a := x870.N) (b := 0) rfl rfl) (congrArg Value.bool e946)) ?_
    refine yE (b := x945) rfl rfl rfl (fun c947 => ?_) (fun c947 => ?_)
    ·have hF := zV c947 hF
     refine zA rfl rfl (fa40_2 rfl) ?_
     refine zA rfl rfl (zL one3 rfl (Cells.get (Blk.cells (H.item (i := 2) rfl)) (i := 2) rfl)) ?_
     obtain ⟨x948, e949, hF⟩ := zF hF
     refine zA rfl rfl (zM (Do_leq (a := x870.Mark) (b := 1) rfl rfl) (congrArg Value.bool e949)) ?_
     refine zA rfl rfl (zY (v := .bool x948) rfl rfl) ?_
     refine zA rfl rfl (zG (v := .bool x948) rfl) ?_
     have hR := Option.some.inj hF
     subst hR
     refine (zJ (zB (And.intro ?_ ?_)))
     ·repeat' (first | with_reducible exact zS | refine zZ rfl ?_ | refine zT rfl rfl ?_)
     exact ⟨(), (zQ rfl zU), H.pick [0, 1, 2] (by decide)⟩
    have hF := zW c947 hF
    refine zH rfl rfl ?_
    refine zH rfl rfl ?_
    refine zH rfl rfl ?_
    refine zA rfl rfl (zN (v := .bool false) rfl rfl) ?_
    refine zA rfl rfl (zG (v := .bool false) rfl) ?_
    have hR := Option.some.inj hF
    subst hR
    refine (zJ (zB (And.intro ?_ ?_)))
    ·repeat' (first | with_reducible exact zS | refine zZ rfl ?_ | refine zT rfl rfl ?_)
    exact ⟨(), (zQ rfl zU), H.pick [0, 1, 2] (by decide)⟩
   rintro _ ρ w943 H
   have hF := hK944
   refine yH (b := g942) rfl (fun c950 => ?_) (fun c950 => ?_)
   ·have hF := zV c950 hF
    refine zD fun K951 hK951 => ?_
    refine zC ?_
    refine zA rfl rfl (zK (v := .int .i64 g772) rfl) ?_
    refine zA rfl rfl (zG (v := .int .i64 g772) rfl) ?_
    refine zA rfl rfl (zG (v := .int .i64 2) rfl) ?_
    refine (zJ (zB (hK951 _ _ ?_)))
    have hR := Option.some.inj hF
    subst hR
    refine (yG (yJ (yJ (yC (yC (yJ (yC (post2 (v1 := .int .i64 g772) (v2 := .int .i64 2) rfl rfl rfl ?_))))))))
    exact ⟨rfl, H.pick [] (by decide)⟩
   have hF := zW c950 hF
   obtain ⟨g975, hF, hK977⟩ := zI hF
   refine yQ [50, 51, 52, 53, 54, 55, 56, 57, 58, 59, 60, 61, 62, 63, 64] (fun (g : Unit) => [(50, .bool g975)]) (fun g wl => Hd O w wl S [.fz (.sl rSample v1 p0.Samples), .blk b4 [.int .i64 p0.Den, v1] 35]) ?_ ?_
   ·skip
    have H978 := H
    have H := H.rebase
    have H979 := H
    refine WP_mix0 H [0, 1, 2, 3, 4, 5, 6, 7, 8, 9, 10, 11, 12, 13, 14] [.pure, .pure, .pure, .pure, .read, .pure, .read, .pure, .pure, .pure, .pure, .read, .pure, .pure, .pure] mixed (by kernel_rfl) (by kernel_rfl) (by kernel_rfl) rfl ?_
    refine Mx.yB rfl rfl rfl (fun w' hw' => zK (v := .int .i64 g772) rfl) ?_
    obtain ⟨x980, e981, hF⟩ := zF hF
    refine Mx.yB rfl rfl rfl (fun w' hw' => zM (Do_gtr (a := g772) (b := 0) rfl rfl) (congrArg Value.bool e981)) ?_
    refine Mx.XL_splitb (b := x980) rfl rfl rfl rfl (fun c982 => ?_) (fun c982 => ?_)
    ·have hF := zV c982 hF
     refine Mx.yB rfl rfl rfl (fun w' hw' => fa40_0 rfl) ?_
     refine Mx.xK oS rfl rfl rfl (fun w' hw' => zL one3 rfl (Cells.get (Blk.cells ((H.sees hw').item (i := 2) rfl)) (i := 0) rfl)) ?_
     refine Mx.yB rfl rfl rfl (fun w' hw' => fa35_1 rfl) ?_
     refine Mx.xK oS rfl rfl rfl (fun w' hw' => zL one33 rfl (Cells.get (Blk.cells ((H.sees hw').item (i := 1) rfl)) (i := 1) rfl)) ?_
     refine Mx.yB rfl rfl rfl (fun w' hw' => zK (v := .int .i64 g772) rfl) ?_
     obtain ⟨x983, e984, hF⟩ := zF hF
     refine Mx.yB rfl rfl rfl (fun w' hw' => Do_sub (a := g772) (b := 1) rfl rfl e984) ?_
     obtain ⟨x985, e986, hF⟩ := zI hF
     obtain ⟨b987, o988, c989, cs990, q991, h994, h992, h993, h995⟩ := rd_at (H.item (i := 0) rfl) e986
     obtain rfl := rSample_open h994
     have H := H.fz (.at b987 (o988 + x983.toNat * 3) _) ⟨h992, h993, h995⟩
     refine Mx.yB rfl rfl rfl (fun w' hw' => xY u33 sz40 q991 rfl (yP e986).1 (yP e986).2.1 rfl rfl) ?_
     refine Mx.yB rfl rfl rfl (fun w' hw' => fa40_0 rfl) ?_
     refine Mx.xK oS rfl rfl rfl (fun w' hw' => zL one3 rfl (Cells.get ((H.sees hw').item (i := 3) rfl).2.2 (i := 0) rfl)) ?_
     obtain ⟨x997, e998, hF⟩ := zF hF
     refine Mx.yB rfl rfl rfl (fun w' hw' => zM (Do_leq (a := x870.At) (b := x985.At) rfl rfl) (congrArg Value.bool e998)) ?_
     refine Mx.yB rfl rfl rfl (fun w' hw' => zY (v := .bool x997) rfl rfl) ?_
     refine Mx.yB rfl rfl rfl (fun w' hw' => zG (v := .bool x997) rfl) ?_
     refine Mx.XL_nil fun w999 hS => ?_
     have H := H.sees hS
     have H := H978.rejoin H
     have hR := Option.some.inj hF
     subst hR
     refine (zB (And.intro ?_ ?_))
     ·repeat' (first | with_reducible exact zS | refine zZ rfl ?_ | refine zT rfl rfl ?_)
     exact ⟨(), (zQ rfl zU), H.pick [0, 1] (by decide)⟩
    have hF := zW c982 hF
    refine Mx.XL_offp rfl rfl rfl ?_
    refine Mx.XL_offr oS rfl rfl rfl ?_
    refine Mx.XL_offp rfl rfl rfl ?_
    refine Mx.XL_offr oS rfl rfl rfl ?_
    refine Mx.XL_offp rfl rfl rfl ?_
    refine Mx.XL_offp rfl rfl rfl ?_
    refine Mx.XL_offp rfl rfl rfl ?_
    refine Mx.XL_offp rfl rfl rfl ?_
    refine Mx.XL_offr oS rfl rfl rfl ?_
    refine Mx.XL_offp rfl rfl rfl ?_
    refine Mx.yB rfl rfl rfl (fun w' hw' => zN (v := .bool false) rfl rfl) ?_
    refine Mx.yB rfl rfl rfl (fun w' hw' => zG (v := .bool false) rfl) ?_
    refine Mx.XL_nil fun w1000 hS => ?_
    have H := H.sees hS
    have H := H978.rejoin H
    have hR := Option.some.inj hF
    subst hR
    refine (zB (And.intro ?_ ?_))
    ·repeat' (first | with_reducible exact zS | refine zZ rfl ?_ | refine zT rfl rfl ?_)
    exact ⟨(), (zQ rfl zU), H.pick [0, 1] (by decide)⟩
   rintro _ ρ w976 H
   have hF := hK977
   refine yH (b := g975) rfl (fun c1001 => ?_) (fun c1001 => ?_)
   ·have hF := zV c1001 hF
    refine zD fun K1002 hK1002 => ?_
    refine zC ?_
    refine zA rfl rfl (zK (v := .int .i64 g772) rfl) ?_
    refine zA rfl rfl (zG (v := .int .i64 g772) rfl) ?_
    refine zA rfl rfl (zG (v := .int .i64 10) rfl) ?_
    refine (zJ (zB (hK1002 _ _ ?_)))
    have hR := Option.some.inj hF
    subst hR
    refine (yG (yJ (yJ (yC (yC (yJ (yC (post2 (v1 := .int .i64 g772) (v2 := .int .i64 10) rfl rfl rfl ?_))))))))
    exact ⟨rfl, H.pick [] (by decide)⟩
   have hF := zW c1001 hF
   refine (yI (yX (yX (zB (hK868 _ _ ?_)))))
   refine zC ?_
   obtain ⟨x1003, e1004, hF⟩ := zF hF
   refine zA rfl rfl (wE (a := g772) (b := 1) rfl rfl e1004) ?_
   refine zA rfl rfl (zK (v := .int .i64 x1003) rfl) ?_
   refine (zJ (zB (And.intro ?_ ?_)))
   ·repeat' (first | with_reducible exact zS | refine zZ rfl ?_ | refine zT rfl rfl ?_)
   exact ⟨(n778, x1003), (zQ rfl zU), ⟨H.pick [0, 1] (by decide), hF⟩, Nat.lt_succ_self _⟩
  have hF := zW c784 hF
  refine (xW (yU (yU (xE (zB (And.intro ?_ ?_))))))
  ·repeat' (first | with_reducible exact zS | refine zZ rfl ?_ | refine zT rfl rfl ?_)
  exact ⟨(), zU, ⟨H.pick [] (by decide), hF⟩⟩
 rintro _ ρ w412 ⟨H, hF⟩
 have hF := wJ ek414 hF
 refine zD fun K1005 hK1005 => ?_
 refine zC ?_
 refine zA rfl rfl (zG (v := .int .i64 (-1)) rfl) ?_
 refine zA rfl rfl (zG (v := .int .i64 0) rfl) ?_
 refine (zJ (zB (hK1005 _ _ ?_)))
 have hR := Option.some.inj hF
 subst hR
 refine (yG (post2 (v1 := .int .i64 (-1)) (v2 := .int .i64 0) rfl rfl rfl ?_))
 exact ⟨rfl, H.pick [] (by decide)⟩
end Go.Proofs.YtnajnkghilemhaaGreatDoor.L
namespace Go.Proofs.YtnajnkghilemhaaGreatDoor.L
open Go.RowKit Go.OB Go.Lf
/- orangebox/series.Check -/
set_option maxHeartbeats 4000000 in
theorem F_series_Check_w (p0 : Series) (v1 : Value) (r : Int) (hF : F_series_Check p0 = some r) (O S : List Nat) (w : World) (H : Hd O w w S [.fz (.sl rSample v1 p0.Samples)]) :
  Calls Tryz.prog 71 ([.agg [.int .i64 p0.Den, v1].toArray] : List Value).toArray w fun e w' => e = .returned (.int .i64 r) ∧ Hd O w w' S [] := by
 unfold F_series_Check at hF
 refine yD 11 Tryz.func71 rfl rfl rfl ?_
 refine zD fun K3 hK3 => ?_
 refine zC ?_
 refine yY rfl rfl (Lx_box (cs := [.int .i64 p0.Den, v1]) rfl H) ?_
 rintro _ w6 ⟨b4, rfl, H⟩
 refine zA rfl rfl (zG (v := .int .i64 0) rfl) ?_
 refine (zJ (zB (hK3 _ _ ?_)))
 refine zD fun K7 hK7 => ?_
 refine zC ?_
 refine zA rfl rfl (zM (yT (cs := [.int .i64 p0.Den, v1]) agg35 rfl sz35 rfl (Blk.cells (H.item (i := 1) rfl))) rfl) ?_
 have H8 := H
 obtain ⟨⟨x9, x10⟩, e11, hF⟩ := zI hF
 refine yA rfl rfl (zX en122 rfl) (F_series_check_w p0 v1 _ e11 _ _ _ (H.enter [] [0] (by decide) rfl)) ?_
 rintro _ w12 ⟨rfl, G13⟩
 have H := H8.step (G13.only : Only [] _ _)
 refine ⟨_, rfl, ?_⟩
 refine zA rfl rfl (zK (v := .tuple #[.int .i64 x9, .int .i64 x10]) rfl) ?_
 refine zA rfl rfl (xQ (v := .int .i64 x9) rfl rfl) ?_
 refine zA rfl rfl (xQ (v := .int .i64 x10) rfl rfl) ?_
 refine zA rfl rfl (zG (v := .int .i64 x9) rfl) ?_
 refine zA rfl rfl (zG (v := .int .i64 x10) rfl) ?_
 refine (zJ (zB (hK7 _ _ ?_)))
 refine zD fun K14 hK14 => ?_
 refine zC ?_
 refine zA rfl rfl (zK (v := .int .i64 x10) rfl) ?_
 refine zA rfl rfl (zG (v := .int .i64 x10) rfl) ?_
 refine (zJ (zB (hK14 _ _ ?_)))
 have hR := Option.some.inj hF
 subst hR
 refine (yG (post1 (v1 := .int .i64 x10) rfl rfl ?_))
 exact ⟨rfl, H.pick [] (by decide)⟩
end Go.Proofs.YtnajnkghilemhaaGreatDoor.L
namespace Go.Proofs.YtnajnkghilemhaaGreatDoor.L
open Go.RowKit Go.OB Go.Lf
/- orangebox/event.CheckTracks -/
set_option maxHeartbeats 4000000 in
set_option maxRecDepth 100000 in
theorem F_event_CheckTracks_w (p0 : List Track) (v1 : Value) (r : Int) (hF : F_event_CheckTracks p0 = some r) (O S : List Nat) (w : World) (H : Hd O w w S [.fz (.sl rTrack v1 p0)]) :
  Calls Tryz.prog 25 ([v1] : List Value).toArray w fun e w' => e = .returned (.int .i64 r) ∧ Hd O w w' S [] := by
 unfold F_event_CheckTracks at hF
 refine yD 36 Tryz.func25 rfl rfl rfl ?_
 refine zD fun K3 hK3 => ?_
 refine zC ?_
 refine zA rfl rfl (zG (v := .int .i64 0) rfl) ?_
 refine (zJ (zB (hK3 _ _ ?_)))
 refine zD fun K14 hK14 => ?_
 refine zD fun K15 hK15 => ?_
 refine zC ?_
 refine zA rfl rfl (zK (v := v1) rfl) ?_
 obtain ⟨x16, e17, hF⟩ := zF hF
 obtain ⟨a18, c19, q20⟩ := SlF.len ((H.item (i := 0) rfl))
 refine zA rfl rfl (zM (xA u27 q20) (congrArg (Value.int .i64) e17)) ?_
 obtain ⟨x21, e22, hF⟩ := zF hF
 refine zA rfl rfl (zM (Do_gtr (a := x16) (b := 50) rfl rfl) (congrArg Value.bool e22)) ?_
 refine (zJ (zB (hK15 _ _ ?_)))
 refine yH (b := x21) rfl (fun c23 => ?_) (fun c23 => ?_)
 ·have hF := zV c23 hF
  refine zD fun K24 hK24 => ?_
  refine zC ?_
  refine zA rfl rfl (zG (v := .int .i64 3) rfl) ?_
  refine (zJ (zB (hK24 _ _ ?_)))
  have hR := Option.some.inj hF
  subst hR
  refine (yG (yC (post1 (v1 := .int .i64 3) rfl rfl ?_)))
  exact ⟨rfl, H.pick [] (by decide)⟩
 have hF := zW c23 hF
 refine (yI (zB (hK14 _ _ ?_)))
 obtain ⟨k453, ek454, hF⟩ := wC hF
 refine yQ [2, 3, 4, 5, 9, 10, 11, 12, 13, 14, 15, 16, 17, 18, 19, 20, 21, 22, 23, 24, 25, 26, 27, 28, 29, 30, 31, 32, 33, 34, 35] (fun (g : Unit) => []) (fun g wl => Hd O w wl S [] ∧ k453 () = some r) ?_ ?_
 ·skip
  refine zD fun K455 hK455 => ?_
  refine zC ?_
  refine zA rfl rfl (zK (v := v1) rfl) ?_
  obtain ⟨x456, e457, hF⟩ := zF hF
  obtain ⟨a458, c459, q460⟩ := SlF.len ((H.item (i := 0) rfl))
  refine zA rfl rfl (zM (xA u27 q460) (congrArg (Value.int .i64) e457)) ?_
  refine zA rfl rfl (zK (v := .int .i64 0) rfl) ?_
  refine (zJ (zB (hK455 _ _ ?_)))
  refine yM ?_
  unfold F_event_CheckTracks_L1 at hF
  obtain ⟨B877, n878, eB879, hF⟩ := yZ hF
  refine xN [2, 3, 4, 5, 11, 12, 13, 14, 15, 16, 17, 18, 19, 20, 21, 22, 23, 24, 25, 26, 27, 28, 29, 30, 31, 32, 33, 34, 35] (fun (g : Nat × Int) => [(11, .int .i64 g.2)]) (fun g wl => Hd O w wl S [.fz (.sl rTrack v1 p0)] ∧ loopN B877 g.1 g.2 = some r) (fun g => g.1) (n878, 0) (zQ rfl zU) ⟨H.pick [0] (by decide), hF⟩ ?_
  clear H hF
  rintro ⟨n878, g876⟩ ρ w881 ⟨H, hF⟩
  obtain ⟨n882, rfl, hF⟩ := xH hF
  have hF := xG eB879 hF
  refine zD fun K883 hK883 => ?_
  refine zC ?_
  obtain ⟨x884, e885, hF⟩ := zF hF
  refine zA rfl rfl (zM (xZ (a := g876) (b := x456) rfl rfl) (congrArg Value.bool e885)) ?_
  refine (zJ (zB (hK883 _ _ ?_)))
  refine zD fun K887 hK887 => ?_
  refine yH (b := x884) rfl (fun c888 => ?_) (fun c888 => ?_)
  ·have hF := zV c888 hF
   refine (yI (zB (hK887 _ _ ?_)))
   refine zD fun K988 hK988 => ?_
   refine yM ?_
   refine zD fun K989 hK989 => ?_
   refine zC ?_
   refine zA rfl rfl (zK (v := .int .i64 g876) rfl) ?_
   obtain ⟨x990, e991, hF⟩ := zI hF
   obtain ⟨b992, o993, c994, cs995, q996, h999, h997, h998, h1000⟩ := rd_at (H.item (i := 0) rfl) e991
   obtain ⟨v1001, rfl, h1002⟩ := rTrack_open h999
   have H := H.fzs [.at b992 (o993 + g876.toNat * 4) _, .sl rSample v1001 x990.Series.Samples] ⟨⟨h997, h998, h1000⟩, h1002, trivial⟩
   refine zA rfl rfl (xY u27 sz37 q996 rfl (yP e991).1 (yP e991).2.1 rfl rfl) ?_
   refine zA rfl rfl (zM (yT (cs := [.string (bs x990.Name), .int .i64 x990.Series.Den, v1001, .int .i64 x990.Long]) agg37 rfl sz37 rfl (H.item (i := 1) rfl).2.2) rfl) ?_
   refine yY rfl rfl (xJ zero37 H) ?_
   rintro _ w1007 ⟨b1005, rfl, H⟩
   refine zA rfl rfl (zG (v := .int .i64 g876) rfl) ?_
   refine yV rfl (yN (vs := [.string (bs x990.Name), .int .i64 x990.Series.Den, v1001, .int .i64 x990.Long]) H 3 rfl sz37 rfl rfl rfl ⟨rfl, rfl, (slf_one (H.item (i := 2) rfl)), rfl, trivial⟩ rfl) ?_
   rintro w1008 H
   refine (zJ (zB (hK989 _ _ ?_)))
   refine zD fun K1019 hK1019 => ?_
   refine zD fun K1020 hK1020 => ?_
   refine zC ?_
   refine zA rfl rfl (fa37_0 rfl) ?_
   refine zA rfl rfl (zL one9 rfl (Cells.get (Blk.cells (H.item (i := 3) rfl)) (i := 0) rfl)) ?_
   have H1021 := H
   obtain ⟨x1022, e1023, hF⟩ := zI hF
   refine yA rfl rfl (zX en68 rfl) (F_event_isName_w x990.Name _ e1023 _ _ _ (H.enter [] [] (by decide) rfl)) ?_
   rintro _ w1024 ⟨rfl, G1025⟩
   have H := H1021.step (G1025.only : Only [] _ _)
   refine ⟨_, rfl, ?_⟩
   obtain ⟨x1026, e1027, hF⟩ := zF hF
   refine zA rfl rfl (zM (yS (p := x1022) rfl) (congrArg Value.bool e1027)) ?_
   refine (zJ (zB (hK1020 _ _ ?_)))
   refine yH (b := x1026) rfl (fun c1028 => ?_) (fun c1028 => ?_)
   ·have hF := zV c1028 hF
    refine zD fun K1029 hK1029 => ?_
    refine zC ?_
    refine zA rfl rfl (zG (v := .int .i64 8) rfl) ?_
    refine (zJ (zB (hK1029 _ _ ?_)))
    have hR := Option.some.inj hF
    subst hR
    refine (yG (yC (yJ (yC (yC (yJ (yC (post1 (v1 := .int .i64 8) rfl rfl ?_))))))))
    exact ⟨rfl, H.pick [] (by decide)⟩
   have hF := zW c1028 hF
   refine (yI (zB (hK1019 _ _ ?_)))
   refine zD fun K1042 hK1042 => ?_
   refine zD fun K1043 hK1043 => ?_
   refine zC ?_
   refine zA rfl rfl (zK (v := v1) rfl) ?_
   refine zA rfl rfl (zK (v := .int .i64 g876) rfl) ?_
   obtain ⟨x1044, e1045, hF⟩ := zI hF
   refine RL_exP rfl rfl (Lx_slice_h u27 sz37 (H.item (i := 0) rfl) rfl rfl e1045) ?_
   rintro v1046 h1047
   have H := H.fz (.sl rTrack v1046 x1044) h1047
   refine zA rfl rfl (Do_makeFunc rfl) ?_
   obtain ⟨x1049, e1050, hF⟩ := zI hF
   refine yA rfl rfl (zX en69 rfl) (F_slices_ContainsFunc___api_Track_api_Track__event_CheckTracks_1_w x1044 x990 v1046 b1005 v1001 _ e1050 _ _ _ (H.enter [3] [4, 2] (by decide) rfl)) ?_
   rintro _ w1051 ⟨rfl, G1052⟩
   have H : Hd O _ w1051 _ [.fz (.sl rTrack v1 p0), .fz (.at b992 (o993 + g876.toNat * 4) [.string (bs x990.Name), .int .i64 x990.Series.Den, v1001, .int .i64 x990.Long]), .fz (.sl rSample v1001 x990.Series.Samples), .fz (.sl rTrack v1046 x1044), .blk b1005 [.string (bs x990.Name), .int .i64 x990.Series.Den, v1001, .int .i64 x990.Long] 37] := H.back [3] [4, 2] rfl G1052
   refine ⟨_, rfl, ?_⟩
   refine (zJ (zB (hK1043 _ _ ?_)))
   refine yH (b := x1049) rfl (fun c1053 => ?_) (fun c1053 => ?_)
   ·have hF := zV c1053 hF
    refine zD fun K1054 hK1054 => ?_
    refine zC ?_
    refine zA rfl rfl (zG (v := .int .i64 5) rfl) ?_
    refine (zJ (zB (hK1054 _ _ ?_)))
    have hR := Option.some.inj hF
    subst hR
    refine (yG (yC (yJ (yC (yC (yJ (yC (post1 (v1 := .int .i64 5) rfl rfl ?_))))))))
    exact ⟨rfl, H.pick [] (by decide)⟩
   have hF := zW c1053 hF
   refine (yI (zB (hK1042 _ _ ?_)))
   refine zD fun K1066 hK1066 => ?_
   refine zD fun K1067 hK1067 => ?_
   refine zC ?_
   refine zA rfl rfl (fa37_1 rfl) ?_
   refine zA rfl rfl (zM (yT (cs := [.int .i64 x990.Series.Den, v1001]) agg35 rfl sz35 rfl (Cells.drop (Blk.cells (H.item (i := 4) rfl)) 1 2)) rfl) ?_
   have H1068 := H
   obtain ⟨x1069, e1070, hF⟩ := zI hF
   refine yA rfl rfl (zX en71 rfl) (F_series_Check_w x990.Series v1001 _ e1070 _ _ _ (H.enter [] [2] (by decide) rfl)) ?_
   rintro _ w1071 ⟨rfl, G1072⟩
   have H := H1068.step (G1072.only : Only [] _ _)
   refine ⟨_, rfl, ?_⟩
   refine zA rfl rfl (zG (v := .int .i64 x1069) rfl) ?_
   refine (zJ (zB (hK1067 _ _ ?_)))
   refine zD fun K1073 hK1073 => ?_
   refine zC ?_
   refine zA rfl rfl (zK (v := .int .i64 x1069) rfl) ?_
   obtain ⟨x1074, e1075, hF⟩ := zF hF
   refine zA rfl rfl (zM (xO (a := x1069) (b := 0) rfl rfl) (congrArg Value.bool e1075)) ?_
   refine (zJ (zB (hK1073 _ _ ?_)))
   refine yH (b := x1074) rfl (fun c1076 => ?_) (fun c1076 => ?_)
   ·have hF := zV c1076 hF
    refine zD fun K1077 hK1077 => ?_
    refine zC ?_
    refine zA rfl rfl (zK (v := .int .i64 x1069) rfl) ?_
    refine zA rfl rfl (zG (v := .int .i64 x1069) rfl) ?_
    refine (zJ (zB (hK1077 _ _ ?_)))
    have hR := Option.some.inj hF
    subst hR
    refine (yG (yC (yJ (yC (yC (yJ (yC (post1 (v1 := .int .i64 x1069) rfl rfl ?_))))))))
    exact ⟨rfl, H.pick [] (by decide)⟩
   have hF := zW c1076 hF
   refine (yI (zB (hK1066 _ _ ?_)))
   refine zD fun K1078 hK1078 => ?_
   refine zC ?_
   refine zA rfl rfl (fa37_2 rfl) ?_
   refine zA rfl rfl (zL one3 rfl (Cells.get (Blk.cells (H.item (i := 4) rfl)) (i := 3) rfl)) ?_
   have H1079 := H
   obtain ⟨x1080, e1081, hF⟩ := zI hF
   refine yA rfl rfl (zX en60 rfl) (F_event_within_w x990.Long 0 1099511627776 _ e1081 _ _ _ (H.enter [] [] (by decide) rfl)) ?_
   rintro _ w1082 ⟨rfl, G1083⟩
   have H := H1079.step (G1083.only : Only [] _ _)
   refine ⟨_, rfl, ?_⟩
   obtain ⟨x1084, e1085, hF⟩ := zF hF
   refine zA rfl rfl (zM (yS (p := x1080) rfl) (congrArg Value.bool e1085)) ?_
   refine (zJ (zB (hK1078 _ _ ?_)))
   refine yH (b := x1084) rfl (fun c1086 => ?_) (fun c1086 => ?_)
   ·have hF := zV c1086 hF
    refine zD fun K1087 hK1087 => ?_
    refine zC ?_
    refine zA rfl rfl (zG (v := .int .i64 9) rfl) ?_
    refine (zJ (zB (hK1087 _ _ ?_)))
    have hR := Option.some.inj hF
    subst hR
    refine (yG (yJ (yC (yC (yJ (yC (post1 (v1 := .int .i64 9) rfl rfl ?_)))))))
    exact ⟨rfl, H.pick [] (by decide)⟩
   have hF := zW c1086 hF
   refine (yI (yX (zB (hK988 _ _ ?_))))
   refine zC ?_
   obtain ⟨x1088, e1089, hF⟩ := zF hF
   refine zA rfl rfl (wE (a := g876) (b := 1) rfl rfl e1089) ?_
   refine zA rfl rfl (zK (v := .int .i64 x1088) rfl) ?_
   refine (zJ (zB (And.intro ?_ ?_)))
   ·repeat' (first | with_reducible exact zS | refine zZ rfl ?_ | refine zT rfl rfl ?_)
   exact ⟨(n882, x1088), (zQ rfl zU), ⟨H.pick [0] (by decide), hF⟩, Nat.lt_succ_self _⟩
  have hF := zW c888 hF
  refine (xW (yU (yU (xE (zB (And.intro ?_ ?_))))))
  ·repeat' (first | with_reducible exact zS | refine zZ rfl ?_ | refine zT rfl rfl ?_)
  exact ⟨(), zU, ⟨H.pick [] (by decide), hF⟩⟩
 rintro _ ρ w452 ⟨H, hF⟩
 have hF := wJ ek454 hF
 refine zD fun K1090 hK1090 => ?_
 refine zC ?_
 refine zA rfl rfl (zG (v := .int .i64 0) rfl) ?_
 refine (zJ (zB (hK1090 _ _ ?_)))
 have hR := Option.some.inj hF
 subst hR
 refine (yG (post1 (v1 := .int .i64 0) rfl rfl ?_))
 exact ⟨rfl, H.pick [] (by decide)⟩
end Go.Proofs.YtnajnkghilemhaaGreatDoor.L
namespace Go.Proofs.YtnajnkghilemhaaGreatDoor.L
open Go.RowKit Go.OB Go.Lf
/- orangebox/orangeboxref6.words -/
set_option maxHeartbeats 4000000 in
theorem F_ref6_words_w (r : (List Str)) (hF : F_ref6_words = some r) (O S : List Nat) (w : World) (H : Hd O w w S []) :
  Calls Tryz.prog 160 ([] : List Value).toArray w fun e w' => ∃ u1, e = .returned (u1) ∧ Hd O w w' S [.own Rp.str u1 9 r] := by
 unfold F_ref6_words at hF
 refine yD 2 Tryz.func160 rfl rfl rfl ?_
 refine zD fun K2 hK2 => ?_
 refine zC ?_
 refine zA rfl rfl (zG (v := .slice none 0 0) rfl) ?_
 refine (zJ (zB (hK2 _ _ ?_)))
 refine zD fun K3 hK3 => ?_
 refine zC ?_
 obtain ⟨x4, e5, hF⟩ := zF hF
 subst e5
 refine yY rfl rfl (Lx_bs (r := Rp.str) (xl := [[112, 104, 97, 115, 101], [109, 111, 118, 101], [114, 117, 108, 101], [105, 102], [111, 114], [97, 110, 100], [116, 114, 117, 101], [102, 97, 108, 115, 101], [115, 116, 101, 97, 100, 121], [110, 111, 116], [102, 111, 114], [119, 105, 116, 104, 105, 110], [99, 111, 117, 110, 116], [111, 102], [114, 105, 115, 101, 115], [115, 105, 110, 99, 101]]) (cs := [.string (bs [112, 104, 97, 115, 101]), .string (bs [109, 111, 118, 101]), .string (bs [114, 117, 108, 101]), .string (bs [105, 102]), .string (bs [111, 114]), .string (bs [97, 110, 100]), .string (bs [116, 114, 117, 101]), .string (bs [102, 97, 108, 115, 101]), .string (bs [115, 116, 101, 97, 100, 121]), .string (bs [110, 111, 116]), .string (bs [102, 111, 114]), .string (bs [119, 105, 116, 104, 105, 110]), .string (bs [99, 111, 117, 110, 116]), .string (bs [111, 102]), .string (bs [114, 105, 115, 101, 115]), .string (bs [115, 105, 110, 99, 101])]) u22 el9 (by decide) (by decide) rfl (wF (vs := [.string (bs [112, 104, 97, 115, 101]), .string (bs [109, 111, 118, 101]), .string (bs [114, 117, 108, 101]), .string (bs [105, 102]), .string (bs [111, 114]), .string (bs [97, 110, 100]), .string (bs [116, 114, 117, 101]), .string (bs [102, 97, 108, 115, 101]), .string (bs [115, 116, 101, 97, 100, 121]), .string (bs [110, 111, 116]), .string (bs [102, 111, 114]), .string (bs [119, 105, 116, 104, 105, 110]), .string (bs [99, 111, 117, 110, 116]), .string (bs [111, 102]), .string (bs [114, 105, 115, 101, 115]), .string (bs [115, 105, 110, 99, 101])]) (by decide) rfl rfl ⟨rfl, rfl, rfl, rfl, rfl, rfl, rfl, rfl, rfl, rfl, rfl, rfl, rfl, rfl, rfl, rfl, trivial⟩ rfl) H ⟨[.string (bs [112, 104, 97, 115, 101])], [.string (bs [109, 111, 118, 101]), .string (bs [114, 117, 108, 101]), .string (bs [105, 102]), .string (bs [111, 114]), .string (bs [97, 110, 100]), .string (bs [116, 114, 117, 101]), .string (bs [102, 97, 108, 115, 101]), .string (bs [115, 116, 101, 97, 100, 121]), .string (bs [110, 111, 116]), .string (bs [102, 111, 114]), .string (bs [119, 105, 116, 104, 105, 110]), .string (bs [99, 111, 117, 110, 116]), .string (bs [111, 102]), .string (bs [114, 105, 115, 101, 115]), .string (bs [115, 105, 110, 99, 101])], rfl, rfl, ⟨[.string (bs [109, 111, 118, 101])], [.string (bs [114, 117, 108, 101]), .string (bs [105, 102]), .string (bs [111, 114]), .string (bs [97, 110, 100]), .string (bs [116, 114, 117, 101]), .string (bs [102, 97, 108, 115, 101]), .string (bs [115, 116, 101, 97, 100, 121]), .string (bs [110, 111, 116]), .string (bs [102, 111, 114]), .string (bs [119, 105, 116, 104, 105, 110]), .string (bs [99, 111, 117, 110, 116]), .string (bs [111, 102]), .string (bs [114, 105, 115, 101, 115]), .string (bs [115, 105, 110, 99, 101])], rfl, rfl, ⟨[.string (bs [114, 117, 108, 101])], [.string (bs [105, 102]), .string (bs [111, 114]), .string (bs [97, 110, 100]), .string (bs [116, 114, 117, 101]), .string (bs [102, 97, 108, 115, 101]), .string (bs [115, 116, 101, 97, 100, 121]), .string (bs [110, 111, 116]), .string (bs [102, 111, 114]), .string (bs [119, 105, 116, 104, 105, 110]), .string (bs [99, 111, 117, 110, 116]), .string (bs [111, 102]), .string (bs [114, 105, 115, 101, 115]), .string (bs [115, 105, 110, 99, 101])], rfl, rfl, ⟨[.string (bs [105, 102])], [.string (bs [111, 114]), .string (bs [97, 110, 100]), .string (bs [116, 114, 117, 101]), .string (bs [102, 97, 108, 115, 101]), .string (bs [115, 116, 101, 97, 100, 121]), .string (bs [110, 111, 116]), .string (bs [102, 111, 114]), .string (bs [119, 105, 116, 104, 105, 110]), .string (bs [99, 111, 117, 110, 116]), .string (bs [111, 102]), .string (bs [114, 105, 115, 101, 115]), .string (bs [115, 105, 110, 99, 101])], rfl, rfl, ⟨[.string (bs [111, 114])], [.string (bs [97, 110, 100]), .string (bs [116, 114, 117, 101]), .string (bs [102, 97, 108, 115, 101]), .string (bs [115, 116, 101, 97, 100, 121]), .string (bs [110, 111, 116]), .string (bs [102, 111, 114]), .string (bs [119, 105, 116, 104, 105, 110]), .string (bs [99, 111, 117, 110, 116]), .string (bs [111, 102]), .string (bs [114, 105, 115, 101, 115]), .string (bs [115, 105, 110, 99, 101])], rfl, rfl, ⟨[.string (bs [97, 110, 100])], [.string (bs [116, 114, 117, 101]), .string (bs [102, 97, 108, 115, 101]), .string (bs [115, 116, 101, 97, 100, 121]), .string (bs [110, 111, 116]), .string (bs [102, 111, 114]), .string (bs [119, 105, 116, 104, 105, 110]), .string (bs [99, 111, 117, 110, 116]), .string (bs [111, 102]), .string (bs [114, 105, 115, 101, 115]), .string (bs [115, 105, 110, 99, 101])], rfl, rfl, ⟨[.string (bs [116, 114, 117, 101])], [.string (bs [102, 97, 108, 115, 101]), .string (bs [115, 116, 101, 97, 100, 121]), .string (bs [110, 111, 116]), .string (bs [102, 111, 114]), .string (bs [119, 105, 116, 104, 105, 110]), .string (bs [99, 111, 117, 110, 116]), .string (bs [111, 102]), .string (bs [114, 105, 115, 101, 115]), .string (bs [115, 105, 110, 99, 101])], rfl, rfl, ⟨[.string (bs [102, 97, 108, 115, 101])], [.string (bs [115, 116, 101, 97, 100, 121]), .string (bs [110, 111, 116]), .string (bs [102, 111, 114]), .string (bs [119, 105, 116, 104, 105, 110]), .string (bs [99, 111, 117, 110, 116]), .string (bs [111, 102]), .string (bs [114, 105, 115, 101, 115]), .string (bs [115, 105, 110, 99, 101])], rfl, rfl, ⟨[.string (bs [115, 116, 101, 97, 100, 121])], [.string (bs [110, 111, 116]), .string (bs [102, 111, 114]), .string (bs [119, 105, 116, 104, 105, 110]), .string (bs [99, 111, 117, 110, 116]), .string (bs [111, 102]), .string (bs [114, 105, 115, 101, 115]), .string (bs [115, 105, 110, 99, 101])], rfl, rfl, ⟨[.string (bs [110, 111, 116])], [.string (bs [102, 111, 114]), .string (bs [119, 105, 116, 104, 105, 110]), .string (bs [99, 111, 117, 110, 116]), .string (bs [111, 102]), .string (bs [114, 105, 115, 101, 115]), .string (bs [115, 105, 110, 99, 101])], rfl, rfl, ⟨[.string (bs [102, 111, 114])], [.string (bs [119, 105, 116, 104, 105, 110]), .string (bs [99, 111, 117, 110, 116]), .string (bs [111, 102]), .string (bs [114, 105, 115, 101, 115]), .string (bs [115, 105, 110, 99, 101])], rfl, rfl, ⟨[.string (bs [119, 105, 116, 104, 105, 110])], [.string (bs [99, 111, 117, 110, 116]), .string (bs [111, 102]), .string (bs [114, 105, 115, 101, 115]), .string (bs [115, 105, 110, 99, 101])], rfl, rfl, ⟨[.string (bs [99, 111, 117, 110, 116])], [.string (bs [111, 102]), .string (bs [114, 105, 115, 101, 115]), .string (bs [115, 105, 110, 99, 101])], rfl, rfl, ⟨[.string (bs [111, 102])], [.string (bs [114, 105, 115, 101, 115]), .string (bs [115, 105, 110, 99, 101])], rfl, rfl, ⟨[.string (bs [114, 105, 115, 101, 115])], [.string (bs [115, 105, 110, 99, 101])], rfl, rfl, ⟨[.string (bs [115, 105, 110, 99, 101])], [], rfl, rfl, rfl⟩⟩⟩⟩⟩⟩⟩⟩⟩⟩⟩⟩⟩⟩⟩⟩) ?_
 rintro v7 w8 H
 refine zA rfl rfl (zG (v := v7) rfl) ?_
 refine (zJ (zB (hK3 _ _ ?_)))
 have hR := Option.some.inj hF
 subst hR
 refine (yG (post1 (v1 := v7) rfl rfl ?_))
 exact ⟨v7, rfl, H.pick [0] (by decide)⟩
end Go.Proofs.YtnajnkghilemhaaGreatDoor.L
namespace Go.Proofs.YtnajnkghilemhaaGreatDoor.L
open Go.RowKit Go.OB Go.Lf
/- orangebox/orangeboxref6.Reserved -/
set_option maxHeartbeats 4000000 in
theorem F_ref6_Reserved_w (p0 : Str) (r : Bool) (hF : F_ref6_Reserved p0 = some r) (O S : List Nat) (w : World) (H : Hd O w w S []) :
  Calls Tryz.prog 123 ([.string (bs p0)] : List Value).toArray w fun e w' => e = .returned (.bool r) ∧ Hd O w w' S [] := by
 unfold F_ref6_Reserved at hF
 refine yD 18 Tryz.func123 rfl rfl rfl ?_
 refine zD fun K1 hK1 => ?_
 refine zC ?_
 refine zA rfl rfl (zG (v := .bool false) rfl) ?_
 refine (zJ (zB (hK1 _ _ ?_)))
 refine zD fun K2 hK2 => ?_
 refine zC ?_
 obtain ⟨x3, e4, hF⟩ := zI hF
 refine yA rfl rfl (zX en160 rfl) (F_ref6_words_w _ e4 _ _ _ (H.enter [] [] (by decide) rfl)) ?_
 rintro _ w7 ⟨v5, rfl, G8⟩
 have H := H.back1 [] rfl G8
 refine ⟨_, rfl, ?_⟩
 refine zA rfl rfl (zG (v := v5) rfl) ?_
 refine (zJ (zB (hK2 _ _ ?_)))
 obtain ⟨k126, ek127, hF⟩ := wC hF
 refine yQ [2, 4, 6, 7, 8, 9, 10, 11, 12, 13, 14, 15, 16, 17] (fun (g : Unit) => []) (fun g wl => Hd O w wl S [] ∧ k126 () = some r) ?_ ?_
 ·skip
  refine zD fun K128 hK128 => ?_
  refine zC ?_
  refine zA rfl rfl (zG (v := .int .i64 0) rfl) ?_
  refine (zJ (zB (hK128 _ _ ?_)))
  refine yM ?_
  unfold F_ref6_Reserved_L1 at hF
  obtain ⟨B239, n240, eB241, hF⟩ := yZ hF
  refine xN [2, 4, 6, 7, 8, 9, 10, 11, 12, 13, 14, 15, 16, 17] (fun (g : Nat × Int) => [(4, .int .i64 g.2)]) (fun g wl => Hd O w wl S [.own Rp.str v5 9 x3] ∧ loopN B239 g.1 g.2 = some r) (fun g => g.1) (n240, 0) (zQ rfl zU) ⟨H.pick [0] (by decide), hF⟩ ?_
  clear H hF
  rintro ⟨n240, g238⟩ ρ w243 ⟨H, hF⟩
  obtain ⟨n244, rfl, hF⟩ := xH hF
  have hF := xG eB241 hF
  refine zD fun K254 hK254 => ?_
  refine zD fun K255 hK255 => ?_
  refine zC ?_
  refine zA rfl rfl (zK (v := .int .i64 g238) rfl) ?_
  refine zA rfl rfl (zK (v := v5) rfl) ?_
  obtain ⟨x256, e257, hF⟩ := zF hF
  obtain ⟨a258, c259, q260⟩ := Sr.len (Sr.of_own (H.item (i := 0) rfl))
  refine zA rfl rfl (zM (xA u22 q260) (congrArg (Value.int .i64) e257)) ?_
  obtain ⟨x261, e262, hF⟩ := zF hF
  refine zA rfl rfl (zM (xZ (a := g238) (b := x256) rfl rfl) (congrArg Value.bool e262)) ?_
  refine (zJ (zB (hK255 _ _ ?_)))
  refine yH (b := x261) rfl (fun c263 => ?_) (fun c263 => ?_)
  ·have hF := zV c263 hF
   refine (yI (zB (hK254 _ _ ?_)))
   refine zD fun K280 hK280 => ?_
   refine yM ?_
   refine zD fun K281 hK281 => ?_
   refine zC ?_
   refine zA rfl rfl (zK (v := v5) rfl) ?_
   refine zA rfl rfl (zK (v := .int .i64 g238) rfl) ?_
   obtain ⟨x282, e283, hF⟩ := zI hF
   obtain ⟨b284, c286, cs287, q288, h291, h292⟩ := own_at (H.item (i := 0) rfl) e283
   obtain rfl : cs287 = [.string (bs x282)] := h291
   refine zA rfl rfl (xY u22 sz9 q288 rfl (yP e283).1 (yP e283).2.1 rfl rfl) ?_
   refine zA rfl rfl (zL one9 rfl (Cells.get h292 (i := 0) rfl)) ?_
   refine zA rfl rfl (zK (v := .string (bs p0)) rfl) ?_
   obtain ⟨x293, e294, hF⟩ := zF hF
   refine zA rfl rfl (zM (xU (s1 := x282) (s2 := p0) rfl rfl) (congrArg Value.bool e294)) ?_
   refine (zJ (zB (hK281 _ _ ?_)))
   refine yH (b := x293) rfl (fun c295 => ?_) (fun c295 => ?_)
   ·have hF := zV c295 hF
    refine zD fun K296 hK296 => ?_
    refine zC ?_
    refine zA rfl rfl (zG (v := .bool true) rfl) ?_
    refine (zJ (zB (hK296 _ _ ?_)))
    have hR := Option.some.inj hF
    subst hR
    refine (yG (yJ (yC (yC (yJ (yC (post1 (v1 := .bool true) rfl rfl ?_)))))))
    exact ⟨rfl, H.pick [] (by decide)⟩
   have hF := zW c295 hF
   refine (yI (yX (zB (hK280 _ _ ?_))))
   refine zC ?_
   refine zA rfl rfl (zK (v := .int .i64 g238) rfl) ?_
   obtain ⟨x297, e298, hF⟩ := zF hF
   refine zA rfl rfl (wE (a := g238) (b := 1) rfl rfl e298) ?_
   refine zA rfl rfl (zG (v := .int .i64 x297) rfl) ?_
   refine (zJ (zB (And.intro ?_ ?_)))
   ·repeat' (first | with_reducible exact zS | refine zZ rfl ?_ | refine zT rfl rfl ?_)
   exact ⟨(n244, x297), (zQ rfl zU), ⟨H.pick [0] (by decide), hF⟩, Nat.lt_succ_self _⟩
  have hF := zW c263 hF
  refine (xW (yU (yU (xE (zB (And.intro ?_ ?_))))))
  ·repeat' (first | with_reducible exact zS | refine zZ rfl ?_ | refine zT rfl rfl ?_)
  exact ⟨(), zU, ⟨H.pick [] (by decide), hF⟩⟩
 rintro _ ρ w125 ⟨H, hF⟩
 have hF := wJ ek127 hF
 refine zD fun K299 hK299 => ?_
 refine zC ?_
 refine zA rfl rfl (zG (v := .bool false) rfl) ?_
 refine (zJ (zB (hK299 _ _ ?_)))
 have hR := Option.some.inj hF
 subst hR
 refine (yG (post1 (v1 := .bool false) rfl rfl ?_))
 exact ⟨rfl, H.pick [] (by decide)⟩
end Go.Proofs.YtnajnkghilemhaaGreatDoor.L
namespace Go.Proofs.YtnajnkghilemhaaGreatDoor.L
open Go.RowKit Go.OB Go.Lf
/- orangebox/orangeboxref6.IsName -/
set_option maxHeartbeats 4000000 in
set_option maxRecDepth 100000 in
theorem F_ref6_IsName_w (p0 : Str) (r : Bool) (hF : F_ref6_IsName p0 = some r) (O S : List Nat) (w : World) (H : Hd O w w S []) :
  Calls Tryz.prog 72 ([.string (bs p0)] : List Value).toArray w fun e w' => e = .returned (.bool r) ∧ Hd O w w' S [] := by
 unfold F_ref6_IsName at hF
 refine yD 49 Tryz.func72 rfl rfl rfl ?_
 refine zD fun K1 hK1 => ?_
 refine zC ?_
 refine zA rfl rfl (zG (v := .bool false) rfl) ?_
 refine (zJ (zB (hK1 _ _ ?_)))
 obtain ⟨k235, ek236, hF⟩ := wC hF
 refine yQ [2, 3, 4, 5, 6, 7, 8, 9, 10, 11, 12, 13, 14, 15, 16, 17, 18, 19, 20, 21, 22, 23, 24, 25, 26, 27, 28, 29, 30, 31, 32, 33, 34, 35, 36] (fun (g : Unit) => []) (fun g wl => Hd O w wl S [] ∧ k235 () = some r) ?_ ?_
 ·skip
  refine zD fun K237 hK237 => ?_
  refine zC ?_
  refine zA rfl rfl (zG (v := .int .i64 0) rfl) ?_
  refine (zJ (zB (hK237 _ _ ?_)))
  refine yM ?_
  unfold F_ref6_IsName_L1 at hF
  obtain ⟨B464, n465, eB466, hF⟩ := yZ hF
  refine xN [2, 3, 4, 5, 6, 7, 8, 9, 10, 11, 12, 13, 14, 15, 16, 17, 18, 19, 20, 21, 22, 23, 24, 25, 26, 27, 28, 29, 30, 31, 32, 33, 34, 35, 36] (fun (g : Nat × Int) => [(3, .int .i64 g.2)]) (fun g wl => Hd O w wl S [] ∧ loopN B464 g.1 g.2 = some r) (fun g => g.1) (n465, 0) (zQ rfl zU) ⟨H.pick [] (by decide), hF⟩ ?_
  clear H hF
  rintro ⟨n465, g463⟩ ρ w468 ⟨H, hF⟩
  obtain ⟨n469, rfl, hF⟩ := xH hF
  have hF := xG eB466 hF
  refine zD fun K476 hK476 => ?_
  refine zD fun K477 hK477 => ?_
  refine zC ?_
  refine zA rfl rfl (zK (v := .int .i64 g463) rfl) ?_
  refine zA rfl rfl (zK (v := .string (bs p0)) rfl) ?_
  obtain ⟨x478, e479, hF⟩ := zF hF
  refine zA rfl rfl (zM (Do_slen (s1 := p0) u9 rfl) (congrArg (Value.int .i64) e479)) ?_
  obtain ⟨x480, e481, hF⟩ := zF hF
  refine zA rfl rfl (zM (xZ (a := g463) (b := x478) rfl rfl) (congrArg Value.bool e481)) ?_
  refine (zJ (zB (hK477 _ _ ?_)))
  refine yH (b := x480) rfl (fun c482 => ?_) (fun c482 => ?_)
  ·have hF := zV c482 hF
   refine (yI (zB (hK476 _ _ ?_)))
   refine zD fun K531 hK531 => ?_
   refine yM ?_
   refine zD fun K532 hK532 => ?_
   refine zC ?_
   refine zA rfl rfl (zK (v := .string (bs p0)) rfl) ?_
   refine zA rfl rfl (zK (v := .int .i64 g463) rfl) ?_
   obtain ⟨x533, e534, hF⟩ := zI hF
   refine zA rfl rfl (Do_sidx (s1 := p0) (q := g463) u9 rfl rfl e534) ?_
   refine zA rfl rfl (zG (v := .int .u8 x533) rfl) ?_
   refine (zJ (zB (hK532 _ _ ?_)))
   obtain ⟨g575, hF, hK577⟩ := zI hF
   refine yQ [14, 15, 16, 17, 18, 19, 20, 21, 22, 23, 24, 25, 26, 27, 28, 29, 30, 31, 32, 33, 34, 35, 36] (fun (g : Unit) => [(36, .bool g575)]) (fun g wl => Hd O w wl S []) ?_ ?_
   ·skip
    refine zC ?_
    refine zA rfl rfl (zK (v := .int .u8 x533) rfl) ?_
    obtain ⟨x578, e579, hF⟩ := zF hF
    refine zA rfl rfl (zM (Do_geq (a := x533) (b := 97) rfl rfl) (congrArg Value.bool e579)) ?_
    refine yE (b := x578) rfl rfl rfl (fun c580 => ?_) (fun c580 => ?_)
    ·have hF := zV c580 hF
     refine zA rfl rfl (zK (v := .int .u8 x533) rfl) ?_
     obtain ⟨x581, e582, hF⟩ := zF hF
     refine zA rfl rfl (zM (Do_leq (a := x533) (b := 122) rfl rfl) (congrArg Value.bool e582)) ?_
     refine zA rfl rfl (zY (v := .bool x581) rfl rfl) ?_
     refine yE (b := x581) rfl rfl rfl (fun c583 => ?_) (fun c583 => ?_)
     ·have hF := zV c583 hF
      refine zH rfl rfl ?_
      refine zH rfl rfl ?_
      refine zH rfl rfl ?_
      refine zH rfl rfl ?_
      refine zH rfl rfl ?_
      refine zH rfl rfl ?_
      refine zH rfl rfl ?_
      refine zH rfl rfl ?_
      refine zH rfl rfl ?_
      refine zH rfl rfl ?_
      refine zH rfl rfl ?_
      refine zH rfl rfl ?_
      refine zH rfl rfl ?_
      refine zH rfl rfl ?_
      refine zA rfl rfl (zY (v := .bool true) rfl rfl) ?_
      refine zA rfl rfl (yS (p := true) rfl) ?_
      have hR := Option.some.inj hF
      subst hR
      refine (zJ (zB (And.intro ?_ ?_)))
      ·repeat' (first | with_reducible exact zS | refine zZ rfl ?_ | refine zT rfl rfl ?_)
      exact ⟨(), (zQ rfl zU), H.pick [] (by decide)⟩
     have hF := zW c583 hF
     refine zA rfl rfl (zK (v := .int .i64 g463) rfl) ?_
     obtain ⟨x584, e585, hF⟩ := zF hF
     refine zA rfl rfl (zM (Do_gtr (a := g463) (b := 0) rfl rfl) (congrArg Value.bool e585)) ?_
     refine yE (b := x584) rfl rfl rfl (fun c586 => ?_) (fun c586 => ?_)
     ·have hF := zV c586 hF
      refine zA rfl rfl (zK (v := .int .u8 x533) rfl) ?_
      obtain ⟨x587, e588, hF⟩ := zF hF
      refine zA rfl rfl (zM (Do_geq (a := x533) (b := 48) rfl rfl) (congrArg Value.bool e588)) ?_
      refine yE (b := x587) rfl rfl rfl (fun c589 => ?_) (fun c589 => ?_)
      ·have hF := zV c589 hF
       refine zA rfl rfl (zK (v := .int .u8 x533) rfl) ?_
       obtain ⟨x590, e591, hF⟩ := zF hF
       refine zA rfl rfl (zM (Do_leq (a := x533) (b := 57) rfl rfl) (congrArg Value.bool e591)) ?_
       refine zA rfl rfl (zY (v := .bool x590) rfl rfl) ?_
       refine yE (b := x590) rfl rfl rfl (fun c592 => ?_) (fun c592 => ?_)
       ·have hF := zV c592 hF
        refine zH rfl rfl ?_
        refine zH rfl rfl ?_
        refine zA rfl rfl (zY (v := .bool true) rfl rfl) ?_
        refine zA rfl rfl (zY (v := .bool true) rfl rfl) ?_
        refine zA rfl rfl (zN (v := .bool true) rfl rfl) ?_
        refine zA rfl rfl (yS (p := true) rfl) ?_
        have hR := Option.some.inj hF
        subst hR
        refine (zJ (zB (And.intro ?_ ?_)))
        ·repeat' (first | with_reducible exact zS | refine zZ rfl ?_ | refine zT rfl rfl ?_)
        exact ⟨(), (zQ rfl zU), H.pick [] (by decide)⟩
       have hF := zW c592 hF
       refine zA rfl rfl (zK (v := .int .u8 x533) rfl) ?_
       obtain ⟨x593, e594, hF⟩ := zF hF
       refine zA rfl rfl (zM (xC (a := x533) (b := 45) rfl rfl) (congrArg Value.bool e594)) ?_
       refine zA rfl rfl (zN (v := .bool x593) rfl rfl) ?_
       refine zA rfl rfl (zY (v := .bool x593) rfl rfl) ?_
       refine zA rfl rfl (zN (v := .bool x593) rfl rfl) ?_
       obtain ⟨x595, e596, hF⟩ := zF hF
       refine zA rfl rfl (zM (yS (p := x593) rfl) (congrArg Value.bool e596)) ?_
       have hR := Option.some.inj hF
       subst hR
       refine (zJ (zB (And.intro ?_ ?_)))
       ·repeat' (first | with_reducible exact zS | refine zZ rfl ?_ | refine zT rfl rfl ?_)
       exact ⟨(), (zQ rfl zU), H.pick [] (by decide)⟩
      have hF := zW c589 hF
      refine zH rfl rfl ?_
      refine zH rfl rfl ?_
      refine zA rfl rfl (zN (v := .bool false) rfl rfl) ?_
      refine zA rfl rfl (zK (v := .bool false) rfl) ?_
      refine zA rfl rfl (zK (v := .int .u8 x533) rfl) ?_
      obtain ⟨x597, e598, hF⟩ := zF hF
      refine zA rfl rfl (zM (xC (a := x533) (b := 45) rfl rfl) (congrArg Value.bool e598)) ?_
      refine zA rfl rfl (zN (v := .bool x597) rfl rfl) ?_
      refine zA rfl rfl (zY (v := .bool x597) rfl rfl) ?_
      refine zA rfl rfl (zN (v := .bool x597) rfl rfl) ?_
      obtain ⟨x599, e600, hF⟩ := zF hF
      refine zA rfl rfl (zM (yS (p := x597) rfl) (congrArg Value.bool e600)) ?_
      have hR := Option.some.inj hF
      subst hR
      refine (zJ (zB (And.intro ?_ ?_)))
      ·repeat' (first | with_reducible exact zS | refine zZ rfl ?_ | refine zT rfl rfl ?_)
      exact ⟨(), (zQ rfl zU), H.pick [] (by decide)⟩
     have hF := zW c586 hF
     refine zH rfl rfl ?_
     refine zH rfl rfl ?_
     refine zH rfl rfl ?_
     refine zH rfl rfl ?_
     refine zH rfl rfl ?_
     refine zH rfl rfl ?_
     refine zH rfl rfl ?_
     refine zH rfl rfl ?_
     refine zH rfl rfl ?_
     refine zH rfl rfl ?_
     refine zA rfl rfl (zN (v := .bool false) rfl rfl) ?_
     refine zA rfl rfl (zN (v := .bool false) rfl rfl) ?_
     refine zA rfl rfl (yS (p := false) rfl) ?_
     have hR := Option.some.inj hF
     subst hR
     refine (zJ (zB (And.intro ?_ ?_)))
     ·repeat' (first | with_reducible exact zS | refine zZ rfl ?_ | refine zT rfl rfl ?_)
     exact ⟨(), (zQ rfl zU), H.pick [] (by decide)⟩
    have hF := zW c580 hF
    refine zH rfl rfl ?_
    refine zH rfl rfl ?_
    refine zA rfl rfl (zN (v := .bool false) rfl rfl) ?_
    refine zA rfl rfl (zK (v := .bool false) rfl) ?_
    refine zA rfl rfl (zK (v := .int .i64 g463) rfl) ?_
    obtain ⟨x601, e602, hF⟩ := zF hF
    refine zA rfl rfl (zM (Do_gtr (a := g463) (b := 0) rfl rfl) (congrArg Value.bool e602)) ?_
    refine yE (b := x601) rfl rfl rfl (fun c603 => ?_) (fun c603 => ?_)
    ·have hF := zV c603 hF
     refine zA rfl rfl (zK (v := .int .u8 x533) rfl) ?_
     obtain ⟨x604, e605, hF⟩ := zF hF
     refine zA rfl rfl (zM (Do_geq (a := x533) (b := 48) rfl rfl) (congrArg Value.bool e605)) ?_
     refine yE (b := x604) rfl rfl rfl (fun c606 => ?_) (fun c606 => ?_)
     ·have hF := zV c606 hF
      refine zA rfl rfl (zK (v := .int .u8 x533) rfl) ?_
      obtain ⟨x607, e608, hF⟩ := zF hF
      refine zA rfl rfl (zM (Do_leq (a := x533) (b := 57) rfl rfl) (congrArg Value.bool e608)) ?_
      refine zA rfl rfl (zY (v := .bool x607) rfl rfl) ?_
      refine yE (b := x607) rfl rfl rfl (fun c609 => ?_) (fun c609 => ?_)
      ·have hF := zV c609 hF
       refine zH rfl rfl ?_
       refine zH rfl rfl ?_
       refine zA rfl rfl (zY (v := .bool true) rfl rfl) ?_
       refine zA rfl rfl (zY (v := .bool true) rfl rfl) ?_
       refine zA rfl rfl (zN (v := .bool true) rfl rfl) ?_
       refine zA rfl rfl (yS (p := true) rfl) ?_
       have hR := Option.some.inj hF
       subst hR
       refine (zJ (zB (And.intro ?_ ?_)))
       ·repeat' (first | with_reducible exact zS | refine zZ rfl ?_ | refine zT rfl rfl ?_)
       exact ⟨(), (zQ rfl zU), H.pick [] (by decide)⟩
      have hF := zW c609 hF
      refine zA rfl rfl (zK (v := .int .u8 x533) rfl) ?_
      obtain ⟨x610, e611, hF⟩ := zF hF
      refine zA rfl rfl (zM (xC (a := x533) (b := 45) rfl rfl) (congrArg Value.bool e611)) ?_
      refine zA rfl rfl (zN (v := .bool x610) rfl rfl) ?_
      refine zA rfl rfl (zY (v := .bool x610) rfl rfl) ?_
      refine zA rfl rfl (zN (v := .bool x610) rfl rfl) ?_
      obtain ⟨x612, e613, hF⟩ := zF hF
      refine zA rfl rfl (zM (yS (p := x610) rfl) (congrArg Value.bool e613)) ?_
      have hR := Option.some.inj hF
      subst hR
      refine (zJ (zB (And.intro ?_ ?_)))
      ·repeat' (first | with_reducible exact zS | refine zZ rfl ?_ | refine zT rfl rfl ?_)
      exact ⟨(), (zQ rfl zU), H.pick [] (by decide)⟩
     have hF := zW c606 hF
     refine zH rfl rfl ?_
     refine zH rfl rfl ?_
     refine zA rfl rfl (zN (v := .bool false) rfl rfl) ?_
     refine zA rfl rfl (zK (v := .bool false) rfl) ?_
     refine zA rfl rfl (zK (v := .int .u8 x533) rfl) ?_
     obtain ⟨x614, e615, hF⟩ := zF hF
     refine zA rfl rfl (zM (xC (a := x533) (b := 45) rfl rfl) (congrArg Value.bool e615)) ?_
     refine zA rfl rfl (zN (v := .bool x614) rfl rfl) ?_
     refine zA rfl rfl (zY (v := .bool x614) rfl rfl) ?_
     refine zA rfl rfl (zN (v := .bool x614) rfl rfl) ?_
     obtain ⟨x616, e617, hF⟩ := zF hF
     refine zA rfl rfl (zM (yS (p := x614) rfl) (congrArg Value.bool e617)) ?_
     have hR := Option.some.inj hF
     subst hR
     refine (zJ (zB (And.intro ?_ ?_)))
     ·repeat' (first | with_reducible exact zS | refine zZ rfl ?_ | refine zT rfl rfl ?_)
     exact ⟨(), (zQ rfl zU), H.pick [] (by decide)⟩
    have hF := zW c603 hF
    refine zH rfl rfl ?_
    refine zH rfl rfl ?_
    refine zH rfl rfl ?_
    refine zH rfl rfl ?_
    refine zH rfl rfl ?_
    refine zH rfl rfl ?_
    refine zH rfl rfl ?_
    refine zH rfl rfl ?_
    refine zH rfl rfl ?_
    refine zH rfl rfl ?_
    refine zA rfl rfl (zN (v := .bool false) rfl rfl) ?_
    refine zA rfl rfl (zN (v := .bool false) rfl rfl) ?_
    refine zA rfl rfl (yS (p := false) rfl) ?_
    have hR := Option.some.inj hF
    subst hR
    refine (zJ (zB (And.intro ?_ ?_)))
    ·repeat' (first | with_reducible exact zS | refine zZ rfl ?_ | refine zT rfl rfl ?_)
    exact ⟨(), (zQ rfl zU), H.pick [] (by decide)⟩
   rintro _ ρ w576 H
   have hF := hK577
   refine yH (b := g575) rfl (fun c618 => ?_) (fun c618 => ?_)
   ·have hF := zV c618 hF
    refine zD fun K619 hK619 => ?_
    refine zC ?_
    refine zA rfl rfl (zG (v := .bool false) rfl) ?_
    refine (zJ (zB (hK619 _ _ ?_)))
    have hR := Option.some.inj hF
    subst hR
    refine (yG (yJ (yC (yC (yJ (yC (post1 (v1 := .bool false) rfl rfl ?_)))))))
    exact ⟨rfl, H.pick [] (by decide)⟩
   have hF := zW c618 hF
   refine (yI (yX (zB (hK531 _ _ ?_))))
   refine zC ?_
   refine zA rfl rfl (zK (v := .int .i64 g463) rfl) ?_
   obtain ⟨x620, e621, hF⟩ := zF hF
   refine zA rfl rfl (wE (a := g463) (b := 1) rfl rfl e621) ?_
   refine zA rfl rfl (zG (v := .int .i64 x620) rfl) ?_
   refine (zJ (zB (And.intro ?_ ?_)))
   ·repeat' (first | with_reducible exact zS | refine zZ rfl ?_ | refine zT rfl rfl ?_)
   exact ⟨(n469, x620), (zQ rfl zU), ⟨H.pick [] (by decide), hF⟩, Nat.lt_succ_self _⟩
  have hF := zW c482 hF
  refine (xW (yU (yU (xE (zB (And.intro ?_ ?_))))))
  ·repeat' (first | with_reducible exact zS | refine zZ rfl ?_ | refine zT rfl rfl ?_)
  exact ⟨(), zU, ⟨H.pick [] (by decide), hF⟩⟩
 rintro _ ρ w234 ⟨H, hF⟩
 have hF := wJ ek236 hF
 obtain ⟨g637, hF, hK639⟩ := zI hF
 refine yQ [2, 37, 38, 39, 40, 41, 42, 43, 44, 45, 46, 47, 48] (fun (g : Unit) => [(2, .bool g637)]) (fun g wl => Hd O w wl S []) ?_ ?_
 ·skip
  refine zC ?_
  refine zA rfl rfl (zK (v := .string (bs p0)) rfl) ?_
  obtain ⟨x640, e641, hF⟩ := zF hF
  refine zA rfl rfl (zM (Do_neqs (s1 := p0) (s2 := []) rfl rfl) (congrArg Value.bool e641)) ?_
  refine yE (b := x640) rfl rfl rfl (fun c642 => ?_) (fun c642 => ?_)
  ·have hF := zV c642 hF
   refine zA rfl rfl (zK (v := .string (bs p0)) rfl) ?_
   obtain ⟨x643, e644, hF⟩ := zF hF
   refine zA rfl rfl (zM (Do_slen (s1 := p0) u9 rfl) (congrArg (Value.int .i64) e644)) ?_
   obtain ⟨x645, e646, hF⟩ := zF hF
   refine zA rfl rfl (zM (Do_leq (a := x643) (b := 30) rfl rfl) (congrArg Value.bool e646)) ?_
   refine zA rfl rfl (zY (v := .bool x645) rfl rfl) ?_
   refine yE (b := x645) rfl rfl rfl (fun c647 => ?_) (fun c647 => ?_)
   ·have hF := zV c647 hF
    refine zA rfl rfl (zK (v := .string (bs p0)) rfl) ?_
    have H648 := H
    obtain ⟨x649, e650, hF⟩ := zI hF
    refine yA rfl rfl (zX en123 rfl) (F_ref6_Reserved_w p0 _ e650 _ _ _ (H.enter [] [] (by decide) rfl)) ?_
    rintro _ w651 ⟨rfl, G652⟩
    have H := H648.step (G652.only : Only [] _ _)
    refine ⟨_, rfl, ?_⟩
    obtain ⟨x653, e654, hF⟩ := zF hF
    refine zA rfl rfl (zM (yS (p := x649) rfl) (congrArg Value.bool e654)) ?_
    refine zA rfl rfl (zY (v := .bool x653) rfl rfl) ?_
    refine zA rfl rfl (zG (v := .bool x653) rfl) ?_
    have hR := Option.some.inj hF
    subst hR
    refine (zJ (zB (And.intro ?_ ?_)))
    ·repeat' (first | with_reducible exact zS | refine zZ rfl ?_ | refine zT rfl rfl ?_)
    exact ⟨(), (zQ rfl zU), H.pick [] (by decide)⟩
   have hF := zW c647 hF
   refine zH rfl rfl ?_
   refine zH rfl rfl ?_
   refine zH rfl rfl ?_
   refine zA rfl rfl (zN (v := .bool false) rfl rfl) ?_
   refine zA rfl rfl (zG (v := .bool false) rfl) ?_
   have hR := Option.some.inj hF
   subst hR
   refine (zJ (zB (And.intro ?_ ?_)))
   ·repeat' (first | with_reducible exact zS | refine zZ rfl ?_ | refine zT rfl rfl ?_)
   exact ⟨(), (zQ rfl zU), H.pick [] (by decide)⟩
  have hF := zW c642 hF
  refine zH rfl rfl ?_
  refine zH rfl rfl ?_
  refine zH rfl rfl ?_
  refine zA rfl rfl (zN (v := .bool false) rfl rfl) ?_
  refine zA rfl rfl (zK (v := .bool false) rfl) ?_
  refine zH rfl rfl ?_
  refine zH rfl rfl ?_
  refine zH rfl rfl ?_
  refine zA rfl rfl (zN (v := .bool false) rfl rfl) ?_
  refine zA rfl rfl (zG (v := .bool false) rfl) ?_
  have hR := Option.some.inj hF
  subst hR
  refine (zJ (zB (And.intro ?_ ?_)))
  ·repeat' (first | with_reducible exact zS | refine zZ rfl ?_ | refine zT rfl rfl ?_)
  exact ⟨(), (zQ rfl zU), H.pick [] (by decide)⟩
 rintro _ ρ w638 H
 have hF := hK639
 have hR := Option.some.inj hF
 subst hR
 refine (yG (post1 (v1 := .bool g637) rfl rfl ?_))
 exact ⟨rfl, H.pick [] (by decide)⟩
end Go.Proofs.YtnajnkghilemhaaGreatDoor.L
namespace Go.Proofs.YtnajnkghilemhaaGreatDoor.L
open Go.RowKit Go.OB Go.Lf
/- orangebox/orangeboxref5.outside -/
set_option maxHeartbeats 4000000 in
theorem F_ref5_outside_w (p0 : Int) (p1 : Int) (p2 : Int) (r : Bool) (hF : F_ref5_outside p0 p1 p2 = some r) (O S : List Nat) (w : World) (H : Hd O w w S []) :
  Calls Tryz.prog 161 ([.int .i64 p0, .int .i64 p1, .int .i64 p2] : List Value).toArray w fun e w' => e = .returned (.bool r) ∧ Hd O w w' S [] := by
 unfold F_ref5_outside at hF
 refine yD 15 Tryz.func161 rfl rfl rfl ?_
 refine zD fun K1 hK1 => ?_
 refine zC ?_
 refine zA rfl rfl (zG (v := .bool false) rfl) ?_
 refine (zJ (zB (hK1 _ _ ?_)))
 obtain ⟨g7, hF, hK9⟩ := zI hF
 refine yQ [6, 7, 8, 9, 10, 11, 12, 13, 14] (fun (g : Unit) => [(6, .bool g7)]) (fun g wl => Hd O w wl S []) ?_ ?_
 ·skip
  refine zC ?_
  refine zA rfl rfl (zK (v := .int .i64 p0) rfl) ?_
  refine zA rfl rfl (zK (v := .int .i64 p1) rfl) ?_
  obtain ⟨x10, e11, hF⟩ := zF hF
  refine zA rfl rfl (zM (xZ (a := p0) (b := p1) rfl rfl) (congrArg Value.bool e11)) ?_
  refine yE (b := x10) rfl rfl rfl (fun c12 => ?_) (fun c12 => ?_)
  ·have hF := zV c12 hF
   refine zH rfl rfl ?_
   refine zH rfl rfl ?_
   refine zH rfl rfl ?_
   refine zA rfl rfl (zY (v := .bool true) rfl rfl) ?_
   refine zA rfl rfl (zG (v := .bool true) rfl) ?_
   have hR := Option.some.inj hF
   subst hR
   refine (zJ (zB (And.intro ?_ ?_)))
   ·repeat' (first | with_reducible exact zS | refine zZ rfl ?_ | refine zT rfl rfl ?_)
   exact ⟨(), (zQ rfl zU), H.pick [] (by decide)⟩
  have hF := zW c12 hF
  refine zA rfl rfl (zK (v := .int .i64 p0) rfl) ?_
  refine zA rfl rfl (zK (v := .int .i64 p2) rfl) ?_
  obtain ⟨x13, e14, hF⟩ := zF hF
  refine zA rfl rfl (zM (Do_gtr (a := p0) (b := p2) rfl rfl) (congrArg Value.bool e14)) ?_
  refine zA rfl rfl (zN (v := .bool x13) rfl rfl) ?_
  refine zA rfl rfl (zG (v := .bool x13) rfl) ?_
  have hR := Option.some.inj hF
  subst hR
  refine (zJ (zB (And.intro ?_ ?_)))
  ·repeat' (first | with_reducible exact zS | refine zZ rfl ?_ | refine zT rfl rfl ?_)
  exact ⟨(), (zQ rfl zU), H.pick [] (by decide)⟩
 rintro _ ρ w8 H
 have hF := hK9
 have hR := Option.some.inj hF
 subst hR
 refine (yG (post1 (v1 := .bool g7) rfl rfl ?_))
 exact ⟨rfl, H.pick [] (by decide)⟩
end Go.Proofs.YtnajnkghilemhaaGreatDoor.L
namespace Go.Proofs.YtnajnkghilemhaaGreatDoor.L
open Go.RowKit Go.OB Go.Lf
/- orangebox/orangeboxref5.numbered -/
set_option maxHeartbeats 4000000 in
theorem F_ref5_numbered_w (p0 : Int) (r : Bool) (hF : F_ref5_numbered p0 = some r) (O S : List Nat) (w : World) (H : Hd O w w S []) :
  Calls Tryz.prog 190 ([.int .i64 p0] : List Value).toArray w fun e w' => e = .returned (.bool r) ∧ Hd O w w' S [] := by
 unfold F_ref5_numbered at hF
 refine yD 5 Tryz.func190 rfl rfl rfl ?_
 refine zD fun K1 hK1 => ?_
 refine zC ?_
 refine zA rfl rfl (zG (v := .bool false) rfl) ?_
 refine (zJ (zB (hK1 _ _ ?_)))
 refine zD fun K2 hK2 => ?_
 refine zC ?_
 refine zA rfl rfl (zK (v := .int .i64 p0) rfl) ?_
 obtain ⟨x3, e4, hF⟩ := zF hF
 refine zA rfl rfl (zM (Do_geq (a := p0) (b := 2) rfl rfl) (congrArg Value.bool e4)) ?_
 refine zA rfl rfl (zG (v := .bool x3) rfl) ?_
 refine (zJ (zB (hK2 _ _ ?_)))
 have hR := Option.some.inj hF
 subst hR
 refine (yG (post1 (v1 := .bool x3) rfl rfl ?_))
 exact ⟨rfl, H.pick [] (by decide)⟩
end Go.Proofs.YtnajnkghilemhaaGreatDoor.L
namespace Go.Proofs.YtnajnkghilemhaaGreatDoor.L
open Go.RowKit Go.OB Go.Lf
/- orangebox/orangeboxref5.sampleFault -/
set_option maxHeartbeats 4000000 in
theorem F_ref5_sampleFault_w (p0 : Sample) (r : Int) (hF : F_ref5_sampleFault p0 = some r) (O S : List Nat) (w : World) (H : Hd O w w S []) :
  Calls Tryz.prog 162 ([.agg [.int .i64 p0.At, .int .i64 p0.N, .int .i64 p0.Mark].toArray] : List Value).toArray w fun e w' => e = .returned (.int .i64 r) ∧ Hd O w w' S [] := by
 unfold F_ref5_sampleFault at hF
 refine yD 25 Tryz.func162 rfl rfl rfl ?_
 refine zD fun K1 hK1 => ?_
 refine zC ?_
 refine yY rfl rfl (Lx_box (cs := [.int .i64 p0.At, .int .i64 p0.N, .int .i64 p0.Mark]) rfl H) ?_
 rintro _ w4 ⟨b2, rfl, H⟩
 refine zA rfl rfl (zG (v := .int .i64 0) rfl) ?_
 refine (zJ (zB (hK1 _ _ ?_)))
 refine zD fun K27 hK27 => ?_
 obtain ⟨g45, hF, hK47⟩ := zI hF
 refine yQ [3, 4, 5, 6, 7, 8, 9, 10, 11, 12, 13, 14, 15] (fun (g : Unit) => [(15, .bool g45)]) (fun g wl => Hd O w wl S [.blk b2 [.int .i64 p0.At, .int .i64 p0.N, .int .i64 p0.Mark] 40]) ?_ ?_
 ·skip
  refine zC ?_
  refine zA rfl rfl (fa40_0 rfl) ?_
  refine zA rfl rfl (zL one3 rfl (Cells.get (Blk.cells (H.item (i := 0) rfl)) (i := 0) rfl)) ?_
  have H48 := H
  obtain ⟨x49, e50, hF⟩ := zI hF
  refine yA rfl rfl (zX en161 rfl) (F_ref5_outside_w p0.At 0 1099511627776 _ e50 _ _ _ (H.enter [] [] (by decide) rfl)) ?_
  rintro _ w51 ⟨rfl, G52⟩
  have H := H48.step (G52.only : Only [] _ _)
  refine ⟨_, rfl, ?_⟩
  refine yE (b := x49) rfl rfl rfl (fun c53 => ?_) (fun c53 => ?_)
  ·have hF := zV c53 hF
   refine zH rfl rfl ?_
   refine zH rfl rfl ?_
   refine zH rfl rfl ?_
   refine zA rfl rfl (zY (v := .bool true) rfl rfl) ?_
   refine zA rfl rfl (zK (v := .bool true) rfl) ?_
   refine zH rfl rfl ?_
   refine zH rfl rfl ?_
   refine zH rfl rfl ?_
   refine zA rfl rfl (zY (v := .bool true) rfl rfl) ?_
   have hR := Option.some.inj hF
   subst hR
   refine (zJ (zB (And.intro ?_ ?_)))
   ·repeat' (first | with_reducible exact zS | refine zZ rfl ?_ | refine zT rfl rfl ?_)
   exact ⟨(), (zQ rfl zU), H.pick [0] (by decide)⟩
  have hF := zW c53 hF
  refine zA rfl rfl (fa40_1 rfl) ?_
  refine zA rfl rfl (zL one3 rfl (Cells.get (Blk.cells (H.item (i := 0) rfl)) (i := 1) rfl)) ?_
  have H54 := H
  obtain ⟨x55, e56, hF⟩ := zI hF
  refine yA rfl rfl (zX en161 rfl) (F_ref5_outside_w p0.N (-1125899906842624) 1125899906842624 _ e56 _ _ _ (H.enter [] [] (by decide) rfl)) ?_
  rintro _ w57 ⟨rfl, G58⟩
  have H := H54.step (G58.only : Only [] _ _)
  refine ⟨_, rfl, ?_⟩
  refine zA rfl rfl (zN (v := .bool x55) rfl rfl) ?_
  refine yE (b := x55) rfl rfl rfl (fun c59 => ?_) (fun c59 => ?_)
  ·have hF := zV c59 hF
   refine zH rfl rfl ?_
   refine zH rfl rfl ?_
   refine zH rfl rfl ?_
   refine zA rfl rfl (zY (v := .bool true) rfl rfl) ?_
   have hR := Option.some.inj hF
   subst hR
   refine (zJ (zB (And.intro ?_ ?_)))
   ·repeat' (first | with_reducible exact zS | refine zZ rfl ?_ | refine zT rfl rfl ?_)
   exact ⟨(), (zQ rfl zU), H.pick [0] (by decide)⟩
  have hF := zW c59 hF
  refine zA rfl rfl (fa40_2 rfl) ?_
  refine zA rfl rfl (zL one3 rfl (Cells.get (Blk.cells (H.item (i := 0) rfl)) (i := 2) rfl)) ?_
  have H60 := H
  obtain ⟨x61, e62, hF⟩ := zI hF
  refine yA rfl rfl (zX en161 rfl) (F_ref5_outside_w p0.Mark 0 4 _ e62 _ _ _ (H.enter [] [] (by decide) rfl)) ?_
  rintro _ w63 ⟨rfl, G64⟩
  have H := H60.step (G64.only : Only [] _ _)
  refine ⟨_, rfl, ?_⟩
  refine zA rfl rfl (zN (v := .bool x61) rfl rfl) ?_
  have hR := Option.some.inj hF
  subst hR
  refine (zJ (zB (And.intro ?_ ?_)))
  ·repeat' (first | with_reducible exact zS | refine zZ rfl ?_ | refine zT rfl rfl ?_)
  exact ⟨(), (zQ rfl zU), H.pick [0] (by decide)⟩
 rintro _ ρ w46 H
 have hF := hK47
 refine yH (b := g45) rfl (fun c65 => ?_) (fun c65 => ?_)
 ·have hF := zV c65 hF
  refine zD fun K66 hK66 => ?_
  refine zC ?_
  refine zA rfl rfl (zG (v := .int .i64 9) rfl) ?_
  refine (zJ (zB (hK66 _ _ ?_)))
  have hR := Option.some.inj hF
  subst hR
  refine (yG (yC (post1 (v1 := .int .i64 9) rfl rfl ?_)))
  exact ⟨rfl, H.pick [] (by decide)⟩
 have hF := zW c65 hF
 refine (yI (zB (hK27 _ _ ?_)))
 refine zD fun K82 hK82 => ?_
 obtain ⟨g93, hF, hK95⟩ := zI hF
 refine yQ [16, 17, 18, 19, 20, 21, 22, 23, 24] (fun (g : Unit) => [(24, .bool g93)]) (fun g wl => Hd O w wl S []) ?_ ?_
 ·skip
  refine zC ?_
  refine zA rfl rfl (fa40_1 rfl) ?_
  refine zA rfl rfl (zL one3 rfl (Cells.get (Blk.cells (H.item (i := 0) rfl)) (i := 1) rfl)) ?_
  obtain ⟨x96, e97, hF⟩ := zF hF
  refine zA rfl rfl (zM (xO (a := p0.N) (b := 0) rfl rfl) (congrArg Value.bool e97)) ?_
  refine yE (b := x96) rfl rfl rfl (fun c98 => ?_) (fun c98 => ?_)
  ·have hF := zV c98 hF
   refine zA rfl rfl (fa40_2 rfl) ?_
   refine zA rfl rfl (zL one3 rfl (Cells.get (Blk.cells (H.item (i := 0) rfl)) (i := 2) rfl)) ?_
   have H99 := H
   obtain ⟨x100, e101, hF⟩ := zI hF
   refine yA rfl rfl (zX en190 rfl) (F_ref5_numbered_w p0.Mark _ e101 _ _ _ (H.enter [] [] (by decide) rfl)) ?_
   rintro _ w102 ⟨rfl, G103⟩
   have H := H99.step (G103.only : Only [] _ _)
   refine ⟨_, rfl, ?_⟩
   obtain ⟨x104, e105, hF⟩ := zF hF
   refine zA rfl rfl (zM (yS (p := x100) rfl) (congrArg Value.bool e105)) ?_
   refine zA rfl rfl (zY (v := .bool x104) rfl rfl) ?_
   have hR := Option.some.inj hF
   subst hR
   refine (zJ (zB (And.intro ?_ ?_)))
   ·repeat' (first | with_reducible exact zS | refine zZ rfl ?_ | refine zT rfl rfl ?_)
   exact ⟨(), (zQ rfl zU), H.pick [] (by decide)⟩
  have hF := zW c98 hF
  refine zH rfl rfl ?_
  refine zH rfl rfl ?_
  refine zH rfl rfl ?_
  refine zH rfl rfl ?_
  refine zA rfl rfl (zN (v := .bool false) rfl rfl) ?_
  have hR := Option.some.inj hF
  subst hR
  refine (zJ (zB (And.intro ?_ ?_)))
  ·repeat' (first | with_reducible exact zS | refine zZ rfl ?_ | refine zT rfl rfl ?_)
  exact ⟨(), (zQ rfl zU), H.pick [] (by decide)⟩
 rintro _ ρ w94 H
 have hF := hK95
 refine yH (b := g93) rfl (fun c106 => ?_) (fun c106 => ?_)
 ·have hF := zV c106 hF
  refine zD fun K107 hK107 => ?_
  refine zC ?_
  refine zA rfl rfl (zG (v := .int .i64 2) rfl) ?_
  refine (zJ (zB (hK107 _ _ ?_)))
  have hR := Option.some.inj hF
  subst hR
  refine (yG (yC (post1 (v1 := .int .i64 2) rfl rfl ?_)))
  exact ⟨rfl, H.pick [] (by decide)⟩
 have hF := zW c106 hF
 refine (yI (zB (hK82 _ _ ?_)))
 refine zD fun K108 hK108 => ?_
 refine zC ?_
 refine zA rfl rfl (zG (v := .int .i64 0) rfl) ?_
 refine (zJ (zB (hK108 _ _ ?_)))
 have hR := Option.some.inj hF
 subst hR
 refine (yG (post1 (v1 := .int .i64 0) rfl rfl ?_))
 exact ⟨rfl, H.pick [] (by decide)⟩
end Go.Proofs.YtnajnkghilemhaaGreatDoor.L
