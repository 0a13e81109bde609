/- Walks: what each function computes, for every argument; no condition but those that stand in the statements. -/
import Derived.Test.YtbjhondbheijiaaGreatDoorYV0
namespace Go.Proofs.YtbjhondbheijiaaGreatDoor.L
open Go.RowKit Go.OB Go.Lf
/- orangebox/series.check -/
set_option maxHeartbeats 4000000 in
theorem F_series_check_w (p0 : Series) (v1 : Value) (r : Int × Int) (hF : F_series_check p0 = some r) (O S : List Nat) (w : World) (H : Hd O w w S [.fz (.sl rSample v1 p0.Samples)]) :
  Calls Tryz.prog 110 ([.agg [.int .i64 p0.Den, v1].toArray] : List Value).toArray w fun e w' => e = .returned (.tuple #[.int .i64 r.1, .int .i64 r.2]) ∧ Hd O w w' S [] := by
 unfold F_series_check at hF
 refine yB 67 Tryz.func110 rfl rfl rfl ?_
 refine zD fun K3 hK3 => ?_
 refine zC ?_
 refine xE rfl rfl (Lx_box (cs := [.int .i64 p0.Den, v1]) rfl H) ?_
 rintro _ w6 ⟨b4, rfl, H⟩
 refine zA rfl rfl (zF (v := .int .i64 0) rfl) ?_
 refine zA rfl rfl (zF (v := .int .i64 0) rfl) ?_
 refine (zI (zB (hK3 _ _ ?_)))
 refine zD fun K17 hK17 => ?_
 refine zD fun K18 hK18 => ?_
 refine zC ?_
 refine zA rfl rfl (fa76_0 rfl) ?_
 refine zA rfl rfl (zU one3 rfl (Cells.get (Blk.cells (H.item (i := 1) rfl)) (i := 0) rfl)) ?_
 have H19 := H
 obtain ⟨x20, e21, hF⟩ := zJ hF
 refine yJ rfl rfl (yC en115 rfl) (F_series_within_w p0.Den 1 1000000 _ e21 _ _ _ (H.enter [] [] (by decide) rfl)) ?_
 rintro _ w22 ⟨rfl, G23⟩
 have H := H19.step (G23.only : Only [] _ _)
 refine ⟨_, rfl, ?_⟩
 obtain ⟨x24, e25, hF⟩ := zH hF
 refine zA rfl rfl (zT (xY (p := x20) rfl) (congrArg Value.bool e25)) ?_
 refine (zI (zB (hK18 _ _ ?_)))
 refine yF (b := x24) rfl (fun c26 => ?_) (fun c26 => ?_)
 ·have hF := zW c26 hF
  refine zD fun K27 hK27 => ?_
  refine zC ?_
  refine zA rfl rfl (zF (v := .int .i64 (-1)) rfl) ?_
  refine zA rfl rfl (zF (v := .int .i64 9) rfl) ?_
  refine (zI (zB (hK27 _ _ ?_)))
  have hR := Option.some.inj hF
  subst hR
  refine (yG (zZ (post2 (v1 := .int .i64 (-1)) (v2 := .int .i64 9) rfl rfl rfl ?_)))
  exact ⟨rfl, H.pick [] (by decide)⟩
 have hF := zX c26 hF
 refine (yA (zB (hK17 _ _ ?_)))
 refine zD fun K38 hK38 => ?_
 refine zD fun K39 hK39 => ?_
 refine zC ?_
 refine zA rfl rfl (fa76_1 rfl) ?_
 refine zA rfl rfl (zU one74 rfl (Cells.get (Blk.cells (H.item (i := 1) rfl)) (i := 1) rfl)) ?_
 obtain ⟨x40, e41, hF⟩ := zH hF
 obtain ⟨a42, c43, q44⟩ := SlF.len ((H.item (i := 0) rfl))
 refine zA rfl rfl (zT (xI u74 q44) (congrArg (Value.int .i64) e41)) ?_
 obtain ⟨x45, e46, hF⟩ := zH hF
 refine zA rfl rfl (zT (wF (a := x40) (b := 20000) rfl rfl) (congrArg Value.bool e46)) ?_
 refine (zI (zB (hK39 _ _ ?_)))
 refine yF (b := x45) rfl (fun c47 => ?_) (fun c47 => ?_)
 ·have hF := zW c47 hF
  refine zD fun K48 hK48 => ?_
  refine zC ?_
  refine zA rfl rfl (zF (v := .int .i64 (-1)) rfl) ?_
  refine zA rfl rfl (zF (v := .int .i64 3) rfl) ?_
  refine (zI (zB (hK48 _ _ ?_)))
  have hR := Option.some.inj hF
  subst hR
  refine (yG (zZ (post2 (v1 := .int .i64 (-1)) (v2 := .int .i64 3) rfl rfl rfl ?_)))
  exact ⟨rfl, H.pick [] (by decide)⟩
 have hF := zX c47 hF
 refine (yA (zB (hK38 _ _ ?_)))
 obtain ⟨k413, ek414, hF⟩ := xU hF
 refine yL [2, 3, 4, 5, 14, 15, 16, 17, 18, 19, 20, 21, 22, 23, 24, 25, 26, 27, 28, 29, 30, 31, 32, 33, 34, 35, 36, 37, 38, 39, 40, 41, 42, 43, 44, 45, 46, 47, 48, 49, 50, 51, 52, 53, 54, 55, 56, 57, 58, 59, 60, 61, 62, 63, 64, 65, 66] (fun (g : Unit) => []) (fun g wl => Hd O w wl S [] ∧ k413 () = some r) ?_ ?_
 ·skip
  refine zD fun K415 hK415 => ?_
  refine zC ?_
  refine zA rfl rfl (fa76_1 rfl) ?_
  refine zA rfl rfl (zU one74 rfl (Cells.get (Blk.cells (H.item (i := 1) rfl)) (i := 1) rfl)) ?_
  obtain ⟨x416, e417, hF⟩ := zH hF
  obtain ⟨a418, c419, q420⟩ := SlF.len ((H.item (i := 0) rfl))
  refine zA rfl rfl (zT (xI u74 q420) (congrArg (Value.int .i64) e417)) ?_
  refine zA rfl rfl (zG (v := .int .i64 0) rfl) ?_
  refine (zI (zB (hK415 _ _ ?_)))
  refine yK ?_
  unfold F_series_check_L1 at hF
  obtain ⟨B773, n774, eB775, hF⟩ := yT hF
  refine xC [2, 3, 4, 5, 17, 18, 19, 20, 21, 22, 23, 24, 25, 26, 27, 28, 29, 30, 31, 32, 33, 34, 35, 36, 37, 38, 39, 40, 41, 42, 43, 44, 45, 46, 47, 48, 49, 50, 51, 52, 53, 54, 55, 56, 57, 58, 59, 60, 61, 62, 63, 64, 65, 66] (fun (g : Nat × Int) => [(17, .int .i64 g.2)]) (fun g wl => Hd O w wl S [.fz (.sl rSample v1 p0.Samples), .blk b4 [.int .i64 p0.Den, v1] 76] ∧ loopN B773 g.1 g.2 = some r) (fun g => g.1) (n774, 0) (zK rfl zQ) ⟨H.pick [0, 1] (by decide), hF⟩ ?_
  clear H hF
  rintro ⟨n774, g772⟩ ρ w777 ⟨H, hF⟩
  obtain ⟨n778, rfl, hF⟩ := yX hF
  have hF := yY eB775 hF
  refine zD fun K779 hK779 => ?_
  refine zC ?_
  obtain ⟨x780, e781, hF⟩ := zH hF
  refine zA rfl rfl (zT (xK (a := g772) (b := x416) rfl rfl) (congrArg Value.bool e781)) ?_
  refine (zI (zB (hK779 _ _ ?_)))
  refine zD fun K783 hK783 => ?_
  refine yF (b := x780) rfl (fun c784 => ?_) (fun c784 => ?_)
  ·have hF := zW c784 hF
   refine (yA (zB (hK783 _ _ ?_)))
   refine zD fun K868 hK868 => ?_
   refine yK ?_
   refine zD fun K869 hK869 => ?_
   refine zC ?_
   refine zA rfl rfl (zG (v := .int .i64 g772) rfl) ?_
   obtain ⟨x870, e871, hF⟩ := zJ hF
   obtain ⟨b872, o873, c874, cs875, q876, h879, h877, h878, h880⟩ := wB (H.item (i := 0) rfl) e871
   obtain rfl := rSample_open h879
   have H := H.fz (.at b872 (o873 + g772.toNat * 3) _) ⟨h877, h878, h880⟩
   refine zA rfl rfl (xG u74 sz109 q876 rfl (yD e871).1 (yD e871).2.1 rfl rfl) ?_
   refine zA rfl rfl (zT (yV (cs := [.int .i64 x870.At, .int .i64 x870.N, .int .i64 x870.Mark]) agg109 rfl sz109 rfl (H.item (i := 2) rfl).2.2) rfl) ?_
   refine xE rfl rfl (xR zero109 H) ?_
   rintro _ w884 ⟨b882, rfl, H⟩
   refine zA rfl rfl (zF (v := .int .i64 g772) rfl) ?_
   refine xO rfl (xA (vs := [.int .i64 x870.At, .int .i64 x870.N, .int .i64 x870.Mark]) H 3 rfl sz109 rfl rfl rfl ⟨rfl, rfl, rfl, trivial⟩ rfl) ?_
   rintro w885 H
   refine (zI (zB (hK869 _ _ ?_)))
   refine yK ?_
   obtain ⟨g909, hF, hK911⟩ := zJ hF
   refine yL [22, 23, 24, 25, 26, 27, 28, 29, 30, 31, 32, 33, 34, 35, 36, 37, 38] (fun (g : Unit) => [(22, .bool g909)]) (fun g wl => Hd O w wl S [.fz (.sl rSample v1 p0.Samples), .blk b4 [.int .i64 p0.Den, v1] 76, .blk b882 [.int .i64 x870.At, .int .i64 x870.N, .int .i64 x870.Mark] 109]) ?_ ?_
   ·skip
    refine zC ?_
    refine zA rfl rfl (fa109_0 rfl) ?_
    refine zA rfl rfl (zU one3 rfl (Cells.get (Blk.cells (H.item (i := 3) rfl)) (i := 0) rfl)) ?_
    have H912 := H
    obtain ⟨x913, e914, hF⟩ := zJ hF
    refine yJ rfl rfl (yC en115 rfl) (F_series_within_w x870.At 0 1099511627776 _ e914 _ _ _ (H.enter [] [] (by decide) rfl)) ?_
    rintro _ w915 ⟨rfl, G916⟩
    have H := H912.step (G916.only : Only [] _ _)
    refine ⟨_, rfl, ?_⟩
    obtain ⟨x917, e918, hF⟩ := zH hF
    refine zA rfl rfl (zT (xY (p := x913) rfl) (congrArg Value.bool e918)) ?_
    refine yO (b := x917) rfl rfl rfl (fun c919 => ?_) (fun c919 => ?_)
    ·have hF := zW c919 hF
     refine zM rfl rfl ?_
     refine zM rfl rfl ?_
     refine zM rfl rfl ?_
     refine zM rfl rfl ?_
     refine zA rfl rfl (yI (v := .bool true) rfl rfl) ?_
     refine zA rfl rfl (zG (v := .bool true) rfl) ?_
     refine zM rfl rfl ?_
     refine zM rfl rfl ?_
     refine zM rfl rfl ?_
     refine zM rfl rfl ?_
     refine zA rfl rfl (yI (v := .bool true) rfl rfl) ?_
     refine zA rfl rfl (zF (v := .bool true) rfl) ?_
     have hR := Option.some.inj hF
     subst hR
     refine (zI (zB (And.intro ?_ ?_)))
     ·repeat' (first | with_reducible exact zN | refine zV rfl ?_ | refine zO rfl rfl ?_)
     exact ⟨(), (zK rfl zQ), H.pick [0, 1, 3] (by decide)⟩
    have hF := zX c919 hF
    refine zA rfl rfl (fa109_1 rfl) ?_
    refine zA rfl rfl (zU one3 rfl (Cells.get (Blk.cells (H.item (i := 3) rfl)) (i := 1) rfl)) ?_
    have H920 := H
    obtain ⟨x921, e922, hF⟩ := zJ hF
    refine yJ rfl rfl (yC en115 rfl) (F_series_within_w x870.N (-1125899906842624) 1125899906842624 _ e922 _ _ _ (H.enter [] [] (by decide) rfl)) ?_
    rintro _ w923 ⟨rfl, G924⟩
    have H := H920.step (G924.only : Only [] _ _)
    refine ⟨_, rfl, ?_⟩
    obtain ⟨x925, e926, hF⟩ := zH hF
    refine zA rfl rfl (zT (xY (p := x921) rfl) (congrArg Value.bool e926)) ?_
    refine zA rfl rfl (yH (v := .bool x925) rfl rfl) ?_
    refine yO (b := x925) rfl rfl rfl (fun c927 => ?_) (fun c927 => ?_)
    ·have hF := zW c927 hF
     refine zM rfl rfl ?_
     refine zM rfl rfl ?_
     refine zM rfl rfl ?_
     refine zM rfl rfl ?_
     refine zA rfl rfl (yI (v := .bool true) rfl rfl) ?_
     refine zA rfl rfl (zF (v := .bool true) rfl) ?_
     have hR := Option.some.inj hF
     subst hR
     refine (zI (zB (And.intro ?_ ?_)))
     ·repeat' (first | with_reducible exact zN | refine zV rfl ?_ | refine zO rfl rfl ?_)
     exact ⟨(), (zK rfl zQ), H.pick [0, 1, 3] (by decide)⟩
    have hF := zX c927 hF
    refine zA rfl rfl (fa109_2 rfl) ?_
    refine zA rfl rfl (zU one3 rfl (Cells.get (Blk.cells (H.item (i := 3) rfl)) (i := 2) rfl)) ?_
    have H928 := H
    obtain ⟨x929, e930, hF⟩ := zJ hF
    refine yJ rfl rfl (yC en115 rfl) (F_series_within_w x870.Mark 0 4 _ e930 _ _ _ (H.enter [] [] (by decide) rfl)) ?_
    rintro _ w931 ⟨rfl, G932⟩
    have H := H928.step (G932.only : Only [] _ _)
    refine ⟨_, rfl, ?_⟩
    obtain ⟨x933, e934, hF⟩ := zH hF
    refine zA rfl rfl (zT (xY (p := x929) rfl) (congrArg Value.bool e934)) ?_
    refine zA rfl rfl (yH (v := .bool x933) rfl rfl) ?_
    refine zA rfl rfl (zF (v := .bool x933) rfl) ?_
    have hR := Option.some.inj hF
    subst hR
    refine (zI (zB (And.intro ?_ ?_)))
    ·repeat' (first | with_reducible exact zN | refine zV rfl ?_ | refine zO rfl rfl ?_)
    exact ⟨(), (zK rfl zQ), H.pick [0, 1, 3] (by decide)⟩
   rintro _ ρ w910 H
   have hF := hK911
   refine yF (b := g909) rfl (fun c935 => ?_) (fun c935 => ?_)
   ·have hF := zW c935 hF
    refine zD fun K936 hK936 => ?_
    refine zC ?_
    refine zA rfl rfl (zG (v := .int .i64 g772) rfl) ?_
    refine zA rfl rfl (zF (v := .int .i64 g772) rfl) ?_
    refine zA rfl rfl (zF (v := .int .i64 9) rfl) ?_
    refine (zI (zB (hK936 _ _ ?_)))
    have hR := Option.some.inj hF
    subst hR
    refine (yG (yM (yM (zZ (zZ (yM (zZ (post2 (v1 := .int .i64 g772) (v2 := .int .i64 9) rfl rfl rfl ?_))))))))
    exact ⟨rfl, H.pick [] (by decide)⟩
   have hF := zX c935 hF
   obtain ⟨g942, hF, hK944⟩ := zJ hF
   refine yL [40, 41, 42, 43, 44, 45, 46, 47, 48] (fun (g : Unit) => [(40, .bool g942)]) (fun g wl => Hd O w wl S [.fz (.sl rSample v1 p0.Samples), .blk b4 [.int .i64 p0.Den, v1] 76, .blk b882 [.int .i64 x870.At, .int .i64 x870.N, .int .i64 x870.Mark] 109]) ?_ ?_
   ·skip
    refine zC ?_
    refine zA rfl rfl (fa109_1 rfl) ?_
    refine zA rfl rfl (zU one3 rfl (Cells.get (Blk.cells (H.item (i := 2) rfl)) (i := 1) rfl)) ?_
    obtain ⟨x945, e946, hF⟩ := zH hF
    refine zA rfl rfl (zT (Do_neq (a := x870.N) (b := 0) rfl rfl) (congrArg Value.bool e946)) ?_
    refine yO (b := x945) rfl rfl rfl (fun c947 => ?_) (fun c947 => ?_)
    ·have hF := zW c947 hF
     refine zA rfl rfl (fa109_2 rfl) ?_
     refine zA rfl rfl (zU one3 rfl (Cells.get (Blk.cells (H.item (i := 2) rfl)) (i := 2) rfl)) ?_
     obtain ⟨x948, e949, hF⟩ := zH hF
     refine zA rfl rfl (zT (Do_leq (a := x870.Mark) (b := 1) rfl rfl) (congrArg Value.bool e949)) ?_
     refine zA rfl rfl (yI (v := .bool x948) rfl rfl) ?_
     refine zA rfl rfl (zF (v := .bool x948) rfl) ?_
     have hR := Option.some.inj hF
     subst hR
     refine (zI (zB (And.intro ?_ ?_)))
     ·repeat' (first | with_reducible exact zN | refine zV rfl ?_ | refine zO rfl rfl ?_)
     exact ⟨(), (zK rfl zQ), H.pick [0, 1, 2] (by decide)⟩
    have hF := zX c947 hF
    refine zM rfl rfl ?_
    refine zM rfl rfl ?_
    refine zM rfl rfl ?_
    refine zA rfl rfl (yH (v := .bool false) rfl rfl) ?_
    refine zA rfl rfl (zF (v := .bool false) rfl) ?_
    have hR := Option.some.inj hF
    subst hR
    refine (zI (zB (And.intro ?_ ?_)))
    ·repeat' (first | with_reducible exact zN | refine zV rfl ?_ | refine zO rfl rfl ?_)
    exact ⟨(), (zK rfl zQ), H.pick [0, 1, 2] (by decide)⟩
   rintro _ ρ w943 H
   have hF := hK944
   refine yF (b := g942) rfl (fun c950 => ?_) (fun c950 => ?_)
   ·have hF := zW c950 hF
    refine zD fun K951 hK951 => ?_
    refine zC ?_
    refine zA rfl rfl (zG (v := .int .i64 g772) rfl) ?_
    refine zA rfl rfl (zF (v := .int .i64 g772) rfl) ?_
    refine zA rfl rfl (zF (v := .int .i64 2) rfl) ?_
    refine (zI (zB (hK951 _ _ ?_)))
    have hR := Option.some.inj hF
    subst hR
    refine (yG (yM (yM (zZ (zZ (yM (zZ (post2 (v1 := .int .i64 g772) (v2 := .int .i64 2) rfl rfl rfl ?_))))))))
    exact ⟨rfl, H.pick [] (by decide)⟩
   have hF := zX c950 hF
   obtain ⟨g975, hF, hK977⟩ := zJ hF
   refine yL [50, 51, 52, 53, 54, 55, 56, 57, 58, 59, 60, 61, 62, 63, 64] (fun (g : Unit) => [(50, .bool g975)]) (fun g wl => Hd O w wl S [.fz (.sl rSample v1 p0.Samples), .blk b4 [.int .i64 p0.Den, v1] 76]) ?_ ?_
   ·skip
    have H978 := H
    have H := H.rebase
    have H979 := H
    refine WP_mix0 H [0, 1, 2, 3, 4, 5, 6, 7, 8, 9, 10, 11, 12, 13, 14] [.pure, .pure, .pure, .pure, .read, .pure, .read, .pure, .pure, .pure, .pure, .read, .pure, .pure, .pure] mixed (by kernel_rfl) (by kernel_rfl) (by kernel_rfl) rfl ?_
    refine Mx.zS rfl rfl rfl (fun w' hw' => zG (v := .int .i64 g772) rfl) ?_
    obtain ⟨x980, e981, hF⟩ := zH hF
    refine Mx.zS rfl rfl rfl (fun w' hw' => zT (wF (a := g772) (b := 0) rfl rfl) (congrArg Value.bool e981)) ?_
    refine Mx.XL_splitb (b := x980) rfl rfl rfl rfl (fun c982 => ?_) (fun c982 => ?_)
    ·have hF := zW c982 hF
     refine Mx.zS rfl rfl rfl (fun w' hw' => fa109_0 rfl) ?_
     refine Mx.xM oS rfl rfl rfl (fun w' hw' => zU one3 rfl (Cells.get (Blk.cells ((H.sees hw').item (i := 2) rfl)) (i := 0) rfl)) ?_
     refine Mx.zS rfl rfl rfl (fun w' hw' => fa76_1 rfl) ?_
     refine Mx.xM oS rfl rfl rfl (fun w' hw' => zU one74 rfl (Cells.get (Blk.cells ((H.sees hw').item (i := 1) rfl)) (i := 1) rfl)) ?_
     refine Mx.zS rfl rfl rfl (fun w' hw' => zG (v := .int .i64 g772) rfl) ?_
     obtain ⟨x983, e984, hF⟩ := zH hF
     refine Mx.zS rfl rfl rfl (fun w' hw' => Do_sub (a := g772) (b := 1) rfl rfl e984) ?_
     obtain ⟨x985, e986, hF⟩ := zJ hF
     obtain ⟨b987, o988, c989, cs990, q991, h994, h992, h993, h995⟩ := wB (H.item (i := 0) rfl) e986
     obtain rfl := rSample_open h994
     have H := H.fz (.at b987 (o988 + x983.toNat * 3) _) ⟨h992, h993, h995⟩
     refine Mx.zS rfl rfl rfl (fun w' hw' => xG u74 sz109 q991 rfl (yD e986).1 (yD e986).2.1 rfl rfl) ?_
     refine Mx.zS rfl rfl rfl (fun w' hw' => fa109_0 rfl) ?_
     refine Mx.xM oS rfl rfl rfl (fun w' hw' => zU one3 rfl (Cells.get ((H.sees hw').item (i := 3) rfl).2.2 (i := 0) rfl)) ?_
     obtain ⟨x997, e998, hF⟩ := zH hF
     refine Mx.zS rfl rfl rfl (fun w' hw' => zT (Do_leq (a := x870.At) (b := x985.At) rfl rfl) (congrArg Value.bool e998)) ?_
     refine Mx.zS rfl rfl rfl (fun w' hw' => yI (v := .bool x997) rfl rfl) ?_
     refine Mx.zS rfl rfl rfl (fun w' hw' => zF (v := .bool x997) rfl) ?_
     refine Mx.wG fun w999 hS => ?_
     have H := H.sees hS
     have H := H978.rejoin H
     have hR := Option.some.inj hF
     subst hR
     refine (zB (And.intro ?_ ?_))
     ·repeat' (first | with_reducible exact zN | refine zV rfl ?_ | refine zO rfl rfl ?_)
     exact ⟨(), (zK rfl zQ), H.pick [0, 1] (by decide)⟩
    have hF := zX c982 hF
    refine Mx.xX rfl rfl rfl ?_
    refine Mx.XL_offr oS rfl rfl rfl ?_
    refine Mx.xX rfl rfl rfl ?_
    refine Mx.XL_offr oS rfl rfl rfl ?_
    refine Mx.xX rfl rfl rfl ?_
    refine Mx.xX rfl rfl rfl ?_
    refine Mx.xX rfl rfl rfl ?_
    refine Mx.xX rfl rfl rfl ?_
    refine Mx.XL_offr oS rfl rfl rfl ?_
    refine Mx.xX rfl rfl rfl ?_
    refine Mx.zS rfl rfl rfl (fun w' hw' => yH (v := .bool false) rfl rfl) ?_
    refine Mx.zS rfl rfl rfl (fun w' hw' => zF (v := .bool false) rfl) ?_
    refine Mx.wG fun w1000 hS => ?_
    have H := H.sees hS
    have H := H978.rejoin H
    have hR := Option.some.inj hF
    subst hR
    refine (zB (And.intro ?_ ?_))
    ·repeat' (first | with_reducible exact zN | refine zV rfl ?_ | refine zO rfl rfl ?_)
    exact ⟨(), (zK rfl zQ), H.pick [0, 1] (by decide)⟩
   rintro _ ρ w976 H
   have hF := hK977
   refine yF (b := g975) rfl (fun c1001 => ?_) (fun c1001 => ?_)
   ·have hF := zW c1001 hF
    refine zD fun K1002 hK1002 => ?_
    refine zC ?_
    refine zA rfl rfl (zG (v := .int .i64 g772) rfl) ?_
    refine zA rfl rfl (zF (v := .int .i64 g772) rfl) ?_
    refine zA rfl rfl (zF (v := .int .i64 10) rfl) ?_
    refine (zI (zB (hK1002 _ _ ?_)))
    have hR := Option.some.inj hF
    subst hR
    refine (yG (yM (yM (zZ (zZ (yM (zZ (post2 (v1 := .int .i64 g772) (v2 := .int .i64 10) rfl rfl rfl ?_))))))))
    exact ⟨rfl, H.pick [] (by decide)⟩
   have hF := zX c1001 hF
   refine (yA (yU (yU (zB (hK868 _ _ ?_)))))
   refine zC ?_
   obtain ⟨x1003, e1004, hF⟩ := zH hF
   refine zA rfl rfl (xJ (a := g772) (b := 1) rfl rfl e1004) ?_
   refine zA rfl rfl (zG (v := .int .i64 x1003) rfl) ?_
   refine (zI (zB (And.intro ?_ ?_)))
   ·repeat' (first | with_reducible exact zN | refine zV rfl ?_ | refine zO rfl rfl ?_)
   exact ⟨(n778, x1003), (zK rfl zQ), ⟨H.pick [0, 1] (by decide), hF⟩, Nat.lt_succ_self _⟩
  have hF := zX c784 hF
  refine (xB (yN (yN (yR (zB (And.intro ?_ ?_))))))
  ·repeat' (first | with_reducible exact zN | refine zV rfl ?_ | refine zO rfl rfl ?_)
  exact ⟨(), zQ, ⟨H.pick [] (by decide), hF⟩⟩
 rintro _ ρ w412 ⟨H, hF⟩
 have hF := xZ ek414 hF
 refine zD fun K1005 hK1005 => ?_
 refine zC ?_
 refine zA rfl rfl (zF (v := .int .i64 (-1)) rfl) ?_
 refine zA rfl rfl (zF (v := .int .i64 0) rfl) ?_
 refine (zI (zB (hK1005 _ _ ?_)))
 have hR := Option.some.inj hF
 subst hR
 refine (yG (post2 (v1 := .int .i64 (-1)) (v2 := .int .i64 0) rfl rfl rfl ?_))
 exact ⟨rfl, H.pick [] (by decide)⟩
end Go.Proofs.YtbjhondbheijiaaGreatDoor.L
namespace Go.Proofs.YtbjhondbheijiaaGreatDoor.L
open Go.RowKit Go.OB Go.Lf
/- orangebox/series.Check -/
set_option maxHeartbeats 4000000 in
theorem F_series_Check_w (p0 : Series) (v1 : Value) (r : Int) (hF : F_series_Check p0 = some r) (O S : List Nat) (w : World) (H : Hd O w w S [.fz (.sl rSample v1 p0.Samples)]) :
  Calls Tryz.prog 100 ([.agg [.int .i64 p0.Den, v1].toArray] : List Value).toArray w fun e w' => e = .returned (.int .i64 r) ∧ Hd O w w' S [] := by
 unfold F_series_Check at hF
 refine yB 11 Tryz.func100 rfl rfl rfl ?_
 refine zD fun K3 hK3 => ?_
 refine zC ?_
 refine xE rfl rfl (Lx_box (cs := [.int .i64 p0.Den, v1]) rfl H) ?_
 rintro _ w6 ⟨b4, rfl, H⟩
 refine zA rfl rfl (zF (v := .int .i64 0) rfl) ?_
 refine (zI (zB (hK3 _ _ ?_)))
 refine zD fun K7 hK7 => ?_
 refine zC ?_
 refine zA rfl rfl (zT (yV (cs := [.int .i64 p0.Den, v1]) agg76 rfl sz76 rfl (Blk.cells (H.item (i := 1) rfl))) rfl) ?_
 have H8 := H
 obtain ⟨⟨x9, x10⟩, e11, hF⟩ := zJ hF
 refine yJ rfl rfl (yC en110 rfl) (F_series_check_w p0 v1 _ e11 _ _ _ (H.enter [] [0] (by decide) rfl)) ?_
 rintro _ w12 ⟨rfl, G13⟩
 have H := H8.step (G13.only : Only [] _ _)
 refine ⟨_, rfl, ?_⟩
 refine zA rfl rfl (zG (v := .tuple #[.int .i64 x9, .int .i64 x10]) rfl) ?_
 refine zA rfl rfl (yQ (v := .int .i64 x9) rfl rfl) ?_
 refine zA rfl rfl (yQ (v := .int .i64 x10) rfl rfl) ?_
 refine zA rfl rfl (zF (v := .int .i64 x9) rfl) ?_
 refine zA rfl rfl (zF (v := .int .i64 x10) rfl) ?_
 refine (zI (zB (hK7 _ _ ?_)))
 refine zD fun K14 hK14 => ?_
 refine zC ?_
 refine zA rfl rfl (zG (v := .int .i64 x10) rfl) ?_
 refine zA rfl rfl (zF (v := .int .i64 x10) rfl) ?_
 refine (zI (zB (hK14 _ _ ?_)))
 have hR := Option.some.inj hF
 subst hR
 refine (yG (post1 (v1 := .int .i64 x10) rfl rfl ?_))
 exact ⟨rfl, H.pick [] (by decide)⟩
end Go.Proofs.YtbjhondbheijiaaGreatDoor.L
namespace Go.Proofs.YtbjhondbheijiaaGreatDoor.L
open Go.RowKit Go.OB Go.Lf
/- orangebox/event.CheckTracks -/
set_option maxHeartbeats 4000000 in
theorem F_event_CheckTracks_w (p0 : List Track) (v1 : Value) (r : Int) (hF : F_event_CheckTracks p0 = some r) (O S : List Nat) (w : World) (H : Hd O w w S [.fz (.sl rTrack v1 p0)]) :
  Calls Tryz.prog 75 ([v1] : List Value).toArray w fun e w' => e = .returned (.int .i64 r) ∧ Hd O w w' S [] := by
 unfold F_event_CheckTracks at hF
 refine yB 36 Tryz.func75 rfl rfl rfl ?_
 refine zD fun K3 hK3 => ?_
 refine zC ?_
 refine zA rfl rfl (zF (v := .int .i64 0) rfl) ?_
 refine (zI (zB (hK3 _ _ ?_)))
 refine zD fun K14 hK14 => ?_
 refine zD fun K15 hK15 => ?_
 refine zC ?_
 refine zA rfl rfl (zG (v := v1) rfl) ?_
 obtain ⟨x16, e17, hF⟩ := zH hF
 obtain ⟨a18, c19, q20⟩ := SlF.len ((H.item (i := 0) rfl))
 refine zA rfl rfl (zT (xI u68 q20) (congrArg (Value.int .i64) e17)) ?_
 obtain ⟨x21, e22, hF⟩ := zH hF
 refine zA rfl rfl (zT (wF (a := x16) (b := 50) rfl rfl) (congrArg Value.bool e22)) ?_
 refine (zI (zB (hK15 _ _ ?_)))
 refine yF (b := x21) rfl (fun c23 => ?_) (fun c23 => ?_)
 ·have hF := zW c23 hF
  refine zD fun K24 hK24 => ?_
  refine zC ?_
  refine zA rfl rfl (zF (v := .int .i64 3) rfl) ?_
  refine (zI (zB (hK24 _ _ ?_)))
  have hR := Option.some.inj hF
  subst hR
  refine (yG (zZ (post1 (v1 := .int .i64 3) rfl rfl ?_)))
  exact ⟨rfl, H.pick [] (by decide)⟩
 have hF := zX c23 hF
 refine (yA (zB (hK14 _ _ ?_)))
 obtain ⟨k453, ek454, hF⟩ := xU hF
 refine yL [2, 3, 4, 5, 9, 10, 11, 12, 13, 14, 15, 16, 17, 18, 19, 20, 21, 22, 23, 24, 25, 26, 27, 28, 29, 30, 31, 32, 33, 34, 35] (fun (g : Unit) => []) (fun g wl => Hd O w wl S [] ∧ k453 () = some r) ?_ ?_
 ·skip
  refine zD fun K455 hK455 => ?_
  refine zC ?_
  refine zA rfl rfl (zG (v := v1) rfl) ?_
  obtain ⟨x456, e457, hF⟩ := zH hF
  obtain ⟨a458, c459, q460⟩ := SlF.len ((H.item (i := 0) rfl))
  refine zA rfl rfl (zT (xI u68 q460) (congrArg (Value.int .i64) e457)) ?_
  refine zA rfl rfl (zG (v := .int .i64 0) rfl) ?_
  refine (zI (zB (hK455 _ _ ?_)))
  refine yK ?_
  unfold F_event_CheckTracks_L1 at hF
  obtain ⟨B877, n878, eB879, hF⟩ := yT hF
  refine xC [2, 3, 4, 5, 11, 12, 13, 14, 15, 16, 17, 18, 19, 20, 21, 22, 23, 24, 25, 26, 27, 28, 29, 30, 31, 32, 33, 34, 35] (fun (g : Nat × Int) => [(11, .int .i64 g.2)]) (fun g wl => Hd O w wl S [.fz (.sl rTrack v1 p0)] ∧ loopN B877 g.1 g.2 = some r) (fun g => g.1) (n878, 0) (zK rfl zQ) ⟨H.pick [0] (by decide), hF⟩ ?_
  clear H hF
  rintro ⟨n878, g876⟩ ρ w881 ⟨H, hF⟩
  obtain ⟨n882, rfl, hF⟩ := yX hF
  have hF := yY eB879 hF
  refine zD fun K883 hK883 => ?_
  refine zC ?_
  obtain ⟨x884, e885, hF⟩ := zH hF
  refine zA rfl rfl (zT (xK (a := g876) (b := x456) rfl rfl) (congrArg Value.bool e885)) ?_
  refine (zI (zB (hK883 _ _ ?_)))
  refine zD fun K887 hK887 => ?_
  refine yF (b := x884) rfl (fun c888 => ?_) (fun c888 => ?_)
  ·have hF := zW c888 hF
   refine (yA (zB (hK887 _ _ ?_)))
   refine zD fun K988 hK988 => ?_
   refine yK ?_
   refine zD fun K989 hK989 => ?_
   refine zC ?_
   refine zA rfl rfl (zG (v := .int .i64 g876) rfl) ?_
   obtain ⟨x990, e991, hF⟩ := zJ hF
   obtain ⟨b992, o993, c994, cs995, q996, h999, h997, h998, h1000⟩ := wB (H.item (i := 0) rfl) e991
   obtain ⟨v1001, rfl, h1002⟩ := rTrack_open h999
   have H := H.fzs [.at b992 (o993 + g876.toNat * 4) _, .sl rSample v1001 x990.Series.Samples] ⟨⟨h997, h998, h1000⟩, h1002, trivial⟩
   refine zA rfl rfl (xG u68 sz78 q996 rfl (yD e991).1 (yD e991).2.1 rfl rfl) ?_
   refine zA rfl rfl (zT (yV (cs := [.string (bs x990.Name), .int .i64 x990.Series.Den, v1001, .int .i64 x990.Long]) agg78 rfl sz78 rfl (H.item (i := 1) rfl).2.2) rfl) ?_
   refine xE rfl rfl (xR zero78 H) ?_
   rintro _ w1007 ⟨b1005, rfl, H⟩
   refine zA rfl rfl (zF (v := .int .i64 g876) rfl) ?_
   refine xO rfl (xA (vs := [.string (bs x990.Name), .int .i64 x990.Series.Den, v1001, .int .i64 x990.Long]) H 3 rfl sz78 rfl rfl rfl ⟨rfl, rfl, (slf_one (H.item (i := 2) rfl)), rfl, trivial⟩ rfl) ?_
   rintro w1008 H
   refine (zI (zB (hK989 _ _ ?_)))
   refine zD fun K1019 hK1019 => ?_
   refine zD fun K1020 hK1020 => ?_
   refine zC ?_
   refine zA rfl rfl (fa78_0 rfl) ?_
   refine zA rfl rfl (zU one9 rfl (Cells.get (Blk.cells (H.item (i := 3) rfl)) (i := 0) rfl)) ?_
   have H1021 := H
   obtain ⟨x1022, e1023, hF⟩ := zJ hF
   refine yJ rfl rfl (yC en55 rfl) (F_event_isName_w x990.Name _ e1023 _ _ _ (H.enter [] [] (by decide) rfl)) ?_
   rintro _ w1024 ⟨rfl, G1025⟩
   have H := H1021.step (G1025.only : Only [] _ _)
   refine ⟨_, rfl, ?_⟩
   obtain ⟨x1026, e1027, hF⟩ := zH hF
   refine zA rfl rfl (zT (xY (p := x1022) rfl) (congrArg Value.bool e1027)) ?_
   refine (zI (zB (hK1020 _ _ ?_)))
   refine yF (b := x1026) rfl (fun c1028 => ?_) (fun c1028 => ?_)
   ·have hF := zW c1028 hF
    refine zD fun K1029 hK1029 => ?_
    refine zC ?_
    refine zA rfl rfl (zF (v := .int .i64 8) rfl) ?_
    refine (zI (zB (hK1029 _ _ ?_)))
    have hR := Option.some.inj hF
    subst hR
    refine (yG (zZ (yM (zZ (zZ (yM (zZ (post1 (v1 := .int .i64 8) rfl rfl ?_))))))))
    exact ⟨rfl, H.pick [] (by decide)⟩
   have hF := zX c1028 hF
   refine (yA (zB (hK1019 _ _ ?_)))
   refine zD fun K1042 hK1042 => ?_
   refine zD fun K1043 hK1043 => ?_
   refine zC ?_
   refine zA rfl rfl (zG (v := v1) rfl) ?_
   refine zA rfl rfl (zG (v := .int .i64 g876) rfl) ?_
   obtain ⟨x1044, e1045, hF⟩ := zJ hF
   refine RL_exP rfl rfl (Lx_slice_h u68 sz78 (H.item (i := 0) rfl) rfl rfl e1045) ?_
   rintro v1046 h1047
   have H := H.fz (.sl rTrack v1046 x1044) h1047
   refine zA rfl rfl (Do_makeFunc rfl) ?_
   obtain ⟨x1049, e1050, hF⟩ := zJ hF
   refine yJ rfl rfl (yC en98 rfl) (F_slices_ContainsFunc___api_Track_api_Track__event_CheckTracks_1_w x1044 x990 v1046 b1005 v1001 _ e1050 _ _ _ (H.enter [3] [4, 2] (by decide) rfl)) ?_
   rintro _ w1051 ⟨rfl, G1052⟩
   have H : Hd O _ w1051 _ [.fz (.sl rTrack v1 p0), .fz (.at b992 (o993 + g876.toNat * 4) [.string (bs x990.Name), .int .i64 x990.Series.Den, v1001, .int .i64 x990.Long]), .fz (.sl rSample v1001 x990.Series.Samples), .fz (.sl rTrack v1046 x1044), .blk b1005 [.string (bs x990.Name), .int .i64 x990.Series.Den, v1001, .int .i64 x990.Long] 78] := H.back [3] [4, 2] rfl G1052
   refine ⟨_, rfl, ?_⟩
   refine (zI (zB (hK1043 _ _ ?_)))
   refine yF (b := x1049) rfl (fun c1053 => ?_) (fun c1053 => ?_)
   ·have hF := zW c1053 hF
    refine zD fun K1054 hK1054 => ?_
    refine zC ?_
    refine zA rfl rfl (zF (v := .int .i64 5) rfl) ?_
    refine (zI (zB (hK1054 _ _ ?_)))
    have hR := Option.some.inj hF
    subst hR
    refine (yG (zZ (yM (zZ (zZ (yM (zZ (post1 (v1 := .int .i64 5) rfl rfl ?_))))))))
    exact ⟨rfl, H.pick [] (by decide)⟩
   have hF := zX c1053 hF
   refine (yA (zB (hK1042 _ _ ?_)))
   refine zD fun K1066 hK1066 => ?_
   refine zD fun K1067 hK1067 => ?_
   refine zC ?_
   refine zA rfl rfl (fa78_1 rfl) ?_
   refine zA rfl rfl (zT (yV (cs := [.int .i64 x990.Series.Den, v1001]) agg76 rfl sz76 rfl (Cells.drop (Blk.cells (H.item (i := 4) rfl)) 1 2)) rfl) ?_
   have H1068 := H
   obtain ⟨x1069, e1070, hF⟩ := zJ hF
   refine yJ rfl rfl (yC en100 rfl) (F_series_Check_w x990.Series v1001 _ e1070 _ _ _ (H.enter [] [2] (by decide) rfl)) ?_
   rintro _ w1071 ⟨rfl, G1072⟩
   have H := H1068.step (G1072.only : Only [] _ _)
   refine ⟨_, rfl, ?_⟩
   refine zA rfl rfl (zF (v := .int .i64 x1069) rfl) ?_
   refine (zI (zB (hK1067 _ _ ?_)))
   refine zD fun K1073 hK1073 => ?_
   refine zC ?_
   refine zA rfl rfl (zG (v := .int .i64 x1069) rfl) ?_
   obtain ⟨x1074, e1075, hF⟩ := zH hF
   refine zA rfl rfl (zT (Do_neq (a := x1069) (b := 0) rfl rfl) (congrArg Value.bool e1075)) ?_
   refine (zI (zB (hK1073 _ _ ?_)))
   refine yF (b := x1074) rfl (fun c1076 => ?_) (fun c1076 => ?_)
   ·have hF := zW c1076 hF
    refine zD fun K1077 hK1077 => ?_
    refine zC ?_
    refine zA rfl rfl (zG (v := .int .i64 x1069) rfl) ?_
    refine zA rfl rfl (zF (v := .int .i64 x1069) rfl) ?_
    refine (zI (zB (hK1077 _ _ ?_)))
    have hR := Option.some.inj hF
    subst hR
    refine (yG (zZ (yM (zZ (zZ (yM (zZ (post1 (v1 := .int .i64 x1069) rfl rfl ?_))))))))
    exact ⟨rfl, H.pick [] (by decide)⟩
   have hF := zX c1076 hF
   refine (yA (zB (hK1066 _ _ ?_)))
   refine zD fun K1078 hK1078 => ?_
   refine zC ?_
   refine zA rfl rfl (fa78_2 rfl) ?_
   refine zA rfl rfl (zU one3 rfl (Cells.get (Blk.cells (H.item (i := 4) rfl)) (i := 3) rfl)) ?_
   have H1079 := H
   obtain ⟨x1080, e1081, hF⟩ := zJ hF
   refine yJ rfl rfl (yC en77 rfl) (F_event_within_w x990.Long 0 1099511627776 _ e1081 _ _ _ (H.enter [] [] (by decide) rfl)) ?_
   rintro _ w1082 ⟨rfl, G1083⟩
   have H := H1079.step (G1083.only : Only [] _ _)
   refine ⟨_, rfl, ?_⟩
   obtain ⟨x1084, e1085, hF⟩ := zH hF
   refine zA rfl rfl (zT (xY (p := x1080) rfl) (congrArg Value.bool e1085)) ?_
   refine (zI (zB (hK1078 _ _ ?_)))
   refine yF (b := x1084) rfl (fun c1086 => ?_) (fun c1086 => ?_)
   ·have hF := zW c1086 hF
    refine zD fun K1087 hK1087 => ?_
    refine zC ?_
    refine zA rfl rfl (zF (v := .int .i64 9) rfl) ?_
    refine (zI (zB (hK1087 _ _ ?_)))
    have hR := Option.some.inj hF
    subst hR
    refine (yG (yM (zZ (zZ (yM (zZ (post1 (v1 := .int .i64 9) rfl rfl ?_)))))))
    exact ⟨rfl, H.pick [] (by decide)⟩
   have hF := zX c1086 hF
   refine (yA (yU (zB (hK988 _ _ ?_))))
   refine zC ?_
   obtain ⟨x1088, e1089, hF⟩ := zH hF
   refine zA rfl rfl (xJ (a := g876) (b := 1) rfl rfl e1089) ?_
   refine zA rfl rfl (zG (v := .int .i64 x1088) rfl) ?_
   refine (zI (zB (And.intro ?_ ?_)))
   ·repeat' (first | with_reducible exact zN | refine zV rfl ?_ | refine zO rfl rfl ?_)
   exact ⟨(n882, x1088), (zK rfl zQ), ⟨H.pick [0] (by decide), hF⟩, Nat.lt_succ_self _⟩
  have hF := zX c888 hF
  refine (xB (yN (yN (yR (zB (And.intro ?_ ?_))))))
  ·repeat' (first | with_reducible exact zN | refine zV rfl ?_ | refine zO rfl rfl ?_)
  exact ⟨(), zQ, ⟨H.pick [] (by decide), hF⟩⟩
 rintro _ ρ w452 ⟨H, hF⟩
 have hF := xZ ek454 hF
 refine zD fun K1090 hK1090 => ?_
 refine zC ?_
 refine zA rfl rfl (zF (v := .int .i64 0) rfl) ?_
 refine (zI (zB (hK1090 _ _ ?_)))
 have hR := Option.some.inj hF
 subst hR
 refine (yG (post1 (v1 := .int .i64 0) rfl rfl ?_))
 exact ⟨rfl, H.pick [] (by decide)⟩
end Go.Proofs.YtbjhondbheijiaaGreatDoor.L
namespace Go.Proofs.YtbjhondbheijiaaGreatDoor.L
open Go.RowKit Go.OB Go.Lf
/- orangebox/fleet.CheckFlight -/
set_option maxHeartbeats 4000000 in
theorem F_fleet_CheckFlight_w (p0 : Flight) (v1 : Value) (r : Int) (hF : F_fleet_CheckFlight p0 = some r) (O S : List Nat) (w : World) (H : Hd O w w S [.fz (.sl rTrack v1 p0.Tracks)]) :
  Calls Tryz.prog 51 ([.agg [.string (bs p0.Tail), .string (bs p0.Route), .int .i64 p0.Day, .int .i64 p0.From, .int .i64 p0.To, v1].toArray] : List Value).toArray w fun e w' => e = .returned (.int .i64 r) ∧ Hd O w w' S [] := by
 unfold F_fleet_CheckFlight at hF
 refine yB 58 Tryz.func51 rfl rfl rfl ?_
 refine zD fun K3 hK3 => ?_
 refine zC ?_
 refine xE rfl rfl (Lx_box (cs := [.string (bs p0.Tail), .string (bs p0.Route), .int .i64 p0.Day, .int .i64 p0.From, .int .i64 p0.To, v1]) rfl H) ?_
 rintro _ w6 ⟨b4, rfl, H⟩
 refine zA rfl rfl (zF (v := .int .i64 0) rfl) ?_
 refine (zI (zB (hK3 _ _ ?_)))
 refine zD fun K77 hK77 => ?_
 refine yK ?_
 obtain ⟨g103, hF, hK105⟩ := zJ hF
 refine yL [3, 4, 5, 6, 7, 8, 9, 10, 11, 12, 13, 14, 15, 16, 17, 18] (fun (g : Unit) => [(3, .bool g103)]) (fun g wl => Hd O w wl S [.blk b4 [.string (bs p0.Tail), .string (bs p0.Route), .int .i64 p0.Day, .int .i64 p0.From, .int .i64 p0.To, v1] 70, .fz (.sl rTrack v1 p0.Tracks)]) ?_ ?_
 ·skip
  refine zC ?_
  refine zA rfl rfl (fa70_0 rfl) ?_
  refine zA rfl rfl (zU one9 rfl (Cells.get (Blk.cells (H.item (i := 1) rfl)) (i := 0) rfl)) ?_
  obtain ⟨x106, e107, hF⟩ := zH hF
  refine zA rfl rfl (zT (Do_neqs (s1 := p0.Tail) (s2 := []) rfl rfl) (congrArg Value.bool e107)) ?_
  refine yO (b := x106) rfl rfl rfl (fun c108 => ?_) (fun c108 => ?_)
  ·have hF := zW c108 hF
   refine zA rfl rfl (fa70_0 rfl) ?_
   refine zA rfl rfl (zU one9 rfl (Cells.get (Blk.cells (H.item (i := 1) rfl)) (i := 0) rfl)) ?_
   have H109 := H
   obtain ⟨x110, e111, hF⟩ := zJ hF
   refine yJ rfl rfl (yC en28 rfl) (F_event_IsName_w p0.Tail _ e111 _ _ _ (H.enter [] [] (by decide) rfl)) ?_
   rintro _ w112 ⟨rfl, G113⟩
   have H := H109.step (G113.only : Only [] _ _)
   refine ⟨_, rfl, ?_⟩
   obtain ⟨x114, e115, hF⟩ := zH hF
   refine zA rfl rfl (zT (xY (p := x110) rfl) (congrArg Value.bool e115)) ?_
   refine zA rfl rfl (yI (v := .bool x114) rfl rfl) ?_
   refine yO (b := x114) rfl rfl rfl (fun c116 => ?_) (fun c116 => ?_)
   ·have hF := zW c116 hF
    refine zM rfl rfl ?_
    refine zM rfl rfl ?_
    refine zM rfl rfl ?_
    refine zM rfl rfl ?_
    refine zA rfl rfl (yI (v := .bool true) rfl rfl) ?_
    refine zA rfl rfl (zF (v := .bool true) rfl) ?_
    have hR := Option.some.inj hF
    subst hR
    refine (zI (zB (And.intro ?_ ?_)))
    ·repeat' (first | with_reducible exact zN | refine zV rfl ?_ | refine zO rfl rfl ?_)
    exact ⟨(), (zK rfl zQ), H.pick [1, 0] (by decide)⟩
   have hF := zX c116 hF
   refine zA rfl rfl (fa70_1 rfl) ?_
   refine zA rfl rfl (zU one9 rfl (Cells.get (Blk.cells (H.item (i := 1) rfl)) (i := 1) rfl)) ?_
   have H117 := H
   obtain ⟨x118, e119, hF⟩ := zJ hF
   refine yJ rfl rfl (yC en28 rfl) (F_event_IsName_w p0.Route _ e119 _ _ _ (H.enter [] [] (by decide) rfl)) ?_
   rintro _ w120 ⟨rfl, G121⟩
   have H := H117.step (G121.only : Only [] _ _)
   refine ⟨_, rfl, ?_⟩
   obtain ⟨x122, e123, hF⟩ := zH hF
   refine zA rfl rfl (zT (xY (p := x118) rfl) (congrArg Value.bool e123)) ?_
   refine zA rfl rfl (yH (v := .bool x122) rfl rfl) ?_
   refine zA rfl rfl (zF (v := .bool x122) rfl) ?_
   have hR := Option.some.inj hF
   subst hR
   refine (zI (zB (And.intro ?_ ?_)))
   ·repeat' (first | with_reducible exact zN | refine zV rfl ?_ | refine zO rfl rfl ?_)
   exact ⟨(), (zK rfl zQ), H.pick [1, 0] (by decide)⟩
  have hF := zX c108 hF
  refine zM rfl rfl ?_
  refine zM rfl rfl ?_
  refine zM rfl rfl ?_
  refine zM rfl rfl ?_
  refine zA rfl rfl (yH (v := .bool false) rfl rfl) ?_
  refine zA rfl rfl (zG (v := .bool false) rfl) ?_
  refine zA rfl rfl (fa70_1 rfl) ?_
  refine zA rfl rfl (zU one9 rfl (Cells.get (Blk.cells (H.item (i := 1) rfl)) (i := 1) rfl)) ?_
  have H124 := H
  obtain ⟨x125, e126, hF⟩ := zJ hF
  refine yJ rfl rfl (yC en28 rfl) (F_event_IsName_w p0.Route _ e126 _ _ _ (H.enter [] [] (by decide) rfl)) ?_
  rintro _ w127 ⟨rfl, G128⟩
  have H := H124.step (G128.only : Only [] _ _)
  refine ⟨_, rfl, ?_⟩
  obtain ⟨x129, e130, hF⟩ := zH hF
  refine zA rfl rfl (zT (xY (p := x125) rfl) (congrArg Value.bool e130)) ?_
  refine zA rfl rfl (yH (v := .bool x129) rfl rfl) ?_
  refine zA rfl rfl (zF (v := .bool x129) rfl) ?_
  have hR := Option.some.inj hF
  subst hR
  refine (zI (zB (And.intro ?_ ?_)))
  ·repeat' (first | with_reducible exact zN | refine zV rfl ?_ | refine zO rfl rfl ?_)
  exact ⟨(), (zK rfl zQ), H.pick [1, 0] (by decide)⟩
 rintro _ ρ w104 H
 have hF := hK105
 refine yF (b := g103) rfl (fun c131 => ?_) (fun c131 => ?_)
 ·have hF := zW c131 hF
  refine zD fun K132 hK132 => ?_
  refine zC ?_
  refine zA rfl rfl (zF (v := .int .i64 8) rfl) ?_
  refine (zI (zB (hK132 _ _ ?_)))
  have hR := Option.some.inj hF
  subst hR
  refine (yG (yM (zZ (post1 (v1 := .int .i64 8) rfl rfl ?_))))
  exact ⟨rfl, H.pick [] (by decide)⟩
 have hF := zX c131 hF
 obtain ⟨g149, hF, hK151⟩ := zJ hF
 refine yL [19, 20, 21, 22, 23, 24, 25, 26, 27, 28, 29, 30, 31, 32, 33, 34, 35, 36, 37, 38, 39, 40] (fun (g : Unit) => [(19, .bool g149)]) (fun g wl => Hd O w wl S [.blk b4 [.string (bs p0.Tail), .string (bs p0.Route), .int .i64 p0.Day, .int .i64 p0.From, .int .i64 p0.To, v1] 70, .fz (.sl rTrack v1 p0.Tracks)]) ?_ ?_
 ·skip
  refine zC ?_
  refine zA rfl rfl (fa70_2 rfl) ?_
  refine zA rfl rfl (zU one3 rfl (Cells.get (Blk.cells (H.item (i := 0) rfl)) (i := 2) rfl)) ?_
  have H152 := H
  obtain ⟨x153, e154, hF⟩ := zJ hF
  refine yJ rfl rfl (yC en21 rfl) (F_fleet_within_w p0.Day 0 1000000 _ e154 _ _ _ (H.enter [] [] (by decide) rfl)) ?_
  rintro _ w155 ⟨rfl, G156⟩
  have H := H152.step (G156.only : Only [] _ _)
  refine ⟨_, rfl, ?_⟩
  obtain ⟨x157, e158, hF⟩ := zH hF
  refine zA rfl rfl (zT (xY (p := x153) rfl) (congrArg Value.bool e158)) ?_
  refine yO (b := x157) rfl rfl rfl (fun c159 => ?_) (fun c159 => ?_)
  ·have hF := zW c159 hF
   refine zM rfl rfl ?_
   refine zM rfl rfl ?_
   refine zM rfl rfl ?_
   refine zA rfl rfl (yI (v := .bool true) rfl rfl) ?_
   refine zA rfl rfl (zG (v := .bool true) rfl) ?_
   refine zM rfl rfl ?_
   refine zM rfl rfl ?_
   refine zM rfl rfl ?_
   refine zM rfl rfl ?_
   refine zM rfl rfl ?_
   refine zA rfl rfl (yI (v := .bool true) rfl rfl) ?_
   refine zA rfl rfl (zG (v := .bool true) rfl) ?_
   refine zM rfl rfl ?_
   refine zM rfl rfl ?_
   refine zM rfl rfl ?_
   refine zA rfl rfl (yI (v := .bool true) rfl rfl) ?_
   refine zA rfl rfl (zF (v := .bool true) rfl) ?_
   have hR := Option.some.inj hF
   subst hR
   refine (zI (zB (And.intro ?_ ?_)))
   ·repeat' (first | with_reducible exact zN | refine zV rfl ?_ | refine zO rfl rfl ?_)
   exact ⟨(), (zK rfl zQ), H.pick [0, 1] (by decide)⟩
  have hF := zX c159 hF
  refine zA rfl rfl (fa70_3 rfl) ?_
  refine zA rfl rfl (zU one3 rfl (Cells.get (Blk.cells (H.item (i := 0) rfl)) (i := 3) rfl)) ?_
  obtain ⟨x160, e161, hF⟩ := zH hF
  refine zA rfl rfl (zT (xK (a := p0.From) (b := 0) rfl rfl) (congrArg Value.bool e161)) ?_
  refine zA rfl rfl (yH (v := .bool x160) rfl rfl) ?_
  refine yO (b := x160) rfl rfl rfl (fun c162 => ?_) (fun c162 => ?_)
  ·have hF := zW c162 hF
   refine zM rfl rfl ?_
   refine zM rfl rfl ?_
   refine zM rfl rfl ?_
   refine zM rfl rfl ?_
   refine zM rfl rfl ?_
   refine zA rfl rfl (yI (v := .bool true) rfl rfl) ?_
   refine zA rfl rfl (zG (v := .bool true) rfl) ?_
   refine zM rfl rfl ?_
   refine zM rfl rfl ?_
   refine zM rfl rfl ?_
   refine zA rfl rfl (yI (v := .bool true) rfl rfl) ?_
   refine zA rfl rfl (zF (v := .bool true) rfl) ?_
   have hR := Option.some.inj hF
   subst hR
   refine (zI (zB (And.intro ?_ ?_)))
   ·repeat' (first | with_reducible exact zN | refine zV rfl ?_ | refine zO rfl rfl ?_)
   exact ⟨(), (zK rfl zQ), H.pick [0, 1] (by decide)⟩
  have hF := zX c162 hF
  refine zA rfl rfl (fa70_3 rfl) ?_
  refine zA rfl rfl (zU one3 rfl (Cells.get (Blk.cells (H.item (i := 0) rfl)) (i := 3) rfl)) ?_
  refine zA rfl rfl (fa70_4 rfl) ?_
  refine zA rfl rfl (zU one3 rfl (Cells.get (Blk.cells (H.item (i := 0) rfl)) (i := 4) rfl)) ?_
  obtain ⟨x163, e164, hF⟩ := zH hF
  refine zA rfl rfl (zT (wF (a := p0.From) (b := p0.To) rfl rfl) (congrArg Value.bool e164)) ?_
  refine zA rfl rfl (yH (v := .bool x163) rfl rfl) ?_
  refine yO (b := x163) rfl rfl rfl (fun c165 => ?_) (fun c165 => ?_)
  ·have hF := zW c165 hF
   refine zM rfl rfl ?_
   refine zM rfl rfl ?_
   refine zM rfl rfl ?_
   refine zA rfl rfl (yI (v := .bool true) rfl rfl) ?_
   refine zA rfl rfl (zF (v := .bool true) rfl) ?_
   have hR := Option.some.inj hF
   subst hR
   refine (zI (zB (And.intro ?_ ?_)))
   ·repeat' (first | with_reducible exact zN | refine zV rfl ?_ | refine zO rfl rfl ?_)
   exact ⟨(), (zK rfl zQ), H.pick [0, 1] (by decide)⟩
  have hF := zX c165 hF
  refine zA rfl rfl (fa70_4 rfl) ?_
  refine zA rfl rfl (zU one3 rfl (Cells.get (Blk.cells (H.item (i := 0) rfl)) (i := 4) rfl)) ?_
  obtain ⟨x166, e167, hF⟩ := zH hF
  refine zA rfl rfl (zT (Do_geq (a := p0.To) (b := 4194304) rfl rfl) (congrArg Value.bool e167)) ?_
  refine zA rfl rfl (yH (v := .bool x166) rfl rfl) ?_
  refine zA rfl rfl (zF (v := .bool x166) rfl) ?_
  have hR := Option.some.inj hF
  subst hR
  refine (zI (zB (And.intro ?_ ?_)))
  ·repeat' (first | with_reducible exact zN | refine zV rfl ?_ | refine zO rfl rfl ?_)
  exact ⟨(), (zK rfl zQ), H.pick [0, 1] (by decide)⟩
 rintro _ ρ w150 H
 have hF := hK151
 refine yF (b := g149) rfl (fun c168 => ?_) (fun c168 => ?_)
 ·have hF := zW c168 hF
  refine zD fun K169 hK169 => ?_
  refine zC ?_
  refine zA rfl rfl (zF (v := .int .i64 9) rfl) ?_
  refine (zI (zB (hK169 _ _ ?_)))
  have hR := Option.some.inj hF
  subst hR
  refine (yG (yM (zZ (post1 (v1 := .int .i64 9) rfl rfl ?_))))
  exact ⟨rfl, H.pick [] (by decide)⟩
 have hF := zX c168 hF
 obtain ⟨g184, hF, hK186⟩ := zJ hF
 refine yL [41, 42, 43, 44, 45, 46, 47, 48, 49, 50, 51, 52, 53, 54] (fun (g : Unit) => [(41, .bool g184)]) (fun g wl => Hd O w wl S [.blk b4 [.string (bs p0.Tail), .string (bs p0.Route), .int .i64 p0.Day, .int .i64 p0.From, .int .i64 p0.To, v1] 70, .fz (.sl rTrack v1 p0.Tracks)]) ?_ ?_
 ·skip
  refine zC ?_
  refine zA rfl rfl (fa70_4 rfl) ?_
  refine zA rfl rfl (zU one3 rfl (Cells.get (Blk.cells (H.item (i := 0) rfl)) (i := 4) rfl)) ?_
  refine zA rfl rfl (fa70_3 rfl) ?_
  refine zA rfl rfl (zU one3 rfl (Cells.get (Blk.cells (H.item (i := 0) rfl)) (i := 3) rfl)) ?_
  obtain ⟨x187, e188, hF⟩ := zH hF
  refine zA rfl rfl (Do_sub (a := p0.To) (b := p0.From) rfl rfl e188) ?_
  obtain ⟨x189, e190, hF⟩ := zH hF
  refine zA rfl rfl (xJ (a := x187) (b := 1) rfl rfl e190) ?_
  obtain ⟨x191, e192, hF⟩ := zH hF
  refine zA rfl rfl (zT (wF (a := x189) (b := 20000) rfl rfl) (congrArg Value.bool e192)) ?_
  refine yO (b := x191) rfl rfl rfl (fun c193 => ?_) (fun c193 => ?_)
  ·have hF := zW c193 hF
   refine zM rfl rfl ?_
   refine zM rfl rfl ?_
   refine zM rfl rfl ?_
   refine zM rfl rfl ?_
   refine zA rfl rfl (yI (v := .bool true) rfl rfl) ?_
   refine zA rfl rfl (zF (v := .bool true) rfl) ?_
   have hR := Option.some.inj hF
   subst hR
   refine (zI (zB (And.intro ?_ ?_)))
   ·repeat' (first | with_reducible exact zN | refine zV rfl ?_ | refine zO rfl rfl ?_)
   exact ⟨(), (zK rfl zQ), H.pick [0, 1] (by decide)⟩
  have hF := zX c193 hF
  refine zA rfl rfl (fa70_5 rfl) ?_
  refine zA rfl rfl (zU one68 rfl (Cells.get (Blk.cells (H.item (i := 0) rfl)) (i := 5) rfl)) ?_
  obtain ⟨x194, e195, hF⟩ := zH hF
  obtain ⟨a196, c197, q198⟩ := SlF.len ((H.item (i := 1) rfl))
  refine zA rfl rfl (zT (xI u68 q198) (congrArg (Value.int .i64) e195)) ?_
  obtain ⟨x199, e200, hF⟩ := zH hF
  refine zA rfl rfl (zT (wF (a := x194) (b := 30) rfl rfl) (congrArg Value.bool e200)) ?_
  refine zA rfl rfl (yH (v := .bool x199) rfl rfl) ?_
  refine zA rfl rfl (zF (v := .bool x199) rfl) ?_
  have hR := Option.some.inj hF
  subst hR
  refine (zI (zB (And.intro ?_ ?_)))
  ·repeat' (first | with_reducible exact zN | refine zV rfl ?_ | refine zO rfl rfl ?_)
  exact ⟨(), (zK rfl zQ), H.pick [0, 1] (by decide)⟩
 rintro _ ρ w185 H
 have hF := hK186
 refine yF (b := g184) rfl (fun c201 => ?_) (fun c201 => ?_)
 ·have hF := zW c201 hF
  refine zD fun K202 hK202 => ?_
  refine zC ?_
  refine zA rfl rfl (zF (v := .int .i64 3) rfl) ?_
  refine (zI (zB (hK202 _ _ ?_)))
  have hR := Option.some.inj hF
  subst hR
  refine (yG (yM (zZ (post1 (v1 := .int .i64 3) rfl rfl ?_))))
  exact ⟨rfl, H.pick [] (by decide)⟩
 have hF := zX c201 hF
 refine (yA (yU (zB (hK77 _ _ ?_))))
 refine zD fun K203 hK203 => ?_
 refine zC ?_
 refine zA rfl rfl (fa70_5 rfl) ?_
 refine zA rfl rfl (zU one68 rfl (Cells.get (Blk.cells (H.item (i := 0) rfl)) (i := 5) rfl)) ?_
 have H204 := H
 obtain ⟨x205, e206, hF⟩ := zJ hF
 refine yJ rfl rfl (yC en75 rfl) (F_event_CheckTracks_w p0.Tracks v1 _ e206 _ _ _ (H.enter [] [1] (by decide) rfl)) ?_
 rintro _ w207 ⟨rfl, G208⟩
 have H := H204.step (G208.only : Only [] _ _)
 refine ⟨_, rfl, ?_⟩
 refine zA rfl rfl (zF (v := .int .i64 x205) rfl) ?_
 refine (zI (zB (hK203 _ _ ?_)))
 have hR := Option.some.inj hF
 subst hR
 refine (yG (post1 (v1 := .int .i64 x205) rfl rfl ?_))
 exact ⟨rfl, H.pick [] (by decide)⟩
end Go.Proofs.YtbjhondbheijiaaGreatDoor.L
namespace Go.Proofs.YtbjhondbheijiaaGreatDoor.L
open Go.RowKit Go.OB Go.Lf
/- orangebox/fleet.checkFlights -/
set_option maxHeartbeats 4000000 in
theorem F_fleet_checkFlights_w (p0 : List Flight) (v1 : Value) (r : Int) (hF : F_fleet_checkFlights p0 = some r) (O S : List Nat) (w : World) (H : Hd O w w S [.fz (.sl rFlight v1 p0)]) :
  Calls Tryz.prog 26 ([v1] : List Value).toArray w fun e w' => e = .returned (.int .i64 r) ∧ Hd O w w' S [] := by
 unfold F_fleet_checkFlights at hF
 refine yB 21 Tryz.func26 rfl rfl rfl ?_
 refine zD fun K3 hK3 => ?_
 refine zC ?_
 refine zA rfl rfl (zF (v := .int .i64 0) rfl) ?_
 refine (zI (zB (hK3 _ _ ?_)))
 refine zD fun K14 hK14 => ?_
 refine zD fun K15 hK15 => ?_
 refine zC ?_
 refine zA rfl rfl (zG (v := v1) rfl) ?_
 obtain ⟨x16, e17, hF⟩ := zH hF
 obtain ⟨a18, c19, q20⟩ := SlF.len ((H.item (i := 0) rfl))
 refine zA rfl rfl (zT (xI u22 q20) (congrArg (Value.int .i64) e17)) ?_
 obtain ⟨x21, e22, hF⟩ := zH hF
 refine zA rfl rfl (zT (wF (a := x16) (b := 300) rfl rfl) (congrArg Value.bool e22)) ?_
 refine (zI (zB (hK15 _ _ ?_)))
 refine yF (b := x21) rfl (fun c23 => ?_) (fun c23 => ?_)
 ·have hF := zW c23 hF
  refine zD fun K24 hK24 => ?_
  refine zC ?_
  refine zA rfl rfl (zF (v := .int .i64 3) rfl) ?_
  refine (zI (zB (hK24 _ _ ?_)))
  have hR := Option.some.inj hF
  subst hR
  refine (yG (zZ (post1 (v1 := .int .i64 3) rfl rfl ?_)))
  exact ⟨rfl, H.pick [] (by decide)⟩
 have hF := zX c23 hF
 refine (yA (zB (hK14 _ _ ?_)))
 obtain ⟨k181, ek182, hF⟩ := xU hF
 refine yL [2, 4, 5, 9, 10, 11, 12, 13, 14, 15, 16, 17, 18, 19, 20] (fun (g : Unit) => []) (fun g wl => Hd O w wl S [] ∧ k181 () = some r) ?_ ?_
 ·skip
  refine zD fun K183 hK183 => ?_
  refine zC ?_
  refine zA rfl rfl (zG (v := v1) rfl) ?_
  obtain ⟨x184, e185, hF⟩ := zH hF
  obtain ⟨a186, c187, q188⟩ := SlF.len ((H.item (i := 0) rfl))
  refine zA rfl rfl (zT (xI u22 q188) (congrArg (Value.int .i64) e185)) ?_
  refine zA rfl rfl (zG (v := .int .i64 0) rfl) ?_
  refine (zI (zB (hK183 _ _ ?_)))
  refine yK ?_
  unfold F_fleet_checkFlights_L1 at hF
  obtain ⟨B333, n334, eB335, hF⟩ := yT hF
  refine xC [2, 4, 5, 11, 12, 13, 14, 15, 16, 17, 18, 19, 20] (fun (g : Nat × Int) => [(11, .int .i64 g.2)]) (fun g wl => Hd O w wl S [.fz (.sl rFlight v1 p0)] ∧ loopN B333 g.1 g.2 = some r) (fun g => g.1) (n334, 0) (zK rfl zQ) ⟨H.pick [0] (by decide), hF⟩ ?_
  clear H hF
  rintro ⟨n334, g332⟩ ρ w337 ⟨H, hF⟩
  obtain ⟨n338, rfl, hF⟩ := yX hF
  have hF := yY eB335 hF
  refine zD fun K339 hK339 => ?_
  refine zC ?_
  obtain ⟨x340, e341, hF⟩ := zH hF
  refine zA rfl rfl (zT (xK (a := g332) (b := x184) rfl rfl) (congrArg Value.bool e341)) ?_
  refine (zI (zB (hK339 _ _ ?_)))
  refine zD fun K343 hK343 => ?_
  refine yF (b := x340) rfl (fun c344 => ?_) (fun c344 => ?_)
  ·have hF := zW c344 hF
   refine (yA (zB (hK343 _ _ ?_)))
   refine zD fun K376 hK376 => ?_
   refine yK ?_
   refine zD fun K377 hK377 => ?_
   refine zC ?_
   obtain ⟨x378, e379, hF⟩ := zJ hF
   obtain ⟨b380, o381, c382, cs383, q384, h387, h385, h386, h388⟩ := wB (H.item (i := 0) rfl) e379
   obtain ⟨v389, rfl, h390⟩ := rFlight_open h387
   have H := H.fzs [.at b380 (o381 + g332.toNat * 6) _, .sl rTrack v389 x378.Tracks] ⟨⟨h385, h386, h388⟩, h390, trivial⟩
   refine zA rfl rfl (xG u22 sz70 q384 rfl (yD e379).1 (yD e379).2.1 rfl rfl) ?_
   refine zA rfl rfl (zT (yV (cs := [.string (bs x378.Tail), .string (bs x378.Route), .int .i64 x378.Day, .int .i64 x378.From, .int .i64 x378.To, v389]) agg70 rfl sz70 rfl (H.item (i := 1) rfl).2.2) rfl) ?_
   refine xE rfl rfl (xR zero70 H) ?_
   rintro _ w395 ⟨b393, rfl, H⟩
   refine xO rfl (xA (vs := [.string (bs x378.Tail), .string (bs x378.Route), .int .i64 x378.Day, .int .i64 x378.From, .int .i64 x378.To, v389]) H 3 rfl sz70 rfl rfl rfl ⟨rfl, rfl, rfl, rfl, rfl, (slf_one (H.item (i := 2) rfl)), trivial⟩ rfl) ?_
   rintro w396 H
   refine (zI (zB (hK377 _ _ ?_)))
   refine zD fun K397 hK397 => ?_
   refine zC ?_
   refine zA rfl rfl (zT (yV (cs := [.string (bs x378.Tail), .string (bs x378.Route), .int .i64 x378.Day, .int .i64 x378.From, .int .i64 x378.To, v389]) agg70 rfl sz70 rfl (Blk.cells (H.item (i := 3) rfl))) rfl) ?_
   have H398 := H
   obtain ⟨x399, e400, hF⟩ := zJ hF
   refine yJ rfl rfl (yC en51 rfl) (F_fleet_CheckFlight_w x378 v389 _ e400 _ _ _ (H.enter [] [2] (by decide) rfl)) ?_
   rintro _ w401 ⟨rfl, G402⟩
   have H := H398.step (G402.only : Only [] _ _)
   refine ⟨_, rfl, ?_⟩
   refine zA rfl rfl (zF (v := .int .i64 x399) rfl) ?_
   refine (zI (zB (hK397 _ _ ?_)))
   refine zD fun K403 hK403 => ?_
   refine zC ?_
   refine zA rfl rfl (zG (v := .int .i64 x399) rfl) ?_
   obtain ⟨x404, e405, hF⟩ := zH hF
   refine zA rfl rfl (zT (Do_neq (a := x399) (b := 0) rfl rfl) (congrArg Value.bool e405)) ?_
   refine (zI (zB (hK403 _ _ ?_)))
   refine yF (b := x404) rfl (fun c406 => ?_) (fun c406 => ?_)
   ·have hF := zW c406 hF
    refine zD fun K407 hK407 => ?_
    refine zC ?_
    refine zA rfl rfl (zG (v := .int .i64 x399) rfl) ?_
    refine zA rfl rfl (zF (v := .int .i64 x399) rfl) ?_
    refine (zI (zB (hK407 _ _ ?_)))
    have hR := Option.some.inj hF
    subst hR
    refine (yG (yM (zZ (zZ (yM (zZ (post1 (v1 := .int .i64 x399) rfl rfl ?_)))))))
    exact ⟨rfl, H.pick [] (by decide)⟩
   have hF := zX c406 hF
   refine (yA (yU (zB (hK376 _ _ ?_))))
   refine zC ?_
   obtain ⟨x408, e409, hF⟩ := zH hF
   refine zA rfl rfl (xJ (a := g332) (b := 1) rfl rfl e409) ?_
   refine zA rfl rfl (zG (v := .int .i64 x408) rfl) ?_
   refine (zI (zB (And.intro ?_ ?_)))
   ·repeat' (first | with_reducible exact zN | refine zV rfl ?_ | refine zO rfl rfl ?_)
   exact ⟨(n338, x408), (zK rfl zQ), ⟨H.pick [0] (by decide), hF⟩, Nat.lt_succ_self _⟩
  have hF := zX c344 hF
  refine (xB (yN (yN (yR (zB (And.intro ?_ ?_))))))
  ·repeat' (first | with_reducible exact zN | refine zV rfl ?_ | refine zO rfl rfl ?_)
  exact ⟨(), zQ, ⟨H.pick [] (by decide), hF⟩⟩
 rintro _ ρ w180 ⟨H, hF⟩
 have hF := xZ ek182 hF
 refine zD fun K410 hK410 => ?_
 refine zC ?_
 refine zA rfl rfl (zF (v := .int .i64 0) rfl) ?_
 refine (zI (zB (hK410 _ _ ?_)))
 have hR := Option.some.inj hF
 subst hR
 refine (yG (post1 (v1 := .int .i64 0) rfl rfl ?_))
 exact ⟨rfl, H.pick [] (by decide)⟩
end Go.Proofs.YtbjhondbheijiaaGreatDoor.L
namespace Go.Proofs.YtbjhondbheijiaaGreatDoor.L
open Go.RowKit Go.OB Go.Lf
/- slices.Index[[]string,string] -/
set_option maxHeartbeats 4000000 in
theorem F_slices_Index___string_string__w (p0 : List Str) (p1 : Str) (v1 : Value) (r : Int) (hF : F_slices_Index___string_string_ p0 p1 = some r) (O S : List Nat) (w : World) (H : Hd O w w S [.fz (.sl Rp.str v1 p0)]) :
  Calls Tryz.prog 80 ([v1, .string (bs p1)] : List Value).toArray w fun e w' => e = .returned (.int .i64 r) ∧ Hd O w w' S [] := by
 unfold F_slices_Index___string_string_ at hF
 refine yB 19 Tryz.func80 rfl rfl rfl ?_
 refine zD fun K3 hK3 => ?_
 refine zC ?_
 refine zA rfl rfl (zF (v := .int .i64 0) rfl) ?_
 refine (zI (zB (hK3 _ _ ?_)))
 obtain ⟨k108, ek109, hF⟩ := xU hF
 refine yL [4, 5, 6, 7, 8, 9, 10, 11, 12, 13, 14, 15, 16, 17, 18] (fun (g : Unit) => []) (fun g wl => Hd O w wl S [] ∧ k108 () = some r) ?_ ?_
 ·skip
  refine zD fun K110 hK110 => ?_
  refine zC ?_
  refine zA rfl rfl (zG (v := v1) rfl) ?_
  obtain ⟨x111, e112, hF⟩ := zH hF
  obtain ⟨a113, c114, q115⟩ := SlF.len ((H.item (i := 0) rfl))
  refine zA rfl rfl (zT (xI u23 q115) (congrArg (Value.int .i64) e112)) ?_
  refine zA rfl rfl (zG (v := .int .i64 0) rfl) ?_
  refine (zI (zB (hK110 _ _ ?_)))
  refine yK ?_
  unfold F_slices_Index___string_string__L1 at hF
  obtain ⟨B208, n209, eB210, hF⟩ := yT hF
  refine xC [4, 5, 8, 9, 10, 11, 12, 13, 14, 15, 16, 17, 18] (fun (g : Nat × Int) => [(8, .int .i64 g.2)]) (fun g wl => Hd O w wl S [.fz (.sl Rp.str v1 p0)] ∧ loopN B208 g.1 g.2 = some r) (fun g => g.1) (n209, 0) (zK rfl zQ) ⟨H.pick [0] (by decide), hF⟩ ?_
  clear H hF
  rintro ⟨n209, g207⟩ ρ w212 ⟨H, hF⟩
  obtain ⟨n213, rfl, hF⟩ := yX hF
  have hF := yY eB210 hF
  refine zD fun K214 hK214 => ?_
  refine zC ?_
  obtain ⟨x215, e216, hF⟩ := zH hF
  refine zA rfl rfl (zT (xK (a := g207) (b := x111) rfl rfl) (congrArg Value.bool e216)) ?_
  refine (zI (zB (hK214 _ _ ?_)))
  refine zD fun K218 hK218 => ?_
  refine yF (b := x215) rfl (fun c219 => ?_) (fun c219 => ?_)
  ·have hF := zW c219 hF
   refine (yA (zB (hK218 _ _ ?_)))
   refine zD fun K238 hK238 => ?_
   refine yK ?_
   refine zD fun K239 hK239 => ?_
   refine zC ?_
   refine zA rfl rfl (zG (v := .int .i64 g207) rfl) ?_
   refine zA rfl rfl (zF (v := .int .i64 g207) rfl) ?_
   refine (zI (zB (hK239 _ _ ?_)))
   refine zD fun K240 hK240 => ?_
   refine zC ?_
   refine zA rfl rfl (zG (v := .string (bs p1)) rfl) ?_
   refine zA rfl rfl (zG (v := v1) rfl) ?_
   refine zA rfl rfl (zG (v := .int .i64 g207) rfl) ?_
   obtain ⟨x241, e242, hF⟩ := zJ hF
   obtain ⟨b243, o244, c245, cs246, q247, h250, h248, h249, h251⟩ := wB (H.item (i := 0) rfl) e242
   obtain rfl : cs246 = [.string (bs x241)] := h250
   have H := H.fz (.at b243 (o244 + g207.toNat * 1) _) ⟨h248, h249, h251⟩
   refine zA rfl rfl (xG u23 sz9 q247 rfl (yD e242).1 (yD e242).2.1 rfl rfl) ?_
   refine zA rfl rfl (zU one9 rfl (Cells.get (H.item (i := 1) rfl).2.2 (i := 0) rfl)) ?_
   obtain ⟨x253, e254, hF⟩ := zH hF
   refine zA rfl rfl (zT (Do_eqls (s1 := p1) (s2 := x241) rfl rfl) (congrArg Value.bool e254)) ?_
   refine (zI (zB (hK240 _ _ ?_)))
   refine yF (b := x253) rfl (fun c255 => ?_) (fun c255 => ?_)
   ·have hF := zW c255 hF
    refine zD fun K256 hK256 => ?_
    refine zC ?_
    refine zA rfl rfl (zG (v := .int .i64 g207) rfl) ?_
    refine zA rfl rfl (zF (v := .int .i64 g207) rfl) ?_
    refine (zI (zB (hK256 _ _ ?_)))
    have hR := Option.some.inj hF
    subst hR
    refine (yG (yM (zZ (zZ (yM (zZ (post1 (v1 := .int .i64 g207) rfl rfl ?_)))))))
    exact ⟨rfl, H.pick [] (by decide)⟩
   have hF := zX c255 hF
   refine (yA (yU (zB (hK238 _ _ ?_))))
   refine zC ?_
   obtain ⟨x257, e258, hF⟩ := zH hF
   refine zA rfl rfl (xJ (a := g207) (b := 1) rfl rfl e258) ?_
   refine zA rfl rfl (zG (v := .int .i64 x257) rfl) ?_
   refine (zI (zB (And.intro ?_ ?_)))
   ·repeat' (first | with_reducible exact zN | refine zV rfl ?_ | refine zO rfl rfl ?_)
   exact ⟨(n213, x257), (zK rfl zQ), ⟨H.pick [0] (by decide), hF⟩, Nat.lt_succ_self _⟩
  have hF := zX c219 hF
  refine (xB (yN (yN (yR (zB (And.intro ?_ ?_))))))
  ·repeat' (first | with_reducible exact zN | refine zV rfl ?_ | refine zO rfl rfl ?_)
  exact ⟨(), zQ, ⟨H.pick [] (by decide), hF⟩⟩
 rintro _ ρ w107 ⟨H, hF⟩
 have hF := xZ ek109 hF
 refine zD fun K259 hK259 => ?_
 refine zC ?_
 refine zA rfl rfl (zF (v := .int .i64 (-1)) rfl) ?_
 refine (zI (zB (hK259 _ _ ?_)))
 have hR := Option.some.inj hF
 subst hR
 refine (yG (post1 (v1 := .int .i64 (-1)) rfl rfl ?_))
 exact ⟨rfl, H.pick [] (by decide)⟩
end Go.Proofs.YtbjhondbheijiaaGreatDoor.L
namespace Go.Proofs.YtbjhondbheijiaaGreatDoor.L
open Go.RowKit Go.OB Go.Lf
/- slices.Contains[[]string,string] -/
set_option maxHeartbeats 4000000 in
theorem F_slices_Contains___string_string__w (p0 : List Str) (p1 : Str) (v1 : Value) (r : Bool) (hF : F_slices_Contains___string_string_ p0 p1 = some r) (O S : List Nat) (w : World) (H : Hd O w w S [.fz (.sl Rp.str v1 p0)]) :
  Calls Tryz.prog 56 ([v1, .string (bs p1)] : List Value).toArray w fun e w' => e = .returned (.bool r) ∧ Hd O w w' S [] := by
 unfold F_slices_Contains___string_string_ at hF
 refine yB 9 Tryz.func56 rfl rfl rfl ?_
 refine zD fun K3 hK3 => ?_
 refine zC ?_
 refine zA rfl rfl (zF (v := .bool false) rfl) ?_
 refine (zI (zB (hK3 _ _ ?_)))
 refine zD fun K4 hK4 => ?_
 refine zC ?_
 refine zA rfl rfl (zG (v := v1) rfl) ?_
 refine zA rfl rfl (zG (v := .string (bs p1)) rfl) ?_
 have H5 := H
 obtain ⟨x6, e7, hF⟩ := zJ hF
 refine yJ rfl rfl (yC en80 rfl) (F_slices_Index___string_string__w p0 p1 v1 _ e7 _ _ _ (H.enter [] [0] (by decide) rfl)) ?_
 rintro _ w8 ⟨rfl, G9⟩
 have H := H5.step (G9.only : Only [] _ _)
 refine ⟨_, rfl, ?_⟩
 obtain ⟨x10, e11, hF⟩ := zH hF
 refine zA rfl rfl (zT (Do_geq (a := x6) (b := 0) rfl rfl) (congrArg Value.bool e11)) ?_
 refine zA rfl rfl (zF (v := .bool x10) rfl) ?_
 refine (zI (zB (hK4 _ _ ?_)))
 have hR := Option.some.inj hF
 subst hR
 refine (yG (post1 (v1 := .bool x10) rfl rfl ?_))
 exact ⟨rfl, H.pick [] (by decide)⟩
end Go.Proofs.YtbjhondbheijiaaGreatDoor.L
namespace Go.Proofs.YtbjhondbheijiaaGreatDoor.L
open Go.RowKit Go.OB Go.Lf
/- orangebox/fleet.checkNames -/
set_option maxHeartbeats 4000000 in
theorem F_fleet_checkNames_w (p0 : List Str) (v1 : Value) (r : Int) (hF : F_fleet_checkNames p0 = some r) (O S : List Nat) (w : World) (H : Hd O w w S [.fz (.sl Rp.str v1 p0)]) :
  Calls Tryz.prog 52 ([v1] : List Value).toArray w fun e w' => e = .returned (.int .i64 r) ∧ Hd O w w' S [] := by
 unfold F_fleet_checkNames at hF
 refine yB 24 Tryz.func52 rfl rfl rfl ?_
 refine zD fun K3 hK3 => ?_
 refine zC ?_
 refine zA rfl rfl (zF (v := .int .i64 0) rfl) ?_
 refine (zI (zB (hK3 _ _ ?_)))
 refine zD fun K14 hK14 => ?_
 refine zD fun K15 hK15 => ?_
 refine zC ?_
 refine zA rfl rfl (zG (v := v1) rfl) ?_
 obtain ⟨x16, e17, hF⟩ := zH hF
 obtain ⟨a18, c19, q20⟩ := SlF.len ((H.item (i := 0) rfl))
 refine zA rfl rfl (zT (xI u23 q20) (congrArg (Value.int .i64) e17)) ?_
 obtain ⟨x21, e22, hF⟩ := zH hF
 refine zA rfl rfl (zT (wF (a := x16) (b := 30) rfl rfl) (congrArg Value.bool e22)) ?_
 refine (zI (zB (hK15 _ _ ?_)))
 refine yF (b := x21) rfl (fun c23 => ?_) (fun c23 => ?_)
 ·have hF := zW c23 hF
  refine zD fun K24 hK24 => ?_
  refine zC ?_
  refine zA rfl rfl (zF (v := .int .i64 3) rfl) ?_
  refine (zI (zB (hK24 _ _ ?_)))
  have hR := Option.some.inj hF
  subst hR
  refine (yG (zZ (post1 (v1 := .int .i64 3) rfl rfl ?_)))
  exact ⟨rfl, H.pick [] (by decide)⟩
 have hF := zX c23 hF
 refine (yA (zB (hK14 _ _ ?_)))
 obtain ⟨k245, ek246, hF⟩ := xU hF
 refine yL [2, 3, 4, 8, 9, 10, 11, 12, 13, 14, 15, 16, 17, 18, 19, 20, 21, 22, 23] (fun (g : Unit) => []) (fun g wl => Hd O w wl S [] ∧ k245 () = some r) ?_ ?_
 ·skip
  refine zD fun K247 hK247 => ?_
  refine zC ?_
  refine zA rfl rfl (zG (v := v1) rfl) ?_
  obtain ⟨x248, e249, hF⟩ := zH hF
  obtain ⟨a250, c251, q252⟩ := SlF.len ((H.item (i := 0) rfl))
  refine zA rfl rfl (zT (xI u23 q252) (congrArg (Value.int .i64) e249)) ?_
  refine zA rfl rfl (zG (v := .int .i64 0) rfl) ?_
  refine (zI (zB (hK247 _ _ ?_)))
  refine yK ?_
  unfold F_fleet_checkNames_L1 at hF
  obtain ⟨B461, n462, eB463, hF⟩ := yT hF
  refine xC [2, 3, 4, 10, 11, 12, 13, 14, 15, 16, 17, 18, 19, 20, 21, 22, 23] (fun (g : Nat × Int) => [(10, .int .i64 g.2)]) (fun g wl => Hd O w wl S [.fz (.sl Rp.str v1 p0)] ∧ loopN B461 g.1 g.2 = some r) (fun g => g.1) (n462, 0) (zK rfl zQ) ⟨H.pick [0] (by decide), hF⟩ ?_
  clear H hF
  rintro ⟨n462, g460⟩ ρ w465 ⟨H, hF⟩
  obtain ⟨n466, rfl, hF⟩ := yX hF
  have hF := yY eB463 hF
  refine zD fun K467 hK467 => ?_
  refine zC ?_
  obtain ⟨x468, e469, hF⟩ := zH hF
  refine zA rfl rfl (zT (xK (a := g460) (b := x248) rfl rfl) (congrArg Value.bool e469)) ?_
  refine (zI (zB (hK467 _ _ ?_)))
  refine zD fun K471 hK471 => ?_
  refine yF (b := x468) rfl (fun c472 => ?_) (fun c472 => ?_)
  ·have hF := zW c472 hF
   refine (yA (zB (hK471 _ _ ?_)))
   refine zD fun K520 hK520 => ?_
   refine yK ?_
   refine zD fun K521 hK521 => ?_
   refine zC ?_
   refine zA rfl rfl (zG (v := .int .i64 g460) rfl) ?_
   obtain ⟨x522, e523, hF⟩ := zJ hF
   obtain ⟨b524, o525, c526, cs527, q528, h531, h529, h530, h532⟩ := wB (H.item (i := 0) rfl) e523
   obtain rfl : cs527 = [.string (bs x522)] := h531
   have H := H.fz (.at b524 (o525 + g460.toNat * 1) _) ⟨h529, h530, h532⟩
   refine zA rfl rfl (xG u23 sz9 q528 rfl (yD e523).1 (yD e523).2.1 rfl rfl) ?_
   refine zA rfl rfl (zU one9 rfl (Cells.get (H.item (i := 1) rfl).2.2 (i := 0) rfl)) ?_
   refine zA rfl rfl (zF (v := .int .i64 g460) rfl) ?_
   refine zA rfl rfl (zF (v := .string (bs x522)) rfl) ?_
   refine (zI (zB (hK521 _ _ ?_)))
   refine zD fun K544 hK544 => ?_
   refine zD fun K545 hK545 => ?_
   refine zC ?_
   refine zA rfl rfl (zG (v := .string (bs x522)) rfl) ?_
   have H546 := H
   obtain ⟨x547, e548, hF⟩ := zJ hF
   refine yJ rfl rfl (yC en28 rfl) (F_event_IsName_w x522 _ e548 _ _ _ (H.enter [] [] (by decide) rfl)) ?_
   rintro _ w549 ⟨rfl, G550⟩
   have H := H546.step (G550.only : Only [] _ _)
   refine ⟨_, rfl, ?_⟩
   obtain ⟨x551, e552, hF⟩ := zH hF
   refine zA rfl rfl (zT (xY (p := x547) rfl) (congrArg Value.bool e552)) ?_
   refine (zI (zB (hK545 _ _ ?_)))
   refine yF (b := x551) rfl (fun c553 => ?_) (fun c553 => ?_)
   ·have hF := zW c553 hF
    refine zD fun K554 hK554 => ?_
    refine zC ?_
    refine zA rfl rfl (zF (v := .int .i64 8) rfl) ?_
    refine (zI (zB (hK554 _ _ ?_)))
    have hR := Option.some.inj hF
    subst hR
    refine (yG (zZ (yM (zZ (zZ (yM (zZ (post1 (v1 := .int .i64 8) rfl rfl ?_))))))))
    exact ⟨rfl, H.pick [] (by decide)⟩
   have hF := zX c553 hF
   refine (yA (zB (hK544 _ _ ?_)))
   refine zD fun K555 hK555 => ?_
   refine zC ?_
   refine zA rfl rfl (zG (v := v1) rfl) ?_
   refine zA rfl rfl (zG (v := .int .i64 g460) rfl) ?_
   obtain ⟨x556, e557, hF⟩ := zJ hF
   refine RL_exP rfl rfl (Lx_slice_h u23 sz9 (H.item (i := 0) rfl) rfl rfl e557) ?_
   rintro v558 h559
   have H := H.fz (.sl Rp.str v558 x556) h559
   refine zA rfl rfl (zG (v := .string (bs x522)) rfl) ?_
   have H561 := H
   obtain ⟨x562, e563, hF⟩ := zJ hF
   refine yJ rfl rfl (yC en56 rfl) (F_slices_Contains___string_string__w x556 x522 v558 _ e563 _ _ _ (H.enter [] [2] (by decide) rfl)) ?_
   rintro _ w564 ⟨rfl, G565⟩
   have H := H561.step (G565.only : Only [] _ _)
   refine ⟨_, rfl, ?_⟩
   refine (zI (zB (hK555 _ _ ?_)))
   refine yF (b := x562) rfl (fun c566 => ?_) (fun c566 => ?_)
   ·have hF := zW c566 hF
    refine zD fun K567 hK567 => ?_
    refine zC ?_
    refine zA rfl rfl (zF (v := .int .i64 5) rfl) ?_
    refine (zI (zB (hK567 _ _ ?_)))
    have hR := Option.some.inj hF
    subst hR
    refine (yG (yM (zZ (zZ (yM (zZ (post1 (v1 := .int .i64 5) rfl rfl ?_)))))))
    exact ⟨rfl, H.pick [] (by decide)⟩
   have hF := zX c566 hF
   refine (yA (yU (zB (hK520 _ _ ?_))))
   refine zC ?_
   obtain ⟨x568, e569, hF⟩ := zH hF
   refine zA rfl rfl (xJ (a := g460) (b := 1) rfl rfl e569) ?_
   refine zA rfl rfl (zG (v := .int .i64 x568) rfl) ?_
   refine (zI (zB (And.intro ?_ ?_)))
   ·repeat' (first | with_reducible exact zN | refine zV rfl ?_ | refine zO rfl rfl ?_)
   exact ⟨(n466, x568), (zK rfl zQ), ⟨H.pick [0] (by decide), hF⟩, Nat.lt_succ_self _⟩
  have hF := zX c472 hF
  refine (xB (yN (yN (yR (zB (And.intro ?_ ?_))))))
  ·repeat' (first | with_reducible exact zN | refine zV rfl ?_ | refine zO rfl rfl ?_)
  exact ⟨(), zQ, ⟨H.pick [] (by decide), hF⟩⟩
 rintro _ ρ w244 ⟨H, hF⟩
 have hF := xZ ek246 hF
 refine zD fun K570 hK570 => ?_
 refine zC ?_
 refine zA rfl rfl (zF (v := .int .i64 0) rfl) ?_
 refine (zI (zB (hK570 _ _ ?_)))
 have hR := Option.some.inj hF
 subst hR
 refine (yG (post1 (v1 := .int .i64 0) rfl rfl ?_))
 exact ⟨rfl, H.pick [] (by decide)⟩
end Go.Proofs.YtbjhondbheijiaaGreatDoor.L
namespace Go.Proofs.YtbjhondbheijiaaGreatDoor.L
open Go.RowKit Go.OB Go.Lf
/- orangebox/fleet.CheckMask$1 -/
set_option maxHeartbeats 4000000 in
theorem F_fleet_CheckMask_1_w (p0 : Grain) (c0 : Grain) (b1 : Nat) (r : Bool) (hF : F_fleet_CheckMask_1 p0 c0 = some r) (O S : List Nat) (w : World) (H : Hd O w w S [.blk b1 [.string (bs c0.Track), .int .i64 c0.N] 103]) :
  Calls Tryz.prog 54 ([.agg [.string (bs p0.Track), .int .i64 p0.N].toArray, .pointer (some ⟨b1, 0, none⟩)] : List Value).toArray w fun e w' => e = .returned (.bool r) ∧ Hd O w w' S [.blk b1 [.string (bs c0.Track), .int .i64 c0.N] 103] := by
 unfold F_fleet_CheckMask_1 at hF
 refine yB 9 Tryz.func54 rfl rfl rfl ?_
 refine zD fun K3 hK3 => ?_
 refine zC ?_
 refine xE rfl rfl (Lx_box (cs := [.string (bs p0.Track), .int .i64 p0.N]) rfl H) ?_
 rintro _ w6 ⟨b4, rfl, H⟩
 refine zA rfl rfl (zF (v := .bool false) rfl) ?_
 refine (zI (zB (hK3 _ _ ?_)))
 refine zD fun K7 hK7 => ?_
 refine zC ?_
 refine zA rfl rfl (fa103_0 rfl) ?_
 refine zA rfl rfl (zU one9 rfl (Cells.get (Blk.cells (H.item (i := 1) rfl)) (i := 0) rfl)) ?_
 refine zA rfl rfl (fa103_0 rfl) ?_
 refine zA rfl rfl (zU one9 rfl (Cells.get (Blk.cells (H.item (i := 0) rfl)) (i := 0) rfl)) ?_
 obtain ⟨x8, e9, hF⟩ := zH hF
 refine zA rfl rfl (zT (Do_eqls (s1 := p0.Track) (s2 := c0.Track) rfl rfl) (congrArg Value.bool e9)) ?_
 refine zA rfl rfl (zF (v := .bool x8) rfl) ?_
 refine (zI (zB (hK7 _ _ ?_)))
 have hR := Option.some.inj hF
 subst hR
 refine (yG (post1 (v1 := .bool x8) rfl rfl ?_))
 exact ⟨rfl, H.pick [0] (by decide)⟩
end Go.Proofs.YtbjhondbheijiaaGreatDoor.L
namespace Go.Proofs.YtbjhondbheijiaaGreatDoor.L
open Go.RowKit Go.OB Go.Lf
/- slices.IndexFunc[[]orangebox/api.Grain,orangebox/api.Grain]@orangebox/fleet.CheckMask$1 -/
set_option maxHeartbeats 4000000 in
theorem F_slices_IndexFunc___api_Grain_api_Grain__fleet_CheckMask_1_w (p0 : List Grain) (p1c0 : Grain) (v1 : Value) (b3 : Nat) (r : Int) (hF : F_slices_IndexFunc___api_Grain_api_Grain__fleet_CheckMask_1 p0 p1c0 = some r) (O S : List Nat) (w : World) (H : Hd O w w S [.blk b3 [.string (bs p1c0.Track), .int .i64 p1c0.N] 103, .fz (.sl rGrain v1 p0)]) :
  Calls Tryz.prog 76 ([v1, .func (.func 54) #[] [.pointer (some ⟨b3, 0, none⟩)].toArray] : List Value).toArray w fun e w' => e = .returned (.int .i64 r) ∧ Hd O w w' S [.blk b3 [.string (bs p1c0.Track), .int .i64 p1c0.N] 103] := by
 unfold F_slices_IndexFunc___api_Grain_api_Grain__fleet_CheckMask_1 at hF
 refine yB 19 Tryz.func76 rfl rfl rfl ?_
 refine zD fun K5 hK5 => ?_
 refine zC ?_
 refine zA rfl rfl (zF (v := .int .i64 0) rfl) ?_
 refine (zI (zB (hK5 _ _ ?_)))
 obtain ⟨k118, ek119, hF⟩ := xU hF
 refine yL [4, 5, 6, 7, 8, 9, 10, 11, 12, 13, 14, 15, 16, 17, 18] (fun (g : Unit) => []) (fun g wl => Hd O w wl S [.blk b3 [.string (bs p1c0.Track), .int .i64 p1c0.N] 103] ∧ k118 () = some r) ?_ ?_
 ·skip
  refine zD fun K120 hK120 => ?_
  refine zC ?_
  refine zA rfl rfl (zG (v := v1) rfl) ?_
  obtain ⟨x121, e122, hF⟩ := zH hF
  obtain ⟨a123, c124, q125⟩ := SlF.len ((H.item (i := 1) rfl))
  refine zA rfl rfl (zT (xI u24 q125) (congrArg (Value.int .i64) e122)) ?_
  refine zA rfl rfl (zG (v := .int .i64 0) rfl) ?_
  refine (zI (zB (hK120 _ _ ?_)))
  refine yK ?_
  unfold F_slices_IndexFunc___api_Grain_api_Grain__fleet_CheckMask_1_L1 at hF
  obtain ⟨B226, n227, eB228, hF⟩ := yT hF
  refine xC [4, 5, 8, 9, 10, 11, 12, 13, 14, 15, 16, 17, 18] (fun (g : Nat × Int) => [(8, .int .i64 g.2)]) (fun g wl => Hd O w wl S [.blk b3 [.string (bs p1c0.Track), .int .i64 p1c0.N] 103, .fz (.sl rGrain v1 p0)] ∧ loopN B226 g.1 g.2 = some r) (fun g => g.1) (n227, 0) (zK rfl zQ) ⟨H.pick [0, 1] (by decide), hF⟩ ?_
  clear H hF
  rintro ⟨n227, g225⟩ ρ w230 ⟨H, hF⟩
  obtain ⟨n231, rfl, hF⟩ := yX hF
  have hF := yY eB228 hF
  refine zD fun K232 hK232 => ?_
  refine zC ?_
  obtain ⟨x233, e234, hF⟩ := zH hF
  refine zA rfl rfl (zT (xK (a := g225) (b := x121) rfl rfl) (congrArg Value.bool e234)) ?_
  refine (zI (zB (hK232 _ _ ?_)))
  refine zD fun K236 hK236 => ?_
  refine yF (b := x233) rfl (fun c237 => ?_) (fun c237 => ?_)
  ·have hF := zW c237 hF
   refine (yA (zB (hK236 _ _ ?_)))
   refine zD fun K258 hK258 => ?_
   refine yK ?_
   refine zD fun K259 hK259 => ?_
   refine zC ?_
   refine zA rfl rfl (zG (v := .int .i64 g225) rfl) ?_
   refine zA rfl rfl (zF (v := .int .i64 g225) rfl) ?_
   refine (zI (zB (hK259 _ _ ?_)))
   refine zD fun K260 hK260 => ?_
   refine zC ?_
   refine zA rfl rfl (zG (v := .func (.func 54) #[] [.pointer (some ⟨b3, 0, none⟩)].toArray) rfl) ?_
   refine zA rfl rfl (zG (v := v1) rfl) ?_
   refine zA rfl rfl (zG (v := .int .i64 g225) rfl) ?_
   obtain ⟨x261, e262, hF⟩ := zJ hF
   obtain ⟨b263, o264, c265, cs266, q267, h270, h268, h269, h271⟩ := wB (H.item (i := 1) rfl) e262
   obtain rfl := rGrain_open h270
   have H := H.fz (.at b263 (o264 + g225.toNat * 2) _) ⟨h268, h269, h271⟩
   refine zA rfl rfl (xG u24 sz103 q267 rfl (yD e262).1 (yD e262).2.1 rfl rfl) ?_
   refine zA rfl rfl (zT (yV (cs := [.string (bs x261.Track), .int .i64 x261.N]) agg103 rfl sz103 rfl (H.item (i := 2) rfl).2.2) rfl) ?_
   obtain ⟨x273, e274, hF⟩ := zJ hF
   refine yJ rfl rfl (DoC_clo en54 rfl rfl) (F_fleet_CheckMask_1_w x261 p1c0 b3 _ e274 _ _ _ (H.enter [0] [] (by decide) rfl)) ?_
   rintro _ w275 ⟨rfl, G276⟩
   have H : Hd O _ w275 _ [.fz (.sl rGrain v1 p0), .fz (.at b263 (o264 + g225.toNat * 2) [.string (bs x261.Track), .int .i64 x261.N]), .blk b3 [.string (bs p1c0.Track), .int .i64 p1c0.N] 103] := H.back [0] [] rfl G276
   refine ⟨_, rfl, ?_⟩
   refine (zI (zB (hK260 _ _ ?_)))
   refine yF (b := x273) rfl (fun c277 => ?_) (fun c277 => ?_)
   ·have hF := zW c277 hF
    refine zD fun K278 hK278 => ?_
    refine zC ?_
    refine zA rfl rfl (zG (v := .int .i64 g225) rfl) ?_
    refine zA rfl rfl (zF (v := .int .i64 g225) rfl) ?_
    refine (zI (zB (hK278 _ _ ?_)))
    have hR := Option.some.inj hF
    subst hR
    refine (yG (yM (zZ (zZ (yM (zZ (post1 (v1 := .int .i64 g225) rfl rfl ?_)))))))
    exact ⟨rfl, H.pick [2] (by decide)⟩
   have hF := zX c277 hF
   refine (yA (yU (zB (hK258 _ _ ?_))))
   refine zC ?_
   obtain ⟨x279, e280, hF⟩ := zH hF
   refine zA rfl rfl (xJ (a := g225) (b := 1) rfl rfl e280) ?_
   refine zA rfl rfl (zG (v := .int .i64 x279) rfl) ?_
   refine (zI (zB (And.intro ?_ ?_)))
   ·repeat' (first | with_reducible exact zN | refine zV rfl ?_ | refine zO rfl rfl ?_)
   exact ⟨(n231, x279), (zK rfl zQ), ⟨H.pick [2, 0] (by decide), hF⟩, Nat.lt_succ_self _⟩
  have hF := zX c237 hF
  refine (xB (yN (yN (yR (zB (And.intro ?_ ?_))))))
  ·repeat' (first | with_reducible exact zN | refine zV rfl ?_ | refine zO rfl rfl ?_)
  exact ⟨(), zQ, ⟨H.pick [0] (by decide), hF⟩⟩
 rintro _ ρ w117 ⟨H, hF⟩
 have hF := xZ ek119 hF
 refine zD fun K281 hK281 => ?_
 refine zC ?_
 refine zA rfl rfl (zF (v := .int .i64 (-1)) rfl) ?_
 refine (zI (zB (hK281 _ _ ?_)))
 have hR := Option.some.inj hF
 subst hR
 refine (yG (post1 (v1 := .int .i64 (-1)) rfl rfl ?_))
 exact ⟨rfl, H.pick [0] (by decide)⟩
end Go.Proofs.YtbjhondbheijiaaGreatDoor.L
namespace Go.Proofs.YtbjhondbheijiaaGreatDoor.L
open Go.RowKit Go.OB Go.Lf
/- slices.ContainsFunc[[]orangebox/api.Grain,orangebox/api.Grain]@orangebox/fleet.CheckMask$1 -/
set_option maxHeartbeats 4000000 in
theorem F_slices_ContainsFunc___api_Grain_api_Grain__fleet_CheckMask_1_w (p0 : List Grain) (p1c0 : Grain) (v1 : Value) (b3 : Nat) (r : Bool) (hF : F_slices_ContainsFunc___api_Grain_api_Grain__fleet_CheckMask_1 p0 p1c0 = some r) (O S : List Nat) (w : World) (H : Hd O w w S [.blk b3 [.string (bs p1c0.Track), .int .i64 p1c0.N] 103, .fz (.sl rGrain v1 p0)]) :
  Calls Tryz.prog 53 ([v1, .func (.func 54) #[] [.pointer (some ⟨b3, 0, none⟩)].toArray] : List Value).toArray w fun e w' => e = .returned (.bool r) ∧ Hd O w w' S [.blk b3 [.string (bs p1c0.Track), .int .i64 p1c0.N] 103] := by
 unfold F_slices_ContainsFunc___api_Grain_api_Grain__fleet_CheckMask_1 at hF
 refine yB 9 Tryz.func53 rfl rfl rfl ?_
 refine zD fun K5 hK5 => ?_
 refine zC ?_
 refine zA rfl rfl (zF (v := .bool false) rfl) ?_
 refine (zI (zB (hK5 _ _ ?_)))
 refine zD fun K6 hK6 => ?_
 refine zC ?_
 refine zA rfl rfl (zG (v := v1) rfl) ?_
 refine zA rfl rfl (zG (v := .func (.func 54) #[] [.pointer (some ⟨b3, 0, none⟩)].toArray) rfl) ?_
 obtain ⟨x7, e8, hF⟩ := zJ hF
 refine yJ rfl rfl (yC en76 rfl) (F_slices_IndexFunc___api_Grain_api_Grain__fleet_CheckMask_1_w p0 p1c0 v1 b3 _ e8 _ _ _ (H.enter [0] [1] (by decide) rfl)) ?_
 rintro _ w9 ⟨rfl, G10⟩
 have H : Hd O _ w9 _ [.fz (.sl rGrain v1 p0), .blk b3 [.string (bs p1c0.Track), .int .i64 p1c0.N] 103] := H.back [0] [1] rfl G10
 refine ⟨_, rfl, ?_⟩
 obtain ⟨x11, e12, hF⟩ := zH hF
 refine zA rfl rfl (zT (Do_geq (a := x7) (b := 0) rfl rfl) (congrArg Value.bool e12)) ?_
 refine zA rfl rfl (zF (v := .bool x11) rfl) ?_
 refine (zI (zB (hK6 _ _ ?_)))
 have hR := Option.some.inj hF
 subst hR
 refine (yG (post1 (v1 := .bool x11) rfl rfl ?_))
 exact ⟨rfl, H.pick [1] (by decide)⟩
end Go.Proofs.YtbjhondbheijiaaGreatDoor.L
