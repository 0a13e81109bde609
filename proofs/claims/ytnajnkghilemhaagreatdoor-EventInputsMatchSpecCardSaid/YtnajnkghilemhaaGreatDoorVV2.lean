/- Walks: what each function computes, for every argument; no condition but those that stand in the statements. -/
import Derived.Test.YtnajnkghilemhaaGreatDoorVV0
import Derived.Test.YtnajnkghilemhaaGreatDoorVV1
namespace Go.Proofs.YtnajnkghilemhaaGreatDoor.L
open Go.RowKit Go.OB Go.Lf
/- orangebox/orangeboxref5.fault -/
set_option maxHeartbeats 4000000 in
set_option maxRecDepth 100000 in
theorem F_ref5_fault_w (p0 : Series) (v1 : Value) (r : Int × Int) (hF : F_ref5_fault p0 = some r) (O S : List Nat) (w : World) (H : Hd O w w S [.fz (.sl rSample v1 p0.Samples)]) :
  Calls Tryz.prog 124 ([.agg [.int .i64 p0.Den, v1].toArray] : List Value).toArray w fun e w' => e = .returned (.tuple #[.int .i64 r.1, .int .i64 r.2]) ∧ Hd O w w' S [] := by
 unfold F_ref5_fault at hF
 refine yD 49 Tryz.func124 rfl rfl rfl ?_
 refine zD fun K3 hK3 => ?_
 refine zC ?_
 refine yY rfl rfl (Lx_box (cs := [.int .i64 p0.Den, v1]) rfl H) ?_
 rintro _ w6 ⟨b4, rfl, H⟩
 refine zA rfl rfl (zG (v := .int .i64 0) rfl) ?_
 refine zA rfl rfl (zG (v := .int .i64 0) rfl) ?_
 refine (zJ (zB (hK3 _ _ ?_)))
 refine zD fun K15 hK15 => ?_
 refine zD fun K16 hK16 => ?_
 refine zC ?_
 refine zA rfl rfl (fa35_0 rfl) ?_
 refine zA rfl rfl (zL one3 rfl (Cells.get (Blk.cells (H.item (i := 1) rfl)) (i := 0) rfl)) ?_
 have H17 := H
 obtain ⟨x18, e19, hF⟩ := zI hF
 refine yA rfl rfl (zX en161 rfl) (F_ref5_outside_w p0.Den 1 1000000 _ e19 _ _ _ (H.enter [] [] (by decide) rfl)) ?_
 rintro _ w20 ⟨rfl, G21⟩
 have H := H17.step (G21.only : Only [] _ _)
 refine ⟨_, rfl, ?_⟩
 refine (zJ (zB (hK16 _ _ ?_)))
 refine yH (b := x18) rfl (fun c22 => ?_) (fun c22 => ?_)
 ·have hF := zV c22 hF
  refine zD fun K23 hK23 => ?_
  refine zC ?_
  refine zA rfl rfl (zG (v := .int .i64 (-1)) rfl) ?_
  refine zA rfl rfl (zG (v := .int .i64 9) rfl) ?_
  refine (zJ (zB (hK23 _ _ ?_)))
  have hR := Option.some.inj hF
  subst hR
  refine (yG (yC (post2 (v1 := .int .i64 (-1)) (v2 := .int .i64 9) rfl rfl rfl ?_)))
  exact ⟨rfl, H.pick [] (by decide)⟩
 have hF := zW c22 hF
 refine (yI (zB (hK15 _ _ ?_)))
 refine zD fun K34 hK34 => ?_
 refine zD fun K35 hK35 => ?_
 refine zC ?_
 refine zA rfl rfl (fa35_1 rfl) ?_
 refine zA rfl rfl (zL one33 rfl (Cells.get (Blk.cells (H.item (i := 1) rfl)) (i := 1) rfl)) ?_
 obtain ⟨x36, e37, hF⟩ := zF hF
 obtain ⟨a38, c39, q40⟩ := SlF.len ((H.item (i := 0) rfl))
 refine zA rfl rfl (zM (xA u33 q40) (congrArg (Value.int .i64) e37)) ?_
 obtain ⟨x41, e42, hF⟩ := zF hF
 refine zA rfl rfl (zM (Do_gtr (a := x36) (b := 20000) rfl rfl) (congrArg Value.bool e42)) ?_
 refine (zJ (zB (hK35 _ _ ?_)))
 refine yH (b := x41) rfl (fun c43 => ?_) (fun c43 => ?_)
 ·have hF := zV c43 hF
  refine zD fun K44 hK44 => ?_
  refine zC ?_
  refine zA rfl rfl (zG (v := .int .i64 (-1)) rfl) ?_
  refine zA rfl rfl (zG (v := .int .i64 3) rfl) ?_
  refine (zJ (zB (hK44 _ _ ?_)))
  have hR := Option.some.inj hF
  subst hR
  refine (yG (yC (post2 (v1 := .int .i64 (-1)) (v2 := .int .i64 3) rfl rfl rfl ?_)))
  exact ⟨rfl, H.pick [] (by decide)⟩
 have hF := zW c43 hF
 refine (yI (zB (hK34 _ _ ?_)))
 obtain ⟨k446, ek447, hF⟩ := wC hF
 refine yQ [2, 3, 4, 5, 13, 14, 15, 16, 17, 18, 19, 20, 21, 22, 23, 24, 25, 26, 27, 28, 29, 30, 31, 32, 33, 34, 35, 36, 37, 38, 39, 40, 41, 42, 43, 44, 45, 46, 47, 48] (fun (g : Unit) => []) (fun g wl => Hd O w wl S [] ∧ k446 () = some r) ?_ ?_
 ·skip
  refine zD fun K448 hK448 => ?_
  refine zC ?_
  refine zA rfl rfl (zG (v := .int .i64 0) rfl) ?_
  refine (zJ (zB (hK448 _ _ ?_)))
  refine yM ?_
  unfold F_ref5_fault_L1 at hF
  obtain ⟨B843, n844, eB845, hF⟩ := yZ hF
  refine xN [2, 3, 4, 5, 13, 14, 15, 16, 17, 18, 19, 20, 21, 22, 23, 24, 25, 26, 27, 28, 29, 30, 31, 32, 33, 34, 35, 36, 37, 38, 39, 40, 41, 42, 43, 44, 45, 46, 47, 48] (fun (g : Nat × Int) => [(4, .int .i64 g.2)]) (fun g wl => Hd O w wl S [.fz (.sl rSample v1 p0.Samples), .blk b4 [.int .i64 p0.Den, v1] 35] ∧ loopN B843 g.1 g.2 = some r) (fun g => g.1) (n844, 0) (zQ rfl zU) ⟨H.pick [0, 1] (by decide), hF⟩ ?_
  clear H hF
  rintro ⟨n844, g842⟩ ρ w847 ⟨H, hF⟩
  obtain ⟨n848, rfl, hF⟩ := xH hF
  have hF := xG eB845 hF
  refine zD fun K858 hK858 => ?_
  refine zD fun K859 hK859 => ?_
  refine zC ?_
  refine zA rfl rfl (zK (v := .int .i64 g842) rfl) ?_
  refine zA rfl rfl (fa35_1 rfl) ?_
  refine zA rfl rfl (zL one33 rfl (Cells.get (Blk.cells (H.item (i := 1) rfl)) (i := 1) rfl)) ?_
  obtain ⟨x860, e861, hF⟩ := zF hF
  obtain ⟨a862, c863, q864⟩ := SlF.len ((H.item (i := 0) rfl))
  refine zA rfl rfl (zM (xA u33 q864) (congrArg (Value.int .i64) e861)) ?_
  obtain ⟨x865, e866, hF⟩ := zF hF
  refine zA rfl rfl (zM (xZ (a := g842) (b := x860) rfl rfl) (congrArg Value.bool e866)) ?_
  refine (zJ (zB (hK859 _ _ ?_)))
  refine yH (b := x865) rfl (fun c867 => ?_) (fun c867 => ?_)
  ·have hF := zV c867 hF
   refine (yI (zB (hK858 _ _ ?_)))
   refine zD fun K955 hK955 => ?_
   refine yM ?_
   refine zD fun K979 hK979 => ?_
   refine zD fun K980 hK980 => ?_
   refine zC ?_
   refine zA rfl rfl (fa35_1 rfl) ?_
   refine zA rfl rfl (zL one33 rfl (Cells.get (Blk.cells (H.item (i := 1) rfl)) (i := 1) rfl)) ?_
   refine zA rfl rfl (zK (v := .int .i64 g842) rfl) ?_
   obtain ⟨x981, e982, hF⟩ := zI hF
   obtain ⟨b983, o984, c985, cs986, q987, h990, h988, h989, h991⟩ := rd_at (H.item (i := 0) rfl) e982
   obtain rfl := rSample_open h990
   have H := H.fz (.at b983 (o984 + g842.toNat * 3) _) ⟨h988, h989, h991⟩
   refine zA rfl rfl (xY u33 sz40 q987 rfl (yP e982).1 (yP e982).2.1 rfl rfl) ?_
   refine zA rfl rfl (zM (yT (cs := [.int .i64 x981.At, .int .i64 x981.N, .int .i64 x981.Mark]) agg40 rfl sz40 rfl (H.item (i := 2) rfl).2.2) rfl) ?_
   have H993 := H
   obtain ⟨x994, e995, hF⟩ := zI hF
   refine yA rfl rfl (zX en162 rfl) (F_ref5_sampleFault_w x981 _ e995 _ _ _ (H.enter [] [] (by decide) rfl)) ?_
   rintro _ w996 ⟨rfl, G997⟩
   have H := H993.step (G997.only : Only [] _ _)
   refine ⟨_, rfl, ?_⟩
   refine zA rfl rfl (zG (v := .int .i64 x994) rfl) ?_
   refine (zJ (zB (hK980 _ _ ?_)))
   refine zD fun K998 hK998 => ?_
   refine zC ?_
   refine zA rfl rfl (zK (v := .int .i64 x994) rfl) ?_
   obtain ⟨x999, e1000, hF⟩ := zF hF
   refine zA rfl rfl (zM (xO (a := x994) (b := 0) rfl rfl) (congrArg Value.bool e1000)) ?_
   refine (zJ (zB (hK998 _ _ ?_)))
   refine yH (b := x999) rfl (fun c1001 => ?_) (fun c1001 => ?_)
   ·have hF := zV c1001 hF
    refine zD fun K1002 hK1002 => ?_
    refine zC ?_
    refine zA rfl rfl (zK (v := .int .i64 g842) rfl) ?_
    refine zA rfl rfl (zK (v := .int .i64 x994) rfl) ?_
    refine zA rfl rfl (zG (v := .int .i64 g842) rfl) ?_
    refine zA rfl rfl (zG (v := .int .i64 x994) rfl) ?_
    refine (zJ (zB (hK1002 _ _ ?_)))
    have hR := Option.some.inj hF
    subst hR
    refine (yG (yC (yJ (yC (yC (yJ (yC (post2 (v1 := .int .i64 g842) (v2 := .int .i64 x994) rfl rfl rfl ?_))))))))
    exact ⟨rfl, H.pick [] (by decide)⟩
   have hF := zW c1001 hF
   refine (yI (zB (hK979 _ _ ?_)))
   obtain ⟨g1038, hF, hK1040⟩ := zI hF
   refine yQ [30, 31, 32, 33, 34, 35, 36, 37, 38, 39, 40, 41, 42, 43, 44, 45, 46, 47] (fun (g : Unit) => [(47, .bool g1038)]) (fun g wl => Hd O w wl S [.fz (.sl rSample v1 p0.Samples), .blk b4 [.int .i64 p0.Den, v1] 35]) ?_ ?_
   ·skip
    have H1041 := H
    have H := H.rebase
    have H1042 := H
    refine WP_mix0 H [0, 1, 2, 3, 4, 5, 6, 7, 8, 9, 10, 11, 12, 13, 14, 15, 16, 17] [.pure, .pure, .pure, .pure, .read, .pure, .pure, .pure, .read, .pure, .read, .pure, .pure, .pure, .pure, .read, .pure, .pure] mixed (by kernel_rfl) (by kernel_rfl) (by kernel_rfl) rfl ?_
    refine Mx.yB rfl rfl rfl (fun w' hw' => zK (v := .int .i64 g842) rfl) ?_
    obtain ⟨x1043, e1044, hF⟩ := zF hF
    refine Mx.yB rfl rfl rfl (fun w' hw' => zM (Do_gtr (a := g842) (b := 0) rfl rfl) (congrArg Value.bool e1044)) ?_
    refine Mx.XL_splitb (b := x1043) rfl rfl rfl rfl (fun c1045 => ?_) (fun c1045 => ?_)
    ·have hF := zV c1045 hF
     refine Mx.yB rfl rfl rfl (fun w' hw' => fa35_1 rfl) ?_
     refine Mx.xK oS rfl rfl rfl (fun w' hw' => zL one33 rfl (Cells.get (Blk.cells ((H.sees hw').item (i := 1) rfl)) (i := 1) rfl)) ?_
     refine Mx.yB rfl rfl rfl (fun w' hw' => zK (v := .int .i64 g842) rfl) ?_
     obtain ⟨x1046, e1047, hF⟩ := zI hF
     obtain ⟨b1048, o1049, c1050, cs1051, q1052, h1055, h1053, h1054, h1056⟩ := rd_at (H.item (i := 0) rfl) e1047
     obtain rfl := rSample_open h1055
     have H := H.fz (.at b1048 (o1049 + g842.toNat * 3) _) ⟨h1053, h1054, h1056⟩
     refine Mx.yB rfl rfl rfl (fun w' hw' => xY u33 sz40 q1052 rfl (yP e1047).1 (yP e1047).2.1 rfl rfl) ?_
     refine Mx.yB rfl rfl rfl (fun w' hw' => fa40_0 rfl) ?_
     refine Mx.xK oS rfl rfl rfl (fun w' hw' => zL one3 rfl (Cells.get ((H.sees hw').item (i := 3) rfl).2.2 (i := 0) rfl)) ?_
     refine Mx.yB rfl rfl rfl (fun w' hw' => fa35_1 rfl) ?_
     refine Mx.xK oS rfl rfl rfl (fun w' hw' => zL one33 rfl (Cells.get (Blk.cells ((H.sees hw').item (i := 1) rfl)) (i := 1) rfl)) ?_
     refine Mx.yB rfl rfl rfl (fun w' hw' => zK (v := .int .i64 g842) rfl) ?_
     obtain ⟨x1058, e1059, hF⟩ := zF hF
     refine Mx.yB rfl rfl rfl (fun w' hw' => Do_sub (a := g842) (b := 1) rfl rfl e1059) ?_
     obtain ⟨x1060, e1061, hF⟩ := zI hF
     obtain ⟨b1062, o1063, c1064, cs1065, q1066, h1069, h1067, h1068, h1070⟩ := rd_at (H.item (i := 0) rfl) e1061
     obtain rfl := rSample_open h1069
     have H := H.fz (.at b1062 (o1063 + x1058.toNat * 3) _) ⟨h1067, h1068, h1070⟩
     refine Mx.yB rfl rfl rfl (fun w' hw' => xY u33 sz40 q1066 rfl (yP e1061).1 (yP e1061).2.1 rfl rfl) ?_
     refine Mx.yB rfl rfl rfl (fun w' hw' => fa40_0 rfl) ?_
     refine Mx.xK oS rfl rfl rfl (fun w' hw' => zL one3 rfl (Cells.get ((H.sees hw').item (i := 4) rfl).2.2 (i := 0) rfl)) ?_
     obtain ⟨x1072, e1073, hF⟩ := zF hF
     refine Mx.yB rfl rfl rfl (fun w' hw' => zM (Do_leq (a := x1046.At) (b := x1060.At) rfl rfl) (congrArg Value.bool e1073)) ?_
     refine Mx.yB rfl rfl rfl (fun w' hw' => zY (v := .bool x1072) rfl rfl) ?_
     refine Mx.XL_nil fun w1074 hS => ?_
     have H := H.sees hS
     have H := H1041.rejoin H
     have hR := Option.some.inj hF
     subst hR
     refine (zB (And.intro ?_ ?_))
     ·repeat' (first | with_reducible exact zS | refine zZ rfl ?_ | refine zT rfl rfl ?_)
     exact ⟨(), (zQ rfl zU), H.pick [0, 1] (by decide)⟩
    have hF := zW c1045 hF
    refine Mx.XL_offp rfl rfl rfl ?_
    refine Mx.XL_offr oS rfl rfl rfl ?_
    refine Mx.XL_offp rfl rfl rfl ?_
    refine Mx.XL_offp rfl rfl rfl ?_
    refine Mx.XL_offp rfl rfl rfl ?_
    refine Mx.XL_offr oS rfl rfl rfl ?_
    refine Mx.XL_offp rfl rfl rfl ?_
    refine Mx.XL_offr oS rfl rfl rfl ?_
    refine Mx.XL_offp rfl rfl rfl ?_
    refine Mx.XL_offp rfl rfl rfl ?_
    refine Mx.XL_offp rfl rfl rfl ?_
    refine Mx.XL_offp rfl rfl rfl ?_
    refine Mx.XL_offr oS rfl rfl rfl ?_
    refine Mx.XL_offp rfl rfl rfl ?_
    refine Mx.yB rfl rfl rfl (fun w' hw' => zN (v := .bool false) rfl rfl) ?_
    refine Mx.XL_nil fun w1075 hS => ?_
    have H := H.sees hS
    have H := H1041.rejoin H
    have hR := Option.some.inj hF
    subst hR
    refine (zB (And.intro ?_ ?_))
    ·repeat' (first | with_reducible exact zS | refine zZ rfl ?_ | refine zT rfl rfl ?_)
    exact ⟨(), (zQ rfl zU), H.pick [0, 1] (by decide)⟩
   rintro _ ρ w1039 H
   have hF := hK1040
   refine yH (b := g1038) rfl (fun c1076 => ?_) (fun c1076 => ?_)
   ·have hF := zV c1076 hF
    refine zD fun K1077 hK1077 => ?_
    refine zC ?_
    refine zA rfl rfl (zK (v := .int .i64 g842) rfl) ?_
    refine zA rfl rfl (zG (v := .int .i64 g842) rfl) ?_
    refine zA rfl rfl (zG (v := .int .i64 10) rfl) ?_
    refine (zJ (zB (hK1077 _ _ ?_)))
    have hR := Option.some.inj hF
    subst hR
    refine (yG (yJ (yC (yC (yJ (yC (post2 (v1 := .int .i64 g842) (v2 := .int .i64 10) rfl rfl rfl ?_)))))))
    exact ⟨rfl, H.pick [] (by decide)⟩
   have hF := zW c1076 hF
   refine (yI (yX (zB (hK955 _ _ ?_))))
   refine zC ?_
   refine zA rfl rfl (zK (v := .int .i64 g842) rfl) ?_
   obtain ⟨x1078, e1079, hF⟩ := zF hF
   refine zA rfl rfl (wE (a := g842) (b := 1) rfl rfl e1079) ?_
   refine zA rfl rfl (zG (v := .int .i64 x1078) rfl) ?_
   refine (zJ (zB (And.intro ?_ ?_)))
   ·repeat' (first | with_reducible exact zS | refine zZ rfl ?_ | refine zT rfl rfl ?_)
   exact ⟨(n848, x1078), (zQ rfl zU), ⟨H.pick [0, 1] (by decide), hF⟩, Nat.lt_succ_self _⟩
  have hF := zW c867 hF
  refine (xW (yU (yU (xE (zB (And.intro ?_ ?_))))))
  ·repeat' (first | with_reducible exact zS | refine zZ rfl ?_ | refine zT rfl rfl ?_)
  exact ⟨(), zU, ⟨H.pick [] (by decide), hF⟩⟩
 rintro _ ρ w445 ⟨H, hF⟩
 have hF := wJ ek447 hF
 refine zD fun K1080 hK1080 => ?_
 refine zC ?_
 refine zA rfl rfl (zG (v := .int .i64 (-1)) rfl) ?_
 refine zA rfl rfl (zG (v := .int .i64 0) rfl) ?_
 refine (zJ (zB (hK1080 _ _ ?_)))
 have hR := Option.some.inj hF
 subst hR
 refine (yG (post2 (v1 := .int .i64 (-1)) (v2 := .int .i64 0) rfl rfl rfl ?_))
 exact ⟨rfl, H.pick [] (by decide)⟩
end Go.Proofs.YtnajnkghilemhaaGreatDoor.L
namespace Go.Proofs.YtnajnkghilemhaaGreatDoor.L
open Go.RowKit Go.OB Go.Lf
/- orangebox/orangeboxref5.Check -/
set_option maxHeartbeats 4000000 in
theorem F_ref5_Check_w (p0 : Series) (v1 : Value) (r : Int) (hF : F_ref5_Check p0 = some r) (O S : List Nat) (w : World) (H : Hd O w w S [.fz (.sl rSample v1 p0.Samples)]) :
  Calls Tryz.prog 73 ([.agg [.int .i64 p0.Den, v1].toArray] : List Value).toArray w fun e w' => e = .returned (.int .i64 r) ∧ Hd O w w' S [] := by
 unfold F_ref5_Check at hF
 refine yD 11 Tryz.func73 rfl rfl rfl ?_
 refine zD fun K3 hK3 => ?_
 refine zC ?_
 refine yY rfl rfl (Lx_box (cs := [.int .i64 p0.Den, v1]) rfl H) ?_
 rintro _ w6 ⟨b4, rfl, H⟩
 refine zA rfl rfl (zG (v := .int .i64 0) rfl) ?_
 refine (zJ (zB (hK3 _ _ ?_)))
 refine zD fun K7 hK7 => ?_
 refine zC ?_
 refine zA rfl rfl (zM (yT (cs := [.int .i64 p0.Den, v1]) agg35 rfl sz35 rfl (Blk.cells (H.item (i := 1) rfl))) rfl) ?_
 have H8 := H
 obtain ⟨⟨x9, x10⟩, e11, hF⟩ := zI hF
 refine yA rfl rfl (zX en124 rfl) (F_ref5_fault_w p0 v1 _ e11 _ _ _ (H.enter [] [0] (by decide) rfl)) ?_
 rintro _ w12 ⟨rfl, G13⟩
 have H := H8.step (G13.only : Only [] _ _)
 refine ⟨_, rfl, ?_⟩
 refine zA rfl rfl (zK (v := .tuple #[.int .i64 x9, .int .i64 x10]) rfl) ?_
 refine zA rfl rfl (xQ (v := .int .i64 x9) rfl rfl) ?_
 refine zA rfl rfl (xQ (v := .int .i64 x10) rfl rfl) ?_
 refine zA rfl rfl (zG (v := .int .i64 x9) rfl) ?_
 refine zA rfl rfl (zG (v := .int .i64 x10) rfl) ?_
 refine (zJ (zB (hK7 _ _ ?_)))
 refine zD fun K14 hK14 => ?_
 refine zC ?_
 refine zA rfl rfl (zK (v := .int .i64 x10) rfl) ?_
 refine zA rfl rfl (zG (v := .int .i64 x10) rfl) ?_
 refine (zJ (zB (hK14 _ _ ?_)))
 have hR := Option.some.inj hF
 subst hR
 refine (yG (post1 (v1 := .int .i64 x10) rfl rfl ?_))
 exact ⟨rfl, H.pick [] (by decide)⟩
end Go.Proofs.YtnajnkghilemhaaGreatDoor.L
namespace Go.Proofs.YtnajnkghilemhaaGreatDoor.L
open Go.RowKit Go.OB Go.Lf
/- orangebox/orangeboxref6.outside -/
set_option maxHeartbeats 4000000 in
theorem F_ref6_outside_w (p0 : Int) (p1 : Int) (p2 : Int) (r : Bool) (hF : F_ref6_outside p0 p1 p2 = some r) (O S : List Nat) (w : World) (H : Hd O w w S []) :
  Calls Tryz.prog 63 ([.int .i64 p0, .int .i64 p1, .int .i64 p2] : List Value).toArray w fun e w' => e = .returned (.bool r) ∧ Hd O w w' S [] := by
 unfold F_ref6_outside at hF
 refine yD 15 Tryz.func63 rfl rfl rfl ?_
 refine zD fun K1 hK1 => ?_
 refine zC ?_
 refine zA rfl rfl (zG (v := .bool false) rfl) ?_
 refine (zJ (zB (hK1 _ _ ?_)))
 obtain ⟨g7, hF, hK9⟩ := zI hF
 refine yQ [6, 7, 8, 9, 10, 11, 12, 13, 14] (fun (g : Unit) => [(6, .bool g7)]) (fun g wl => Hd O w wl S []) ?_ ?_
 ·skip
  refine zC ?_
  refine zA rfl rfl (zK (v := .int .i64 p0) rfl) ?_
  refine zA rfl rfl (zK (v := .int .i64 p1) rfl) ?_
  obtain ⟨x10, e11, hF⟩ := zF hF
  refine zA rfl rfl (zM (xZ (a := p0) (b := p1) rfl rfl) (congrArg Value.bool e11)) ?_
  refine yE (b := x10) rfl rfl rfl (fun c12 => ?_) (fun c12 => ?_)
  ·have hF := zV c12 hF
   refine zH rfl rfl ?_
   refine zH rfl rfl ?_
   refine zH rfl rfl ?_
   refine zA rfl rfl (zY (v := .bool true) rfl rfl) ?_
   refine zA rfl rfl (zG (v := .bool true) rfl) ?_
   have hR := Option.some.inj hF
   subst hR
   refine (zJ (zB (And.intro ?_ ?_)))
   ·repeat' (first | with_reducible exact zS | refine zZ rfl ?_ | refine zT rfl rfl ?_)
   exact ⟨(), (zQ rfl zU), H.pick [] (by decide)⟩
  have hF := zW c12 hF
  refine zA rfl rfl (zK (v := .int .i64 p0) rfl) ?_
  refine zA rfl rfl (zK (v := .int .i64 p2) rfl) ?_
  obtain ⟨x13, e14, hF⟩ := zF hF
  refine zA rfl rfl (zM (Do_gtr (a := p0) (b := p2) rfl rfl) (congrArg Value.bool e14)) ?_
  refine zA rfl rfl (zN (v := .bool x13) rfl rfl) ?_
  refine zA rfl rfl (zG (v := .bool x13) rfl) ?_
  have hR := Option.some.inj hF
  subst hR
  refine (zJ (zB (And.intro ?_ ?_)))
  ·repeat' (first | with_reducible exact zS | refine zZ rfl ?_ | refine zT rfl rfl ?_)
  exact ⟨(), (zQ rfl zU), H.pick [] (by decide)⟩
 rintro _ ρ w8 H
 have hF := hK9
 have hR := Option.some.inj hF
 subst hR
 refine (yG (post1 (v1 := .bool g7) rfl rfl ?_))
 exact ⟨rfl, H.pick [] (by decide)⟩
end Go.Proofs.YtnajnkghilemhaaGreatDoor.L
namespace Go.Proofs.YtnajnkghilemhaaGreatDoor.L
open Go.RowKit Go.OB Go.Lf
/- orangebox/orangeboxref6.CheckTracks -/
set_option maxHeartbeats 4000000 in
set_option maxRecDepth 100000 in
theorem F_ref6_CheckTracks_w (p0 : List Track) (v1 : Value) (r : Int) (hF : F_ref6_CheckTracks p0 = some r) (O S : List Nat) (w : World) (H : Hd O w w S [.fz (.sl rTrack v1 p0)]) :
  Calls Tryz.prog 26 ([v1] : List Value).toArray w fun e w' => e = .returned (.int .i64 r) ∧ Hd O w w' S [] := by
 unfold F_ref6_CheckTracks at hF
 refine yD 53 Tryz.func26 rfl rfl rfl ?_
 refine zD fun K3 hK3 => ?_
 refine zC ?_
 refine zA rfl rfl (zG (v := .int .i64 0) rfl) ?_
 refine (zJ (zB (hK3 _ _ ?_)))
 refine zD fun K14 hK14 => ?_
 refine zD fun K15 hK15 => ?_
 refine zC ?_
 refine zA rfl rfl (zK (v := v1) rfl) ?_
 obtain ⟨x16, e17, hF⟩ := zF hF
 obtain ⟨a18, c19, q20⟩ := SlF.len ((H.item (i := 0) rfl))
 refine zA rfl rfl (zM (xA u27 q20) (congrArg (Value.int .i64) e17)) ?_
 obtain ⟨x21, e22, hF⟩ := zF hF
 refine zA rfl rfl (zM (Do_gtr (a := x16) (b := 50) rfl rfl) (congrArg Value.bool e22)) ?_
 refine (zJ (zB (hK15 _ _ ?_)))
 refine yH (b := x21) rfl (fun c23 => ?_) (fun c23 => ?_)
 ·have hF := zV c23 hF
  refine zD fun K24 hK24 => ?_
  refine zC ?_
  refine zA rfl rfl (zG (v := .int .i64 3) rfl) ?_
  refine (zJ (zB (hK24 _ _ ?_)))
  have hR := Option.some.inj hF
  subst hR
  refine (yG (yC (post1 (v1 := .int .i64 3) rfl rfl ?_)))
  exact ⟨rfl, H.pick [] (by decide)⟩
 have hF := zW c23 hF
 refine (yI (zB (hK14 _ _ ?_)))
 obtain ⟨k2074, ek2075, hF⟩ := wC hF
 refine yQ [2, 3, 4, 5, 9, 10, 11, 12, 13, 14, 15, 16, 17, 18, 19, 20, 21, 22, 23, 24, 25, 26, 27, 28, 29, 30, 31, 32, 33, 34, 35, 36, 37, 38, 39, 40, 41, 42, 43, 44, 45, 46, 47, 48, 49, 50, 51, 52] (fun (g : Unit) => []) (fun g wl => Hd O w wl S [] ∧ k2074 () = some r) ?_ ?_
 ·skip
  refine zD fun K2076 hK2076 => ?_
  refine zC ?_
  refine zA rfl rfl (zG (v := .int .i64 0) rfl) ?_
  refine (zJ (zB (hK2076 _ _ ?_)))
  refine yM ?_
  unfold F_ref6_CheckTracks_L1 at hF
  obtain ⟨B4119, n4120, eB4121, hF⟩ := yZ hF
  refine xN [2, 3, 4, 5, 9, 10, 11, 12, 13, 14, 15, 16, 17, 18, 19, 20, 21, 22, 23, 24, 25, 26, 27, 28, 29, 30, 31, 32, 33, 34, 35, 36, 37, 38, 39, 40, 41, 42, 43, 44, 45, 46, 47, 48, 49, 50, 51, 52] (fun (g : Nat × Int) => [(3, .int .i64 g.2)]) (fun g wl => Hd O w wl S [.fz (.sl rTrack v1 p0)] ∧ loopN B4119 g.1 g.2 = some r) (fun g => g.1) (n4120, 0) (zQ rfl zU) ⟨H.pick [0] (by decide), hF⟩ ?_
  clear H hF
  rintro ⟨n4120, g4118⟩ ρ w4123 ⟨H, hF⟩
  obtain ⟨n4124, rfl, hF⟩ := xH hF
  have hF := xG eB4121 hF
  refine zD fun K4134 hK4134 => ?_
  refine zD fun K4135 hK4135 => ?_
  refine zC ?_
  refine zA rfl rfl (zK (v := .int .i64 g4118) rfl) ?_
  refine zA rfl rfl (zK (v := v1) rfl) ?_
  obtain ⟨x4136, e4137, hF⟩ := zF hF
  obtain ⟨a4138, c4139, q4140⟩ := SlF.len ((H.item (i := 0) rfl))
  refine zA rfl rfl (zM (xA u27 q4140) (congrArg (Value.int .i64) e4137)) ?_
  obtain ⟨x4141, e4142, hF⟩ := zF hF
  refine zA rfl rfl (zM (xZ (a := g4118) (b := x4136) rfl rfl) (congrArg Value.bool e4142)) ?_
  refine (zJ (zB (hK4135 _ _ ?_)))
  refine yH (b := x4141) rfl (fun c4143 => ?_) (fun c4143 => ?_)
  ·have hF := zV c4143 hF
   refine (yI (zB (hK4134 _ _ ?_)))
   obtain ⟨k4643, ek4644, hF⟩ := wC hF
   refine yQ [2, 4, 5, 15, 16, 17, 18, 19, 20, 21, 22, 23, 24, 25, 26, 27, 28, 29, 30, 31, 32, 33, 34, 35, 36, 37, 38, 39, 40, 41, 42, 43, 44, 45, 46, 47, 48, 49, 50, 51, 52] (fun (g : Unit) => []) (fun g wl => Hd O w wl S [.fz (.sl rTrack v1 p0)] ∧ k4643 () = some r) ?_ ?_
   ·skip
    refine yM ?_
    refine zD fun K4670 hK4670 => ?_
    refine zD fun K4671 hK4671 => ?_
    refine zC ?_
    refine zA rfl rfl (zK (v := v1) rfl) ?_
    refine zA rfl rfl (zK (v := .int .i64 g4118) rfl) ?_
    obtain ⟨x4672, e4673, hF⟩ := zI hF
    obtain ⟨b4674, o4675, c4676, cs4677, q4678, h4681, h4679, h4680, h4682⟩ := rd_at (H.item (i := 0) rfl) e4673
    obtain ⟨v4683, rfl, h4684⟩ := rTrack_open h4681
    have H := H.fzs [.at b4674 (o4675 + g4118.toNat * 4) _, .sl rSample v4683 x4672.Series.Samples] ⟨⟨h4679, h4680, h4682⟩, h4684, trivial⟩
    refine zA rfl rfl (xY u27 sz37 q4678 rfl (yP e4673).1 (yP e4673).2.1 rfl rfl) ?_
    refine zA rfl rfl (fa37_0 rfl) ?_
    refine zA rfl rfl (zL one9 rfl (Cells.get (H.item (i := 1) rfl).2.2 (i := 0) rfl)) ?_
    have H4687 := H
    obtain ⟨x4688, e4689, hF⟩ := zI hF
    refine yA rfl rfl (zX en72 rfl) (F_ref6_IsName_w x4672.Name _ e4689 _ _ _ (H.enter [] [] (by decide) rfl)) ?_
    rintro _ w4690 ⟨rfl, G4691⟩
    have H := H4687.step (G4691.only : Only [] _ _)
    refine ⟨_, rfl, ?_⟩
    obtain ⟨x4692, e4693, hF⟩ := zF hF
    refine zA rfl rfl (zM (yS (p := x4688) rfl) (congrArg Value.bool e4693)) ?_
    refine (zJ (zB (hK4671 _ _ ?_)))
    refine yH (b := x4692) rfl (fun c4694 => ?_) (fun c4694 => ?_)
    ·have hF := zV c4694 hF
     refine zD fun K4695 hK4695 => ?_
     refine zC ?_
     refine zA rfl rfl (zG (v := .int .i64 8) rfl) ?_
     refine (zJ (zB (hK4695 _ _ ?_)))
     have hR := Option.some.inj hF
     subst hR
     refine (yG (yC (yJ (yC (yC (yJ (yC (post1 (v1 := .int .i64 8) rfl rfl ?_))))))))
     exact ⟨rfl, H.pick [] (by decide)⟩
    have hF := zW c4694 hF
    refine (yI (zB (hK4670 _ _ ?_)))
    obtain ⟨k4881, ek4882, hF⟩ := wC hF
    refine yQ [2, 4, 22, 23, 24, 25, 26, 27, 28, 29, 30, 31, 32, 33, 34, 35, 36, 37] (fun (g : Unit) => []) (fun g wl => Hd O w wl S [.fz (.sl rTrack v1 p0)] ∧ k4881 () = some r) ?_ ?_
    ·skip
     refine zD fun K4883 hK4883 => ?_
     refine zC ?_
     refine zA rfl rfl (zG (v := .int .i64 0) rfl) ?_
     refine (zJ (zB (hK4883 _ _ ?_)))
     refine yM ?_
     unfold F_ref6_CheckTracks_L2 at hF
     obtain ⟨B5062, n5063, eB5064, hF⟩ := yZ hF
     refine xN [2, 4, 22, 23, 24, 25, 26, 27, 28, 29, 30, 31, 32, 33, 34, 35, 36, 37] (fun (g : Nat × Int) => [(4, .int .i64 g.2)]) (fun g wl => Hd O w wl S [.fz (.sl rTrack v1 p0)] ∧ loopN B5062 g.1 g.2 = some r) (fun g => g.1) (n5063, 0) (zQ rfl zU) ⟨H.pick [0] (by decide), hF⟩ ?_
     clear H hF
     rintro ⟨n5063, g5061⟩ ρ w5066 ⟨H, hF⟩
     obtain ⟨n5067, rfl, hF⟩ := xH hF
     have hF := xG eB5064 hF
     refine zD fun K5072 hK5072 => ?_
     refine zD fun K5073 hK5073 => ?_
     refine zC ?_
     refine zA rfl rfl (zK (v := .int .i64 g5061) rfl) ?_
     refine zA rfl rfl (zK (v := .int .i64 g4118) rfl) ?_
     obtain ⟨x5074, e5075, hF⟩ := zF hF
     refine zA rfl rfl (zM (xZ (a := g5061) (b := g4118) rfl rfl) (congrArg Value.bool e5075)) ?_
     refine (zJ (zB (hK5073 _ _ ?_)))
     refine yH (b := x5074) rfl (fun c5076 => ?_) (fun c5076 => ?_)
     ·have hF := zV c5076 hF
      refine (yI (zB (hK5072 _ _ ?_)))
      refine zD fun K5115 hK5115 => ?_
      refine yM ?_
      refine zD fun K5116 hK5116 => ?_
      have H5117 := H
      have H := H.rebase
      have H5118 := H
      refine WP_mix0 H [0, 1, 2, 3, 4, 5, 6, 7, 8, 9, 10] [.pure, .pure, .pure, .pure, .read, .pure, .pure, .pure, .pure, .read, .pure] mixed (by kernel_rfl) (by kernel_rfl) (by kernel_rfl) rfl ?_
      refine Mx.yB rfl rfl rfl (fun w' hw' => zK (v := v1) rfl) ?_
      refine Mx.yB rfl rfl rfl (fun w' hw' => zK (v := .int .i64 g5061) rfl) ?_
      obtain ⟨x5119, e5120, hF⟩ := zI hF
      obtain ⟨b5121, o5122, c5123, cs5124, q5125, h5128, h5126, h5127, h5129⟩ := rd_at (H.item (i := 0) rfl) e5120
      obtain ⟨v5130, rfl, h5131⟩ := rTrack_open h5128
      have H := H.fzs [.at b5121 (o5122 + g5061.toNat * 4) _, .sl rSample v5130 x5119.Series.Samples] ⟨⟨h5126, h5127, h5129⟩, h5131, trivial⟩
      refine Mx.yB rfl rfl rfl (fun w' hw' => xY u27 sz37 q5125 rfl (yP e5120).1 (yP e5120).2.1 rfl rfl) ?_
      refine Mx.yB rfl rfl rfl (fun w' hw' => fa37_0 rfl) ?_
      refine Mx.xK oS rfl rfl rfl (fun w' hw' => zL one9 rfl (Cells.get ((H.sees hw').item (i := 1) rfl).2.2 (i := 0) rfl)) ?_
      refine Mx.yB rfl rfl rfl (fun w' hw' => zK (v := v1) rfl) ?_
      refine Mx.yB rfl rfl rfl (fun w' hw' => zK (v := .int .i64 g4118) rfl) ?_
      obtain ⟨x5134, e5135, hF⟩ := zI hF
      obtain ⟨b5136, o5137, c5138, cs5139, q5140, h5143, h5141, h5142, h5144⟩ := rd_at (H.item (i := 0) rfl) e5135
      obtain ⟨v5145, rfl, h5146⟩ := rTrack_open h5143
      have H := H.fzs [.at b5136 (o5137 + g4118.toNat * 4) _, .sl rSample v5145 x5134.Series.Samples] ⟨⟨h5141, h5142, h5144⟩, h5146, trivial⟩
      refine Mx.yB rfl rfl rfl (fun w' hw' => xY u27 sz37 q5140 rfl (yP e5135).1 (yP e5135).2.1 rfl rfl) ?_
      refine Mx.yB rfl rfl rfl (fun w' hw' => fa37_0 rfl) ?_
      refine Mx.xK oS rfl rfl rfl (fun w' hw' => zL one9 rfl (Cells.get ((H.sees hw').item (i := 3) rfl).2.2 (i := 0) rfl)) ?_
      obtain ⟨x5149, e5150, hF⟩ := zF hF
      refine Mx.yB rfl rfl rfl (fun w' hw' => zM (xU (s1 := x5119.Name) (s2 := x5134.Name) rfl rfl) (congrArg Value.bool e5150)) ?_
      refine Mx.XL_nil fun w5151 hS => ?_
      have H := H.sees hS
      have H := H5117.rejoin H
      refine (zB (hK5116 _ _ ?_))
      refine yH (b := x5149) rfl (fun c5152 => ?_) (fun c5152 => ?_)
      ·have hF := zV c5152 hF
       refine zD fun K5153 hK5153 => ?_
       refine zC ?_
       refine zA rfl rfl (zG (v := .int .i64 5) rfl) ?_
       refine (zJ (zB (hK5153 _ _ ?_)))
       have hR := Option.some.inj hF
       subst hR
       refine (yG (yJ (yC (yC (yJ (yC (yJ (yC (yC (yJ (yC (post1 (v1 := .int .i64 5) rfl rfl ?_))))))))))))
       exact ⟨rfl, H.pick [] (by decide)⟩
      have hF := zW c5152 hF
      refine (yI (yX (zB (hK5115 _ _ ?_))))
      refine zC ?_
      refine zA rfl rfl (zK (v := .int .i64 g5061) rfl) ?_
      obtain ⟨x5154, e5155, hF⟩ := zF hF
      refine zA rfl rfl (wE (a := g5061) (b := 1) rfl rfl e5155) ?_
      refine zA rfl rfl (zG (v := .int .i64 x5154) rfl) ?_
      refine (zJ (zB (And.intro ?_ ?_)))
      ·repeat' (first | with_reducible exact zS | refine zZ rfl ?_ | refine zT rfl rfl ?_)
      exact ⟨(n5067, x5154), (zQ rfl zU), ⟨H.pick [0] (by decide), hF⟩, Nat.lt_succ_self _⟩
     have hF := zW c5076 hF
     refine (xW (yU (yU (xE (zB (And.intro ?_ ?_))))))
     ·repeat' (first | with_reducible exact zS | refine zZ rfl ?_ | refine zT rfl rfl ?_)
     exact ⟨(), zU, ⟨H.pick [0] (by decide), hF⟩⟩
    rintro _ ρ w4880 ⟨H, hF⟩
    have hF := wJ ek4882 hF
    refine zD fun K5182 hK5182 => ?_
    refine zD fun K5183 hK5183 => ?_
    refine zC ?_
    refine zA rfl rfl (zK (v := v1) rfl) ?_
    refine zA rfl rfl (zK (v := .int .i64 g4118) rfl) ?_
    obtain ⟨x5184, e5185, hF⟩ := zI hF
    obtain ⟨b5186, o5187, c5188, cs5189, q5190, h5193, h5191, h5192, h5194⟩ := rd_at (H.item (i := 0) rfl) e5185
    obtain ⟨v5195, rfl, h5196⟩ := rTrack_open h5193
    have H := H.fzs [.at b5186 (o5187 + g4118.toNat * 4) _, .sl rSample v5195 x5184.Series.Samples] ⟨⟨h5191, h5192, h5194⟩, h5196, trivial⟩
    refine zA rfl rfl (xY u27 sz37 q5190 rfl (yP e5185).1 (yP e5185).2.1 rfl rfl) ?_
    refine zA rfl rfl (fa37_1 rfl) ?_
    refine zA rfl rfl (zM (yT (cs := [.int .i64 x5184.Series.Den, v5195]) agg35 rfl sz35 rfl (Cells.drop (H.item (i := 1) rfl).2.2 1 2)) rfl) ?_
    have H5199 := H
    obtain ⟨x5200, e5201, hF⟩ := zI hF
    refine yA rfl rfl (zX en73 rfl) (F_ref5_Check_w x5184.Series v5195 _ e5201 _ _ _ (H.enter [] [2] (by decide) rfl)) ?_
    rintro _ w5202 ⟨rfl, G5203⟩
    have H := H5199.step (G5203.only : Only [] _ _)
    refine ⟨_, rfl, ?_⟩
    refine zA rfl rfl (zG (v := .int .i64 x5200) rfl) ?_
    refine (zJ (zB (hK5183 _ _ ?_)))
    refine zD fun K5204 hK5204 => ?_
    refine zC ?_
    refine zA rfl rfl (zK (v := .int .i64 x5200) rfl) ?_
    obtain ⟨x5205, e5206, hF⟩ := zF hF
    refine zA rfl rfl (zM (xO (a := x5200) (b := 0) rfl rfl) (congrArg Value.bool e5206)) ?_
    refine (zJ (zB (hK5204 _ _ ?_)))
    refine yH (b := x5205) rfl (fun c5207 => ?_) (fun c5207 => ?_)
    ·have hF := zV c5207 hF
     refine zD fun K5208 hK5208 => ?_
     refine zC ?_
     refine zA rfl rfl (zK (v := .int .i64 x5200) rfl) ?_
     refine zA rfl rfl (zG (v := .int .i64 x5200) rfl) ?_
     refine (zJ (zB (hK5208 _ _ ?_)))
     have hR := Option.some.inj hF
     subst hR
     refine (yG (yC (yJ (yC (yC (yJ (yC (post1 (v1 := .int .i64 x5200) rfl rfl ?_))))))))
     exact ⟨rfl, H.pick [] (by decide)⟩
    have hF := zW c5207 hF
    refine (yI (zB (hK5182 _ _ ?_)))
    refine zD fun K5209 hK5209 => ?_
    refine zC ?_
    refine zA rfl rfl (zK (v := v1) rfl) ?_
    refine zA rfl rfl (zK (v := .int .i64 g4118) rfl) ?_
    obtain ⟨x5210, e5211, hF⟩ := zI hF
    obtain ⟨b5212, o5213, c5214, cs5215, q5216, h5219, h5217, h5218, h5220⟩ := rd_at (H.item (i := 0) rfl) e5211
    obtain ⟨v5221, rfl, h5222⟩ := rTrack_open h5219
    have H := H.fzs [.at b5212 (o5213 + g4118.toNat * 4) _, .sl rSample v5221 x5210.Series.Samples] ⟨⟨h5217, h5218, h5220⟩, h5222, trivial⟩
    refine zA rfl rfl (xY u27 sz37 q5216 rfl (yP e5211).1 (yP e5211).2.1 rfl rfl) ?_
    refine zA rfl rfl (fa37_2 rfl) ?_
    refine zA rfl rfl (zL one3 rfl (Cells.get (H.item (i := 3) rfl).2.2 (i := 3) rfl)) ?_
    have H5225 := H
    obtain ⟨x5226, e5227, hF⟩ := zI hF
    refine yA rfl rfl (zX en63 rfl) (F_ref6_outside_w x5210.Long 0 1099511627776 _ e5227 _ _ _ (H.enter [] [] (by decide) rfl)) ?_
    rintro _ w5228 ⟨rfl, G5229⟩
    have H := H5225.step (G5229.only : Only [] _ _)
    refine ⟨_, rfl, ?_⟩
    refine (zJ (zB (hK5209 _ _ ?_)))
    refine yH (b := x5226) rfl (fun c5230 => ?_) (fun c5230 => ?_)
    ·have hF := zV c5230 hF
     refine zD fun K5231 hK5231 => ?_
     refine zC ?_
     refine zA rfl rfl (zG (v := .int .i64 9) rfl) ?_
     refine (zJ (zB (hK5231 _ _ ?_)))
     have hR := Option.some.inj hF
     subst hR
     refine (yG (yJ (yC (yC (yJ (yC (post1 (v1 := .int .i64 9) rfl rfl ?_)))))))
     exact ⟨rfl, H.pick [] (by decide)⟩
    have hF := zW c5230 hF
    refine (yI (yX (zB (And.intro ?_ ?_))))
    ·repeat' (first | with_reducible exact zS | refine zZ rfl ?_ | refine zT rfl rfl ?_)
    exact ⟨(), zU, ⟨H.pick [0] (by decide), hF⟩⟩
   rintro _ ρ w4642 ⟨H, hF⟩
   have hF := wJ ek4644 hF
   refine zC ?_
   refine zA rfl rfl (zK (v := .int .i64 g4118) rfl) ?_
   obtain ⟨x5232, e5233, hF⟩ := zF hF
   refine zA rfl rfl (wE (a := g4118) (b := 1) rfl rfl e5233) ?_
   refine zA rfl rfl (zG (v := .int .i64 x5232) rfl) ?_
   refine (zJ (zB (And.intro ?_ ?_)))
   ·repeat' (first | with_reducible exact zS | refine zZ rfl ?_ | refine zT rfl rfl ?_)
   exact ⟨(n4124, x5232), (zQ rfl zU), ⟨H.pick [0] (by decide), hF⟩, Nat.lt_succ_self _⟩
  have hF := zW c4143 hF
  refine (xW (yU (yU (xE (zB (And.intro ?_ ?_))))))
  ·repeat' (first | with_reducible exact zS | refine zZ rfl ?_ | refine zT rfl rfl ?_)
  exact ⟨(), zU, ⟨H.pick [] (by decide), hF⟩⟩
 rintro _ ρ w2073 ⟨H, hF⟩
 have hF := wJ ek2075 hF
 refine zD fun K5234 hK5234 => ?_
 refine zC ?_
 refine zA rfl rfl (zG (v := .int .i64 0) rfl) ?_
 refine (zJ (zB (hK5234 _ _ ?_)))
 have hR := Option.some.inj hF
 subst hR
 refine (yG (post1 (v1 := .int .i64 0) rfl rfl ?_))
 exact ⟨rfl, H.pick [] (by decide)⟩
end Go.Proofs.YtnajnkghilemhaaGreatDoor.L
namespace Go.Proofs.YtnajnkghilemhaaGreatDoor.L
open Go.RowKit Go.OB Go.Lf
/- orangebox/series.latest$1 -/
set_option maxHeartbeats 4000000 in
theorem F_series_latest_1_w (p0 : Sample) (p1 : Int) (r : Int) (hF : F_series_latest_1 p0 p1 = some r) (O S : List Nat) (w : World) (H : Hd O w w S []) :
  Calls Tryz.prog 210 ([.agg [.int .i64 p0.At, .int .i64 p0.N, .int .i64 p0.Mark].toArray, .int .i64 p1] : List Value).toArray w fun e w' => e = .returned (.int .i64 r) ∧ Hd O w w' S [] := by
 unfold F_series_latest_1 at hF
 refine yD 9 Tryz.func210 rfl rfl rfl ?_
 refine zD fun K1 hK1 => ?_
 refine zC ?_
 refine yY rfl rfl (Lx_box (cs := [.int .i64 p0.At, .int .i64 p0.N, .int .i64 p0.Mark]) rfl H) ?_
 rintro _ w4 ⟨b2, rfl, H⟩
 refine zA rfl rfl (zG (v := .int .i64 0) rfl) ?_
 refine (zJ (zB (hK1 _ _ ?_)))
 refine zD fun K5 hK5 => ?_
 refine zC ?_
 refine zA rfl rfl (fa40_0 rfl) ?_
 refine zA rfl rfl (zL one3 rfl (Cells.get (Blk.cells (H.item (i := 0) rfl)) (i := 0) rfl)) ?_
 refine zA rfl rfl (zK (v := .int .i64 p1) rfl) ?_
 obtain ⟨x6, e7, hF⟩ := zF hF
 refine zA rfl rfl (Do_sub (a := p0.At) (b := p1) rfl rfl e7) ?_
 refine zA rfl rfl (zG (v := .int .i64 x6) rfl) ?_
 refine (zJ (zB (hK5 _ _ ?_)))
 have hR := Option.some.inj hF
 subst hR
 refine (yG (post1 (v1 := .int .i64 x6) rfl rfl ?_))
 exact ⟨rfl, H.pick [] (by decide)⟩
end Go.Proofs.YtnajnkghilemhaaGreatDoor.L
namespace Go.Proofs.YtnajnkghilemhaaGreatDoor.L
open Go.RowKit Go.OB Go.Lf
/- slices.BinarySearchFunc[[]orangebox/api.Sample,orangebox/api.Sample,int]@orangebox/series.latest$1 -/
set_option maxHeartbeats 4000000 in
theorem F_slices_BinarySearchFunc___api_Sample_api_Sample_int__series_latest_1_w (p0 : List Sample) (p1 : Int) (v1 : Value) (r : Int × Bool) (hF : F_slices_BinarySearchFunc___api_Sample_api_Sample_int__series_latest_1 p0 p1 = some r) (O S : List Nat) (w : World) (H : Hd O w w S [.fz (.sl rSample v1 p0)]) :
  Calls Tryz.prog 209 ([v1, .int .i64 p1, .func (.func 210) #[] #[]] : List Value).toArray w fun e w' => e = .returned (.tuple #[.int .i64 r.1, .bool r.2]) ∧ Hd O w w' S [] := by
 unfold F_slices_BinarySearchFunc___api_Sample_api_Sample_int__series_latest_1 at hF
 refine yD 49 Tryz.func209 rfl rfl rfl ?_
 refine zD fun K3 hK3 => ?_
 refine zC ?_
 refine zA rfl rfl (zG (v := .int .i64 0) rfl) ?_
 refine zA rfl rfl (zG (v := .bool false) rfl) ?_
 refine (zJ (zB (hK3 _ _ ?_)))
 refine zD fun K4 hK4 => ?_
 refine zC ?_
 refine zA rfl rfl (zK (v := v1) rfl) ?_
 obtain ⟨x5, e6, hF⟩ := zF hF
 obtain ⟨a7, c8, q9⟩ := SlF.len ((H.item (i := 0) rfl))
 refine zA rfl rfl (zM (xA u33 q9) (congrArg (Value.int .i64) e6)) ?_
 refine zA rfl rfl (zG (v := .int .i64 x5) rfl) ?_
 refine (zJ (zB (hK4 _ _ ?_)))
 refine zD fun K10 hK10 => ?_
 refine zC ?_
 refine zA rfl rfl (zK (v := .int .i64 x5) rfl) ?_
 refine zA rfl rfl (zG (v := .int .i64 0) rfl) ?_
 refine zA rfl rfl (zG (v := .int .i64 x5) rfl) ?_
 refine (zJ (zB (hK10 _ _ ?_)))
 obtain ⟨g101, hF, hK103⟩ := zI hF
 refine yQ [9, 10, 11, 15, 16, 17, 18, 19, 20, 21, 22, 23, 24, 25, 26, 27, 28, 29, 30, 31, 32, 33, 34] (fun (g : Unit) => [(9, .int .i64 g101)]) (fun g wl => Hd O w wl S [.fz (.sl rSample v1 p0)]) ?_ ?_
 ·skip
  refine yM ?_
  unfold F_slices_BinarySearchFunc___api_Sample_api_Sample_int__series_latest_1_L1 at hF
  obtain ⟨B190, n191, eB192, hF⟩ := yZ hF
  refine xN [9, 10, 11, 15, 16, 17, 18, 19, 20, 21, 22, 23, 24, 25, 26, 27, 28, 29, 30, 31, 32, 33, 34] (fun (g : Nat × Int × Int) => [(9, .int .i64 g.2.1), (10, .int .i64 g.2.2)]) (fun g wl => Hd O w wl S [.fz (.sl rSample v1 p0)] ∧ loopN B190 g.1 (g.2.1, g.2.2) = some g101) (fun g => g.1) (n191, 0, x5) (zQ rfl (zQ rfl zU)) ⟨H.pick [0] (by decide), hF⟩ ?_
  clear H hF
  rintro ⟨n191, g188, g189⟩ ρ w194 ⟨H, hF⟩
  obtain ⟨n195, rfl, hF⟩ := xH hF
  have hF := xG eB192 hF
  refine zD fun K200 hK200 => ?_
  refine zD fun K201 hK201 => ?_
  refine zC ?_
  refine zA rfl rfl (zK (v := .int .i64 g188) rfl) ?_
  refine zA rfl rfl (zK (v := .int .i64 g189) rfl) ?_
  obtain ⟨x202, e203, hF⟩ := zF hF
  refine zA rfl rfl (zM (xZ (a := g188) (b := g189) rfl rfl) (congrArg Value.bool e203)) ?_
  refine (zJ (zB (hK201 _ _ ?_)))
  refine yH (b := x202) rfl (fun c204 => ?_) (fun c204 => ?_)
  ·have hF := zV c204 hF
   refine (yI (zB (hK200 _ _ ?_)))
   refine yM ?_
   refine zD fun K205 hK205 => ?_
   refine zC ?_
   refine zA rfl rfl (zK (v := .int .i64 g188) rfl) ?_
   refine zA rfl rfl (zK (v := .int .i64 g189) rfl) ?_
   obtain ⟨x206, e207, hF⟩ := zF hF
   refine zA rfl rfl (wE (a := g188) (b := g189) rfl rfl e207) ?_
   obtain ⟨x208, e209, hF⟩ := zF hF
   refine zA rfl rfl (Do_conv u3 u136 rfl e209) ?_
   obtain ⟨x210, e211, hF⟩ := zI hF
   refine zA rfl rfl (Do_shr' (j := x208) (q := 1) rfl rfl e211) ?_
   obtain ⟨x212, e213, hF⟩ := zF hF
   refine zA rfl rfl (Do_conv u136 u3 rfl e213) ?_
   refine zA rfl rfl (zG (v := .int .i64 x212) rfl) ?_
   refine (zJ (zB (hK205 _ _ ?_)))
   refine zD fun K214 hK214 => ?_
   refine zC ?_
   refine zA rfl rfl (zK (v := .func (.func 210) #[] #[]) rfl) ?_
   refine zA rfl rfl (zK (v := v1) rfl) ?_
   refine zA rfl rfl (zK (v := .int .i64 x212) rfl) ?_
   obtain ⟨x215, e216, hF⟩ := zI hF
   obtain ⟨b217, o218, c219, cs220, q221, h224, h222, h223, h225⟩ := rd_at (H.item (i := 0) rfl) e216
   obtain rfl := rSample_open h224
   have H := H.fz (.at b217 (o218 + x212.toNat * 3) _) ⟨h222, h223, h225⟩
   refine zA rfl rfl (xY u33 sz40 q221 rfl (yP e216).1 (yP e216).2.1 rfl rfl) ?_
   refine zA rfl rfl (zM (yT (cs := [.int .i64 x215.At, .int .i64 x215.N, .int .i64 x215.Mark]) agg40 rfl sz40 rfl (H.item (i := 1) rfl).2.2) rfl) ?_
   refine zA rfl rfl (zK (v := .int .i64 p1) rfl) ?_
   have H227 := H
   obtain ⟨x228, e229, hF⟩ := zI hF
   refine yA rfl rfl (wH en210 rfl rfl) (F_series_latest_1_w x215 p1 _ e229 _ _ _ (H.enter [] [] (by decide) rfl)) ?_
   rintro _ w230 ⟨rfl, G231⟩
   have H := H227.step (G231.only : Only [] _ _)
   refine ⟨_, rfl, ?_⟩
   obtain ⟨x232, e233, hF⟩ := zF hF
   refine zA rfl rfl (zM (xZ (a := x228) (b := 0) rfl rfl) (congrArg Value.bool e233)) ?_
   refine (zJ (zB (hK214 _ _ ?_)))
   refine yH (b := x232) rfl (fun c234 => ?_) (fun c234 => ?_)
   ·have hF := zV c234 hF
    refine zC ?_
    refine zA rfl rfl (zK (v := .int .i64 x212) rfl) ?_
    obtain ⟨x235, e236, hF⟩ := zF hF
    refine zA rfl rfl (wE (a := x212) (b := 1) rfl rfl e236) ?_
    refine zA rfl rfl (zG (v := .int .i64 x235) rfl) ?_
    refine (zJ (yX (zB (And.intro ?_ ?_))))
    ·repeat' (first | with_reducible exact zS | refine zZ rfl ?_ | refine zT rfl rfl ?_)
    exact ⟨(n195, x235, g189), (zQ rfl (zQ rfl zU)), ⟨H.pick [0] (by decide), hF⟩, Nat.lt_succ_self _⟩
   have hF := zW c234 hF
   refine zC ?_
   refine zA rfl rfl (zK (v := .int .i64 x212) rfl) ?_
   refine zA rfl rfl (zG (v := .int .i64 x212) rfl) ?_
   refine (zJ (yX (zB (And.intro ?_ ?_))))
   ·repeat' (first | with_reducible exact zS | refine zZ rfl ?_ | refine zT rfl rfl ?_)
   exact ⟨(n195, g188, x212), (zQ rfl (zQ rfl zU)), ⟨H.pick [0] (by decide), hF⟩, Nat.lt_succ_self _⟩
  have hF := zW c204 hF
  have hR := Option.some.inj hF
  subst hR
  refine (xW (yU (yU (xE (zB (And.intro ?_ ?_))))))
  ·repeat' (first | with_reducible exact zS | refine zZ rfl ?_ | refine zT rfl rfl ?_)
  exact ⟨(), (zQ rfl zU), H.pick [0] (by decide)⟩
 rintro _ ρ w102 H
 have hF := hK103
 obtain ⟨g259, hF, hK261⟩ := zI hF
 refine yQ [6, 7, 35, 36, 37, 38, 39, 40, 41, 42, 43, 44, 45, 46, 47, 48] (fun (g : Unit) => [(6, .int .i64 g101), (7, .bool g259)]) (fun g wl => Hd O w wl S []) ?_ ?_
 ·skip
  refine zC ?_
  refine zA rfl rfl (zK (v := .int .i64 g101) rfl) ?_
  refine zA rfl rfl (zK (v := .int .i64 g101) rfl) ?_
  refine zA rfl rfl (zK (v := .int .i64 x5) rfl) ?_
  obtain ⟨x262, e263, hF⟩ := zF hF
  refine zA rfl rfl (zM (xZ (a := g101) (b := x5) rfl rfl) (congrArg Value.bool e263)) ?_
  refine yE (b := x262) rfl rfl rfl (fun c264 => ?_) (fun c264 => ?_)
  ·have hF := zV c264 hF
   refine zA rfl rfl (zK (v := .func (.func 210) #[] #[]) rfl) ?_
   refine zA rfl rfl (zK (v := v1) rfl) ?_
   refine zA rfl rfl (zK (v := .int .i64 g101) rfl) ?_
   obtain ⟨x265, e266, hF⟩ := zI hF
   obtain ⟨b267, o268, c269, cs270, q271, h274, h272, h273, h275⟩ := rd_at (H.item (i := 0) rfl) e266
   obtain rfl := rSample_open h274
   have H := H.fz (.at b267 (o268 + g101.toNat * 3) _) ⟨h272, h273, h275⟩
   refine zA rfl rfl (xY u33 sz40 q271 rfl (yP e266).1 (yP e266).2.1 rfl rfl) ?_
   refine zA rfl rfl (zM (yT (cs := [.int .i64 x265.At, .int .i64 x265.N, .int .i64 x265.Mark]) agg40 rfl sz40 rfl (H.item (i := 1) rfl).2.2) rfl) ?_
   refine zA rfl rfl (zK (v := .int .i64 p1) rfl) ?_
   have H277 := H
   obtain ⟨x278, e279, hF⟩ := zI hF
   refine yA rfl rfl (wH en210 rfl rfl) (F_series_latest_1_w x265 p1 _ e279 _ _ _ (H.enter [] [] (by decide) rfl)) ?_
   rintro _ w280 ⟨rfl, G281⟩
   have H := H277.step (G281.only : Only [] _ _)
   refine ⟨_, rfl, ?_⟩
   obtain ⟨x282, e283, hF⟩ := zF hF
   refine zA rfl rfl (zM (xC (a := x278) (b := 0) rfl rfl) (congrArg Value.bool e283)) ?_
   refine zA rfl rfl (zY (v := .bool x282) rfl rfl) ?_
   refine zA rfl rfl (zG (v := .int .i64 g101) rfl) ?_
   refine zA rfl rfl (zG (v := .bool x282) rfl) ?_
   have hR := Option.some.inj hF
   subst hR
   refine (zJ (zB (And.intro ?_ ?_)))
   ·repeat' (first | with_reducible exact zS | refine zZ rfl ?_ | refine zT rfl rfl ?_)
   exact ⟨(), (zQ rfl (zQ rfl zU)), H.pick [] (by decide)⟩
  have hF := zW c264 hF
  refine zH rfl rfl ?_
  refine zH rfl rfl ?_
  refine zH rfl rfl ?_
  refine zH rfl rfl ?_
  refine zH rfl rfl ?_
  refine zH rfl rfl ?_
  refine zH rfl rfl ?_
  refine zH rfl rfl ?_
  refine zA rfl rfl (zN (v := .bool false) rfl rfl) ?_
  refine zA rfl rfl (zG (v := .int .i64 g101) rfl) ?_
  refine zA rfl rfl (zG (v := .bool false) rfl) ?_
  have hR := Option.some.inj hF
  subst hR
  refine (zJ (zB (And.intro ?_ ?_)))
  ·repeat' (first | with_reducible exact zS | refine zZ rfl ?_ | refine zT rfl rfl ?_)
  exact ⟨(), (zQ rfl (zQ rfl zU)), H.pick [] (by decide)⟩
 rintro _ ρ w260 H
 have hF := hK261
 have hR := Option.some.inj hF
 subst hR
 refine (yG (post2 (v1 := .int .i64 g101) (v2 := .bool g259) rfl rfl rfl ?_))
 exact ⟨rfl, H.pick [] (by decide)⟩
end Go.Proofs.YtnajnkghilemhaaGreatDoor.L
namespace Go.Proofs.YtnajnkghilemhaaGreatDoor.L
open Go.RowKit Go.OB Go.Lf
/- orangebox/series.latest -/
set_option maxHeartbeats 4000000 in
theorem F_series_latest_w (p0 : Series) (p1 : Int) (v1 : Value) (r : Int) (hF : F_series_latest p0 p1 = some r) (O S : List Nat) (w : World) (H : Hd O w w S [.fz (.sl rSample v1 p0.Samples)]) :
  Calls Tryz.prog 192 ([.agg [.int .i64 p0.Den, v1].toArray, .int .i64 p1] : List Value).toArray w fun e w' => e = .returned (.int .i64 r) ∧ Hd O w w' S [] := by
 unfold F_series_latest at hF
 refine yD 18 Tryz.func192 rfl rfl rfl ?_
 refine zD fun K3 hK3 => ?_
 refine zC ?_
 refine yY rfl rfl (Lx_box (cs := [.int .i64 p0.Den, v1]) rfl H) ?_
 rintro _ w6 ⟨b4, rfl, H⟩
 refine zA rfl rfl (zG (v := .int .i64 0) rfl) ?_
 refine (zJ (zB (hK3 _ _ ?_)))
 refine zD fun K7 hK7 => ?_
 refine zC ?_
 refine zA rfl rfl (fa35_1 rfl) ?_
 refine zA rfl rfl (zL one33 rfl (Cells.get (Blk.cells (H.item (i := 1) rfl)) (i := 1) rfl)) ?_
 refine zA rfl rfl (zK (v := .int .i64 p1) rfl) ?_
 have H8 := H
 obtain ⟨⟨x9, x10⟩, e11, hF⟩ := zI hF
 refine yA rfl rfl (zX en209 rfl) (F_slices_BinarySearchFunc___api_Sample_api_Sample_int__series_latest_1_w p0.Samples p1 v1 _ e11 _ _ _ (H.enter [] [0] (by decide) rfl)) ?_
 rintro _ w12 ⟨rfl, G13⟩
 have H := H8.step (G13.only : Only [] _ _)
 refine ⟨_, rfl, ?_⟩
 refine zA rfl rfl (zK (v := .tuple #[.int .i64 x9, .bool x10]) rfl) ?_
 refine zA rfl rfl (xQ (v := .int .i64 x9) rfl rfl) ?_
 refine zA rfl rfl (xQ (v := .bool x10) rfl rfl) ?_
 refine zA rfl rfl (zG (v := .int .i64 x9) rfl) ?_
 refine zA rfl rfl (zG (v := .bool x10) rfl) ?_
 refine (zJ (zB (hK7 _ _ ?_)))
 refine zD fun K17 hK17 => ?_
 refine zD fun K18 hK18 => ?_
 refine zC ?_
 refine zA rfl rfl (zK (v := .bool x10) rfl) ?_
 refine (zJ (zB (hK18 _ _ ?_)))
 refine yH (b := x10) rfl (fun c19 => ?_) (fun c19 => ?_)
 ·have hF := zV c19 hF
  refine zD fun K20 hK20 => ?_
  refine zC ?_
  refine zA rfl rfl (zK (v := .int .i64 x9) rfl) ?_
  refine zA rfl rfl (zG (v := .int .i64 x9) rfl) ?_
  refine (zJ (zB (hK20 _ _ ?_)))
  have hR := Option.some.inj hF
  subst hR
  refine (yG (yC (post1 (v1 := .int .i64 x9) rfl rfl ?_)))
  exact ⟨rfl, H.pick [] (by decide)⟩
 have hF := zW c19 hF
 refine (yI (zB (hK17 _ _ ?_)))
 refine zD fun K21 hK21 => ?_
 refine zC ?_
 refine zA rfl rfl (zK (v := .int .i64 x9) rfl) ?_
 obtain ⟨x22, e23, hF⟩ := zF hF
 refine zA rfl rfl (Do_sub (a := x9) (b := 1) rfl rfl e23) ?_
 refine zA rfl rfl (zG (v := .int .i64 x22) rfl) ?_
 refine (zJ (zB (hK21 _ _ ?_)))
 have hR := Option.some.inj hF
 subst hR
 refine (yG (post1 (v1 := .int .i64 x22) rfl rfl ?_))
 exact ⟨rfl, H.pick [] (by decide)⟩
end Go.Proofs.YtnajnkghilemhaaGreatDoor.L
namespace Go.Proofs.YtnajnkghilemhaaGreatDoor.L
open Go.RowKit Go.OB Go.Lf
/- orangebox/series.solid -/
set_option maxHeartbeats 4000000 in
theorem F_series_solid_w (p0 : Sample) (r : Bool) (hF : F_series_solid p0 = some r) (O S : List Nat) (w : World) (H : Hd O w w S []) :
  Calls Tryz.prog 193 ([.agg [.int .i64 p0.At, .int .i64 p0.N, .int .i64 p0.Mark].toArray] : List Value).toArray w fun e w' => e = .returned (.bool r) ∧ Hd O w w' S [] := by
 unfold F_series_solid at hF
 refine yD 6 Tryz.func193 rfl rfl rfl ?_
 refine zD fun K1 hK1 => ?_
 refine zC ?_
 refine yY rfl rfl (Lx_box (cs := [.int .i64 p0.At, .int .i64 p0.N, .int .i64 p0.Mark]) rfl H) ?_
 rintro _ w4 ⟨b2, rfl, H⟩
 refine zA rfl rfl (zG (v := .bool false) rfl) ?_
 refine (zJ (zB (hK1 _ _ ?_)))
 refine zD fun K5 hK5 => ?_
 refine zC ?_
 refine zA rfl rfl (fa40_2 rfl) ?_
 refine zA rfl rfl (zL one3 rfl (Cells.get (Blk.cells (H.item (i := 0) rfl)) (i := 2) rfl)) ?_
 obtain ⟨x6, e7, hF⟩ := zF hF
 refine zA rfl rfl (zM (Do_geq (a := p0.Mark) (b := 3) rfl rfl) (congrArg Value.bool e7)) ?_
 refine zA rfl rfl (zG (v := .bool x6) rfl) ?_
 refine (zJ (zB (hK5 _ _ ?_)))
 have hR := Option.some.inj hF
 subst hR
 refine (yG (post1 (v1 := .bool x6) rfl rfl ?_))
 exact ⟨rfl, H.pick [] (by decide)⟩
end Go.Proofs.YtnajnkghilemhaaGreatDoor.L
namespace Go.Proofs.YtnajnkghilemhaaGreatDoor.L
open Go.RowKit Go.OB Go.Lf
/- orangebox/series.hold -/
set_option maxHeartbeats 4000000 in
theorem F_series_hold_w (p0 : Series) (p1 : Int) (p2 : Int) (v1 : Value) (r : Sample × Bool) (hF : F_series_hold p0 p1 p2 = some r) (O S : List Nat) (w : World) (H : Hd O w w S [.fz (.sl rSample v1 p0.Samples)]) :
  Calls Tryz.prog 164 ([.agg [.int .i64 p0.Den, v1].toArray, .int .i64 p1, .int .i64 p2] : List Value).toArray w fun e w' => e = .returned (.tuple #[.agg [.int .i64 r.1.At, .int .i64 r.1.N, .int .i64 r.1.Mark].toArray, .bool r.2]) ∧ Hd O w w' S [] := by
 unfold F_series_hold at hF
 refine yD 41 Tryz.func164 rfl rfl rfl ?_
 refine zD fun K3 hK3 => ?_
 refine zC ?_
 refine yY rfl rfl (Lx_box (cs := [.int .i64 p0.Den, v1]) rfl H) ?_
 rintro _ w6 ⟨b4, rfl, H⟩
 refine yY rfl rfl (xJ zero40 H) ?_
 rintro _ w9 ⟨b7, rfl, H⟩
 refine zA rfl rfl (zG (v := .bool false) rfl) ?_
 refine (zJ (zB (hK3 _ _ ?_)))
 refine zD fun K10 hK10 => ?_
 refine zC ?_
 refine zA rfl rfl (zM (yT (cs := [.int .i64 p0.Den, v1]) agg35 rfl sz35 rfl (Blk.cells (H.item (i := 1) rfl))) rfl) ?_
 refine zA rfl rfl (zK (v := .int .i64 p1) rfl) ?_
 have H11 := H
 obtain ⟨x12, e13, hF⟩ := zI hF
 refine yA rfl rfl (zX en192 rfl) (F_series_latest_w p0 p1 v1 _ e13 _ _ _ (H.enter [] [0] (by decide) rfl)) ?_
 rintro _ w14 ⟨rfl, G15⟩
 have H := H11.step (G15.only : Only [] _ _)
 refine ⟨_, rfl, ?_⟩
 refine zA rfl rfl (zG (v := .int .i64 x12) rfl) ?_
 refine (zJ (zB (hK10 _ _ ?_)))
 refine zD fun K61 hK61 => ?_
 obtain ⟨g101, hF, hK103⟩ := zI hF
 refine yQ [12, 13, 14, 15, 16, 17, 18, 19, 20, 21, 22, 23, 24, 25, 26, 27, 28, 29, 30, 31, 32, 33, 34] (fun (g : Unit) => [(34, .bool g101)]) (fun g wl => Hd O w wl S [.fz (.sl rSample v1 p0.Samples), .blk b4 [.int .i64 p0.Den, v1] 35, .blk b7 [.int .i64 0, .int .i64 0, .int .i64 0] 40]) ?_ ?_
 ·skip
  refine zC ?_
  refine zA rfl rfl (zK (v := .int .i64 x12) rfl) ?_
  obtain ⟨x104, e105, hF⟩ := zF hF
  refine zA rfl rfl (zM (xZ (a := x12) (b := 0) rfl rfl) (congrArg Value.bool e105)) ?_
  refine yE (b := x104) rfl rfl rfl (fun c106 => ?_) (fun c106 => ?_)
  ·have hF := zV c106 hF
   refine zH rfl rfl ?_
   refine zH rfl rfl ?_
   refine zH rfl rfl ?_
   refine zH rfl rfl ?_
   refine zH rfl rfl ?_
   refine zH rfl rfl ?_
   refine zH rfl rfl ?_
   refine zA rfl rfl (zY (v := .bool true) rfl rfl) ?_
   refine zA rfl rfl (zK (v := .bool true) rfl) ?_
   refine zH rfl rfl ?_
   refine zH rfl rfl ?_
   refine zH rfl rfl ?_
   refine zH rfl rfl ?_
   refine zH rfl rfl ?_
   refine zH rfl rfl ?_
   refine zH rfl rfl ?_
   refine zH rfl rfl ?_
   refine zH rfl rfl ?_
   refine zH rfl rfl ?_
   refine zA rfl rfl (zY (v := .bool true) rfl rfl) ?_
   have hR := Option.some.inj hF
   subst hR
   refine (zJ (zB (And.intro ?_ ?_)))
   ·repeat' (first | with_reducible exact zS | refine zZ rfl ?_ | refine zT rfl rfl ?_)
   exact ⟨(), (zQ rfl zU), H.pick [0, 1, 2] (by decide)⟩
  have hF := zW c106 hF
  refine zA rfl rfl (fa35_1 rfl) ?_
  refine zA rfl rfl (zL one33 rfl (Cells.get (Blk.cells (H.item (i := 1) rfl)) (i := 1) rfl)) ?_
  refine zA rfl rfl (zK (v := .int .i64 x12) rfl) ?_
  obtain ⟨x107, e108, hF⟩ := zI hF
  obtain ⟨b109, o110, c111, cs112, q113, h116, h114, h115, h117⟩ := rd_at (H.item (i := 0) rfl) e108
  obtain rfl := rSample_open h116
  have H := H.fz (.at b109 (o110 + x12.toNat * 3) _) ⟨h114, h115, h117⟩
  refine zA rfl rfl (xY u33 sz40 q113 rfl (yP e108).1 (yP e108).2.1 rfl rfl) ?_
  refine zA rfl rfl (zM (yT (cs := [.int .i64 x107.At, .int .i64 x107.N, .int .i64 x107.Mark]) agg40 rfl sz40 rfl (H.item (i := 3) rfl).2.2) rfl) ?_
  have H119 := H
  obtain ⟨x120, e121, hF⟩ := zI hF
  refine yA rfl rfl (zX en193 rfl) (F_series_solid_w x107 _ e121 _ _ _ (H.enter [] [] (by decide) rfl)) ?_
  rintro _ w122 ⟨rfl, G123⟩
  have H := H119.step (G123.only : Only [] _ _)
  refine ⟨_, rfl, ?_⟩
  obtain ⟨x124, e125, hF⟩ := zF hF
  refine zA rfl rfl (zM (yS (p := x120) rfl) (congrArg Value.bool e125)) ?_
  refine zA rfl rfl (zN (v := .bool x124) rfl rfl) ?_
  refine yE (b := x124) rfl rfl rfl (fun c126 => ?_) (fun c126 => ?_)
  ·have hF := zV c126 hF
   refine zH rfl rfl ?_
   refine zH rfl rfl ?_
   refine zH rfl rfl ?_
   refine zH rfl rfl ?_
   refine zH rfl rfl ?_
   refine zH rfl rfl ?_
   refine zH rfl rfl ?_
   refine zH rfl rfl ?_
   refine zH rfl rfl ?_
   refine zH rfl rfl ?_
   refine zA rfl rfl (zY (v := .bool true) rfl rfl) ?_
   have hR := Option.some.inj hF
   subst hR
   refine (zJ (zB (And.intro ?_ ?_)))
   ·repeat' (first | with_reducible exact zS | refine zZ rfl ?_ | refine zT rfl rfl ?_)
   exact ⟨(), (zQ rfl zU), H.pick [0, 1, 2] (by decide)⟩
  have hF := zW c126 hF
  refine zA rfl rfl (zK (v := .int .i64 p1) rfl) ?_
  refine zA rfl rfl (fa35_1 rfl) ?_
  refine zA rfl rfl (zL one33 rfl (Cells.get (Blk.cells (H.item (i := 1) rfl)) (i := 1) rfl)) ?_
  refine zA rfl rfl (zK (v := .int .i64 x12) rfl) ?_
  obtain ⟨x127, e128, hF⟩ := zI hF
  obtain ⟨b129, o130, c131, cs132, q133, h136, h134, h135, h137⟩ := rd_at (H.item (i := 0) rfl) e128
  obtain rfl := rSample_open h136
  have H := H.fz (.at b129 (o130 + x12.toNat * 3) _) ⟨h134, h135, h137⟩
  refine zA rfl rfl (xY u33 sz40 q133 rfl (yP e128).1 (yP e128).2.1 rfl rfl) ?_
  refine zA rfl rfl (fa40_0 rfl) ?_
  refine zA rfl rfl (zL one3 rfl (Cells.get (H.item (i := 4) rfl).2.2 (i := 0) rfl)) ?_
  obtain ⟨x139, e140, hF⟩ := zF hF
  refine zA rfl rfl (Do_sub (a := p1) (b := x127.At) rfl rfl e140) ?_
  refine zA rfl rfl (zK (v := .int .i64 p2) rfl) ?_
  obtain ⟨x141, e142, hF⟩ := zF hF
  refine zA rfl rfl (zM (Do_gtr (a := x139) (b := p2) rfl rfl) (congrArg Value.bool e142)) ?_
  refine zA rfl rfl (zN (v := .bool x141) rfl rfl) ?_
  have hR := Option.some.inj hF
  subst hR
  refine (zJ (zB (And.intro ?_ ?_)))
  ·repeat' (first | with_reducible exact zS | refine zZ rfl ?_ | refine zT rfl rfl ?_)
  exact ⟨(), (zQ rfl zU), H.pick [0, 1, 2] (by decide)⟩
 rintro _ ρ w102 H
 have hF := hK103
 refine yH (b := g101) rfl (fun c143 => ?_) (fun c143 => ?_)
 ·have hF := zV c143 hF
  refine zD fun K144 hK144 => ?_
  refine zC ?_
  refine zA rfl rfl (xM (cs := [.int .i64 0, .int .i64 0, .int .i64 0]) bz40) ?_
  refine yV rfl (yN (vs := [.int .i64 0, .int .i64 0, .int .i64 0]) H 2 rfl sz40 rfl rfl rfl ⟨rfl, rfl, rfl, trivial⟩ rfl) ?_
  rintro w145 H
  refine zA rfl rfl (zG (v := .bool false) rfl) ?_
  refine (zJ (zB (hK144 _ _ ?_)))
  have hR := Option.some.inj hF
  subst hR
  refine (yG (yC (postc1 (v1 := .bool false) rfl rfl (yL agg40 sz40 rfl (Blk.cells (H.item (i := 2) rfl))) rfl ?_)))
  exact ⟨rfl, H.pick [] (by decide)⟩
 have hF := zW c143 hF
 refine (yI (zB (hK61 _ _ ?_)))
 refine zD fun K146 hK146 => ?_
 refine zC ?_
 refine zA rfl rfl (fa35_1 rfl) ?_
 refine zA rfl rfl (zL one33 rfl (Cells.get (Blk.cells (H.item (i := 1) rfl)) (i := 1) rfl)) ?_
 refine zA rfl rfl (zK (v := .int .i64 x12) rfl) ?_
 obtain ⟨x147, e148, hF⟩ := zI hF
 obtain ⟨b149, o150, c151, cs152, q153, h156, h154, h155, h157⟩ := rd_at (H.item (i := 0) rfl) e148
 obtain rfl := rSample_open h156
 have H := H.fz (.at b149 (o150 + x12.toNat * 3) _) ⟨h154, h155, h157⟩
 refine zA rfl rfl (xY u33 sz40 q153 rfl (yP e148).1 (yP e148).2.1 rfl rfl) ?_
 refine zA rfl rfl (zM (yT (cs := [.int .i64 x147.At, .int .i64 x147.N, .int .i64 x147.Mark]) agg40 rfl sz40 rfl (H.item (i := 3) rfl).2.2) rfl) ?_
 refine yV rfl (yN (vs := [.int .i64 x147.At, .int .i64 x147.N, .int .i64 x147.Mark]) H 2 rfl sz40 rfl rfl rfl ⟨rfl, rfl, rfl, trivial⟩ rfl) ?_
 rintro w159 H
 refine zA rfl rfl (zG (v := .bool true) rfl) ?_
 refine (zJ (zB (hK146 _ _ ?_)))
 have hR := Option.some.inj hF
 subst hR
 refine (yG (postc1 (v1 := .bool true) rfl rfl (yL agg40 sz40 rfl (Blk.cells (H.item (i := 2) rfl))) rfl ?_))
 exact ⟨rfl, H.pick [] (by decide)⟩
end Go.Proofs.YtnajnkghilemhaaGreatDoor.L
namespace Go.Proofs.YtnajnkghilemhaaGreatDoor.L
open Go.RowKit Go.OB Go.Lf
/- orangebox/series.Held -/
set_option maxHeartbeats 4000000 in
theorem F_series_Held_w (p0 : Series) (p1 : Int) (p2 : Int) (v1 : Value) (r : Sample × Bool) (hF : F_series_Held p0 p1 p2 = some r) (O S : List Nat) (w : World) (H : Hd O w w S [.fz (.sl rSample v1 p0.Samples)]) :
  Calls Tryz.prog 126 ([.agg [.int .i64 p0.Den, v1].toArray, .int .i64 p1, .int .i64 p2] : List Value).toArray w fun e w' => e = .returned (.tuple #[.agg [.int .i64 r.1.At, .int .i64 r.1.N, .int .i64 r.1.Mark].toArray, .bool r.2]) ∧ Hd O w w' S [] := by
 unfold F_series_Held at hF
 refine yD 14 Tryz.func126 rfl rfl rfl ?_
 refine zD fun K3 hK3 => ?_
 refine zC ?_
 refine yY rfl rfl (Lx_box (cs := [.int .i64 p0.Den, v1]) rfl H) ?_
 rintro _ w6 ⟨b4, rfl, H⟩
 refine yY rfl rfl (xJ zero40 H) ?_
 rintro _ w9 ⟨b7, rfl, H⟩
 refine zA rfl rfl (zG (v := .bool false) rfl) ?_
 refine (zJ (zB (hK3 _ _ ?_)))
 refine zD fun K10 hK10 => ?_
 refine zC ?_
 refine zA rfl rfl (zM (yT (cs := [.int .i64 p0.Den, v1]) agg35 rfl sz35 rfl (Blk.cells (H.item (i := 1) rfl))) rfl) ?_
 refine zA rfl rfl (zK (v := .int .i64 p1) rfl) ?_
 refine zA rfl rfl (zK (v := .int .i64 p2) rfl) ?_
 have H11 := H
 obtain ⟨⟨x12, x13⟩, e14, hF⟩ := zI hF
 refine yA rfl rfl (zX en164 rfl) (F_series_hold_w p0 p1 p2 v1 _ e14 _ _ _ (H.enter [] [0] (by decide) rfl)) ?_
 rintro _ w15 ⟨rfl, G16⟩
 have H := H11.step (G16.only : Only [] _ _)
 refine ⟨_, rfl, ?_⟩
 refine zA rfl rfl (xQ (v := .agg [.int .i64 x12.At, .int .i64 x12.N, .int .i64 x12.Mark].toArray) rfl rfl) ?_
 refine zA rfl rfl (xQ (v := .bool x13) rfl rfl) ?_
 refine yV rfl (yN (vs := [.int .i64 x12.At, .int .i64 x12.N, .int .i64 x12.Mark]) H 2 rfl sz40 rfl rfl rfl ⟨rfl, rfl, rfl, trivial⟩ rfl) ?_
 rintro w17 H
 refine zA rfl rfl (zG (v := .bool x13) rfl) ?_
 refine (zJ (zB (hK10 _ _ ?_)))
 have hR := Option.some.inj hF
 subst hR
 refine (yG (postc1 (v1 := .bool x13) rfl rfl (yL agg40 sz40 rfl (Blk.cells (H.item (i := 2) rfl))) rfl ?_))
 exact ⟨rfl, H.pick [] (by decide)⟩
end Go.Proofs.YtnajnkghilemhaaGreatDoor.L
namespace Go.Proofs.YtnajnkghilemhaaGreatDoor.L
open Go.RowKit Go.OB Go.Lf
/- orangebox/event.inputs -/
set_option maxHeartbeats 4000000 in
theorem F_event_inputs_w (p0 : List Track) (p1 : Int) (v1 : Value) (r : (List ToldT)) (hF : F_event_inputs p0 p1 = some r) (O S : List Nat) (w : World) (H : Hd O w w S [.fz (.sl rTrack v1 p0)]) :
  Calls Tryz.prog 75 ([v1, .int .i64 p1] : List Value).toArray w fun e w' => ∃ u3, e = .returned (u3) ∧ Hd O w w' S [.own rToldT u3 173 r] := by
 unfold F_event_inputs at hF
 refine yD 37 Tryz.func75 rfl rfl rfl ?_
 refine zD fun K4 hK4 => ?_
 refine zC ?_
 refine zA rfl rfl (zG (v := .slice none 0 0) rfl) ?_
 refine (zJ (zB (hK4 _ _ ?_)))
 refine zD fun K5 hK5 => ?_
 refine zC ?_
 refine zA rfl rfl (zG (v := .slice none 0 0) rfl) ?_
 refine (zJ (zB (hK5 _ _ ?_)))
 obtain ⟨g228, hF, hK231⟩ := zI hF
 refine yQ [5, 7, 8, 9, 10, 11, 12, 13, 14, 15, 16, 17, 18, 19, 20, 21, 22, 23, 24, 25, 26, 27, 28, 29, 30, 31, 32, 33, 34, 35] (fun (g : Value) => [(5, g)]) (fun g wl => Hd O w wl S [.own rToldT g 173 g228]) ?_ ?_
 ·skip
  refine zD fun K232 hK232 => ?_
  refine zC ?_
  refine zA rfl rfl (zK (v := v1) rfl) ?_
  obtain ⟨x233, e234, hF⟩ := zF hF
  obtain ⟨a235, c236, q237⟩ := SlF.len ((H.item (i := 0) rfl))
  refine zA rfl rfl (zM (xA u27 q237) (congrArg (Value.int .i64) e234)) ?_
  refine zA rfl rfl (zK (v := .int .i64 0) rfl) ?_
  refine (zJ (zB (hK232 _ _ ?_)))
  refine yM ?_
  have H := own_nil H rToldT 173
  unfold F_event_inputs_L1 at hF
  obtain ⟨B451, n452, eB453, hF⟩ := yZ hF
  refine xN [5, 7, 8, 9, 12, 13, 14, 15, 16, 17, 18, 19, 20, 21, 22, 23, 24, 25, 26, 27, 28, 29, 30, 31, 32, 33, 34, 35] (fun (g : Nat × (List ToldT) × Int × Value) => [(5, g.2.2.2), (12, .int .i64 g.2.2.1)]) (fun g wl => Hd O w wl S [.own rToldT g.2.2.2 173 g.2.1, .fz (.sl rTrack v1 p0)] ∧ loopN B451 g.1 (g.2.1, g.2.2.1) = some g228) (fun g => g.1) (n452, [], 0, .slice none 0 0) (zQ rfl (zQ rfl zU)) ⟨H.pick [1, 0] (by decide), hF⟩ ?_
  clear H hF
  rintro ⟨n452, g447, g449, v448⟩ ρ w455 ⟨H, hF⟩
  obtain ⟨n456, rfl, hF⟩ := xH hF
  have hF := xG eB453 hF
  refine zD fun K457 hK457 => ?_
  refine zC ?_
  obtain ⟨x458, e459, hF⟩ := zF hF
  refine zA rfl rfl (zM (xZ (a := g449) (b := x233) rfl rfl) (congrArg Value.bool e459)) ?_
  refine (zJ (zB (hK457 _ _ ?_)))
  refine zD fun K461 hK461 => ?_
  refine yH (b := x458) rfl (fun c462 => ?_) (fun c462 => ?_)
  ·have hF := zV c462 hF
   refine (yI (zB (hK461 _ _ ?_)))
   refine zD fun K509 hK509 => ?_
   refine yM ?_
   refine zD fun K510 hK510 => ?_
   refine zC ?_
   obtain ⟨x511, e512, hF⟩ := zI hF
   obtain ⟨b513, o514, c515, cs516, q517, h520, h518, h519, h521⟩ := rd_at (H.item (i := 1) rfl) e512
   obtain ⟨v522, rfl, h523⟩ := rTrack_open h520
   have H := H.fzs [.at b513 (o514 + g449.toNat * 4) _, .sl rSample v522 x511.Series.Samples] ⟨⟨h518, h519, h521⟩, h523, trivial⟩
   refine zA rfl rfl (xY u27 sz37 q517 rfl (yP e512).1 (yP e512).2.1 rfl rfl) ?_
   refine zA rfl rfl (zM (yT (cs := [.string (bs x511.Name), .int .i64 x511.Series.Den, v522, .int .i64 x511.Long]) agg37 rfl sz37 rfl (H.item (i := 2) rfl).2.2) rfl) ?_
   refine yY rfl rfl (xJ zero37 H) ?_
   rintro _ w528 ⟨b526, rfl, H⟩
   refine yV rfl (yN (vs := [.string (bs x511.Name), .int .i64 x511.Series.Den, v522, .int .i64 x511.Long]) H 4 rfl sz37 rfl rfl rfl ⟨rfl, rfl, (slf_one (H.item (i := 3) rfl)), rfl, trivial⟩ rfl) ?_
   rintro w529 H
   refine (zJ (zB (hK510 _ _ ?_)))
   refine zD fun K530 hK530 => ?_
   refine zC ?_
   refine zA rfl rfl (fa37_1 rfl) ?_
   refine zA rfl rfl (zM (yT (cs := [.int .i64 x511.Series.Den, v522]) agg35 rfl sz35 rfl (Cells.drop (Blk.cells (H.item (i := 4) rfl)) 1 2)) rfl) ?_
   refine zA rfl rfl (zK (v := .int .i64 p1) rfl) ?_
   obtain ⟨x531, e532, hF⟩ := zF hF
   refine zA rfl rfl (Do_mul (a := 64) (b := p1) rfl rfl e532) ?_
   obtain ⟨x533, e534, hF⟩ := zF hF
   refine zA rfl rfl (wE (a := x531) (b := 64) rfl rfl e534) ?_
   obtain ⟨x535, e536, hF⟩ := zF hF
   refine zA rfl rfl (Do_sub (a := x533) (b := 1) rfl rfl e536) ?_
   refine zA rfl rfl (fa37_2 rfl) ?_
   refine zA rfl rfl (zL one3 rfl (Cells.get (Blk.cells (H.item (i := 4) rfl)) (i := 3) rfl)) ?_
   have H537 := H
   obtain ⟨⟨x538, x539⟩, e540, hF⟩ := zI hF
   refine yA rfl rfl (zX en126 rfl) (F_series_Held_w x511.Series x535 x511.Long v522 _ e540 _ _ _ (H.enter [] [3] (by decide) rfl)) ?_
   rintro _ w541 ⟨rfl, G542⟩
   have H := H537.step (G542.only : Only [] _ _)
   refine ⟨_, rfl, ?_⟩
   refine zA rfl rfl (zK (v := .tuple #[.agg [.int .i64 x538.At, .int .i64 x538.N, .int .i64 x538.Mark].toArray, .bool x539]) rfl) ?_
   refine zA rfl rfl (xQ (v := .agg [.int .i64 x538.At, .int .i64 x538.N, .int .i64 x538.Mark].toArray) rfl rfl) ?_
   refine zA rfl rfl (xQ (v := .bool x539) rfl rfl) ?_
   refine yY rfl rfl (xJ zero40 H) ?_
   rintro _ w545 ⟨b543, rfl, H⟩
   refine yV rfl (yN (vs := [.int .i64 x538.At, .int .i64 x538.N, .int .i64 x538.Mark]) H 5 rfl sz40 rfl rfl rfl ⟨rfl, rfl, rfl, trivial⟩ rfl) ?_
   rintro w546 H
   refine zA rfl rfl (zG (v := .bool x539) rfl) ?_
   refine (zJ (zB (hK530 _ _ ?_)))
   refine zC ?_
   refine zA rfl rfl (zK (v := v448) rfl) ?_
   refine zA rfl rfl (fa40_1 rfl) ?_
   refine zA rfl rfl (zL one3 rfl (Cells.get (Blk.cells (H.item (i := 5) rfl)) (i := 1) rfl)) ?_
   refine zA rfl rfl (zK (v := .bool x539) rfl) ?_
   refine zA rfl rfl (xM (cs := [.int .i64 x538.N, .bool x539]) (bt173_0_1 _ _)) ?_
   obtain ⟨x547, e548, hF⟩ := zF hF
   subst e548
   refine yY rfl rfl (Lx_bs (r := rToldT) (xl := [ToldT.mk x538.N x539]) (cs := [.int .i64 x538.N, .bool x539]) u65 el173 (by decide) (by decide) rfl (wF (vs := [.agg [.int .i64 x538.N, .bool x539].toArray]) (by decide) rfl rfl ⟨rfl, trivial⟩ rfl) H ⟨[.int .i64 x538.N, .bool x539], [], rfl, (rToldT_mk (x := ToldT.mk x538.N x539)), rfl⟩) ?_
   rintro v550 w551 H
   obtain ⟨x552, e553, hF⟩ := zI hF
   refine yY rfl rfl (Lx_app H (i := 0) rfl u65 el173 rfl rfl (Sr.of_own (H.item (i := 6) rfl)) e553) ?_
   rintro v554 w555 H
   refine zA rfl rfl (zG (v := v554) rfl) ?_
   refine (zJ (yX (zB (hK509 _ _ ?_))))
   refine zC ?_
   obtain ⟨x556, e557, hF⟩ := zF hF
   refine zA rfl rfl (wE (a := g449) (b := 1) rfl rfl e557) ?_
   refine zA rfl rfl (zK (v := .int .i64 x556) rfl) ?_
   refine (zJ (zB (And.intro ?_ ?_)))
   ·repeat' (first | with_reducible exact zS | refine zZ rfl ?_ | refine zT rfl rfl ?_)
   exact ⟨(n456, x552, x556, v554), (zQ rfl (zQ rfl zU)), ⟨H.pick [0, 1] (by decide), hF⟩, Nat.lt_succ_self _⟩
  have hF := zW c462 hF
  have hR := Option.some.inj hF
  subst hR
  refine (xW (yU (yU (xE (zB (And.intro ?_ ?_))))))
  ·repeat' (first | with_reducible exact zS | refine zZ rfl ?_ | refine zT rfl rfl ?_)
  exact ⟨v448, (zQ rfl zU), H.pick [0] (by decide)⟩
 rintro v229 ρ w230 H
 have hF := hK231
 refine zD fun K558 hK558 => ?_
 refine zC ?_
 refine zA rfl rfl (zK (v := v229) rfl) ?_
 refine zA rfl rfl (zG (v := v229) rfl) ?_
 refine (zJ (zB (hK558 _ _ ?_)))
 have hR := Option.some.inj hF
 subst hR
 refine (yG (post1 (v1 := v229) rfl rfl ?_))
 exact ⟨v229, rfl, H.pick [0] (by decide)⟩
end Go.Proofs.YtnajnkghilemhaaGreatDoor.L
namespace Go.Proofs.YtnajnkghilemhaaGreatDoor.L
open Go.RowKit Go.OB Go.Lf
/- orangebox/event.Inputs -/
set_option maxHeartbeats 4000000 in
theorem F_event_Inputs_w (p0 : List Track) (p1 : Int) (v1 : Value) (r : (List ToldT) × Int) (hF : F_event_Inputs p0 p1 = some r) (O S : List Nat) (w : World) (H : Hd O w w S [.fz (.sl rTrack v1 p0)]) :
  Calls Tryz.prog 28 ([v1, .int .i64 p1] : List Value).toArray w fun e w' => ∃ u3, e = .returned (.tuple #[u3, .int .i64 r.2]) ∧ Hd O w w' S [.own rToldT u3 173 r.1] := by
 unfold F_event_Inputs at hF
 refine yD 18 Tryz.func28 rfl rfl rfl ?_
 refine zD fun K4 hK4 => ?_
 refine zC ?_
 refine zA rfl rfl (zG (v := .slice none 0 0) rfl) ?_
 refine zA rfl rfl (zG (v := .int .i64 0) rfl) ?_
 refine (zJ (zB (hK4 _ _ ?_)))
 refine zD fun K16 hK16 => ?_
 refine zD fun K17 hK17 => ?_
 refine zC ?_
 refine zA rfl rfl (zK (v := v1) rfl) ?_
 have H18 := H
 obtain ⟨x19, e20, hF⟩ := zI hF
 refine yA rfl rfl (zX en25 rfl) (F_event_CheckTracks_w p0 v1 _ e20 _ _ _ (H.enter [] [0] (by decide) rfl)) ?_
 rintro _ w21 ⟨rfl, G22⟩
 have H := H18.step (G22.only : Only [] _ _)
 refine ⟨_, rfl, ?_⟩
 refine zA rfl rfl (zG (v := .int .i64 x19) rfl) ?_
 refine (zJ (zB (hK17 _ _ ?_)))
 refine zD fun K23 hK23 => ?_
 refine zC ?_
 refine zA rfl rfl (zK (v := .int .i64 x19) rfl) ?_
 obtain ⟨x24, e25, hF⟩ := zF hF
 refine zA rfl rfl (zM (xO (a := x19) (b := 0) rfl rfl) (congrArg Value.bool e25)) ?_
 refine (zJ (zB (hK23 _ _ ?_)))
 refine yH (b := x24) rfl (fun c26 => ?_) (fun c26 => ?_)
 ·have hF := zV c26 hF
  refine zD fun K27 hK27 => ?_
  refine zC ?_
  refine zA rfl rfl (zK (v := .int .i64 x19) rfl) ?_
  refine zA rfl rfl (zG (v := .slice none 0 0) rfl) ?_
  refine zA rfl rfl (zG (v := .int .i64 x19) rfl) ?_
  refine (zJ (zB (hK27 _ _ ?_)))
  have H := own_nil H rToldT 173
  have hR := Option.some.inj hF
  subst hR
  refine (yG (yC (post2 (v1 := .slice none 0 0) (v2 := .int .i64 x19) rfl rfl rfl ?_)))
  exact ⟨.slice none 0 0, rfl, H.pick [1] (by decide)⟩
 have hF := zW c26 hF
 refine (yI (zB (hK16 _ _ ?_)))
 refine zD fun K39 hK39 => ?_
 refine zD fun K40 hK40 => ?_
 refine zC ?_
 refine zA rfl rfl (zK (v := .int .i64 p1) rfl) ?_
 have H41 := H
 obtain ⟨x42, e43, hF⟩ := zI hF
 refine yA rfl rfl (zX en60 rfl) (F_event_within_w p1 0 4194303 _ e43 _ _ _ (H.enter [] [] (by decide) rfl)) ?_
 rintro _ w44 ⟨rfl, G45⟩
 have H := H41.step (G45.only : Only [] _ _)
 refine ⟨_, rfl, ?_⟩
 obtain ⟨x46, e47, hF⟩ := zF hF
 refine zA rfl rfl (zM (yS (p := x42) rfl) (congrArg Value.bool e47)) ?_
 refine (zJ (zB (hK40 _ _ ?_)))
 refine yH (b := x46) rfl (fun c48 => ?_) (fun c48 => ?_)
 ·have hF := zV c48 hF
  refine zD fun K49 hK49 => ?_
  refine zC ?_
  refine zA rfl rfl (zG (v := .slice none 0 0) rfl) ?_
  refine zA rfl rfl (zG (v := .int .i64 9) rfl) ?_
  refine (zJ (zB (hK49 _ _ ?_)))
  have H := own_nil H rToldT 173
  have hR := Option.some.inj hF
  subst hR
  refine (yG (yC (post2 (v1 := .slice none 0 0) (v2 := .int .i64 9) rfl rfl rfl ?_)))
  exact ⟨.slice none 0 0, rfl, H.pick [1] (by decide)⟩
 have hF := zW c48 hF
 refine (yI (zB (hK39 _ _ ?_)))
 refine zD fun K51 hK51 => ?_
 refine zC ?_
 refine zA rfl rfl (zK (v := v1) rfl) ?_
 refine zA rfl rfl (zK (v := .int .i64 p1) rfl) ?_
 obtain ⟨x52, e53, hF⟩ := zI hF
 refine yA rfl rfl (zX en75 rfl) (F_event_inputs_w p0 p1 v1 _ e53 _ _ _ (H.enter [] [0] (by decide) rfl)) ?_
 rintro _ w56 ⟨v54, rfl, G57⟩
 have H := H.back1 [0] rfl G57
 refine ⟨_, rfl, ?_⟩
 refine zA rfl rfl (zG (v := v54) rfl) ?_
 refine zA rfl rfl (zG (v := .int .i64 0) rfl) ?_
 refine (zJ (zB (hK51 _ _ ?_)))
 have hR := Option.some.inj hF
 subst hR
 refine (yG (post2 (v1 := v54) (v2 := .int .i64 0) rfl rfl rfl ?_))
 exact ⟨v54, rfl, H.pick [1] (by decide)⟩
end Go.Proofs.YtnajnkghilemhaaGreatDoor.L
namespace Go.Proofs.YtnajnkghilemhaaGreatDoor.L
open Go.RowKit Go.OB Go.Lf
/- internal/strconv.AppendInt -/
set_option maxHeartbeats 4000000 in
theorem F_internal_strconv_AppendInt_w (p0 : List Int) (p1 : Int) (p2 : Int) (v1 : Value) (r : (List Int)) (hF : F_internal_strconv_AppendInt p0 p1 p2 = some r) (O S : List Nat) (w : World) (H : Hd O w w S [.own (Rp.int .u8) v1 5 p0, .fz (.at 3 0 ((Fl.arr 20 (Fl.int .u64)).f yF))]) :
  Calls Tryz.prog 136 ([v1, .int .i64 p1, .int .i64 p2] : List Value).toArray w fun e w' => ∃ u4, e = .returned (u4) ∧ Hd O w w' S [.own (Rp.int .u8) u4 5 r] := by
 unfold F_internal_strconv_AppendInt at hF
 refine yD 21 Tryz.func136 rfl rfl rfl ?_
 refine zD fun K5 hK5 => ?_
 refine zC ?_
 refine zA rfl rfl (zG (v := .slice none 0 0) rfl) ?_
 refine (zJ (zB (hK5 _ _ ?_)))
 refine zD fun K6 hK6 => ?_
 refine zC ?_
 refine zA rfl rfl (zK (v := .int .i64 p1) rfl) ?_
 obtain ⟨x7, e8, hF⟩ := zF hF
 refine zA rfl rfl (Do_conv u2 u251 rfl e8) ?_
 refine zA rfl rfl (zG (v := .int .u64 x7) rfl) ?_
 refine (zJ (zB (hK6 _ _ ?_)))
 obtain ⟨j30, hF, hK29⟩ := zI hF
 refine yQ [0, 7, 10, 11, 12, 13, 14, 15, 16] (fun (g : Value) => [(0, g), (7, .int .u64 j30.2)]) (fun g wl => Hd O w wl S [.own (Rp.int .u8) g 5 j30.1, .fz (.at 3 0 ((Fl.arr 20 (Fl.int .u64)).f yF))]) ?_ ?_
 ·skip
  refine zD fun K31 hK31 => ?_
  refine zC ?_
  refine zA rfl rfl (zK (v := .int .i64 p1) rfl) ?_
  obtain ⟨x32, e33, hF⟩ := zF hF
  refine zA rfl rfl (zM (xZ (a := p1) (b := 0) rfl rfl) (congrArg Value.bool e33)) ?_
  refine (zJ (zB (hK31 _ _ ?_)))
  refine yH (b := x32) rfl (fun c34 => ?_) (fun c34 => ?_)
  ·have hF := zV c34 hF
   refine zD fun K35 hK35 => ?_
   refine zC ?_
   refine zA rfl rfl (zK (v := v1) rfl) ?_
   obtain ⟨x36, e37, hF⟩ := zF hF
   subst e37
   refine yY rfl rfl (Lx_bs (r := (Rp.int .u8)) (xl := [45]) (cs := [.int .u8 45]) u77 el5 (by decide) (by decide) rfl (wF (vs := [.int .u8 45]) (by decide) rfl rfl ⟨rfl, trivial⟩ rfl) H ⟨[.int .u8 45], [], rfl, rfl, rfl⟩) ?_
   rintro v39 w40 H
   obtain ⟨x41, e42, hF⟩ := zI hF
   refine yY rfl rfl (Lx_app H (i := 0) rfl u77 el5 rfl rfl (Sr.of_own (H.item (i := 2) rfl)) e42) ?_
   rintro v43 w44 H
   refine zA rfl rfl (zG (v := v43) rfl) ?_
   refine (zJ (zB (hK35 _ _ ?_)))
   refine zC ?_
   refine zA rfl rfl (zK (v := .int .u64 x7) rfl) ?_
   obtain ⟨x45, e46, hF⟩ := zF hF
   refine zA rfl rfl (Do_neg (a := x7) rfl e46) ?_
   refine zA rfl rfl (zG (v := .int .u64 x45) rfl) ?_
   have hR := Option.some.inj hF
   subst hR
   refine (zJ (zB (And.intro ?_ ?_)))
   ·repeat' (first | with_reducible exact zS | refine zZ rfl ?_ | refine zT rfl rfl ?_)
   exact ⟨v43, (zQ rfl (zQ rfl zU)), H.pick [0, 1] (by decide)⟩
  have hF := zW c34 hF
  have hR := Option.some.inj hF
  subst hR
  refine (yI (zB (And.intro ?_ ?_)))
  ·repeat' (first | with_reducible exact zS | refine zZ rfl ?_ | refine zT rfl rfl ?_)
  exact ⟨v1, (zQ rfl (zQ rfl zU)), H.pick [0, 1] (by decide)⟩
 rintro v26 ρ w28 H
 have hF := hK29
 obtain ⟨g25, g27⟩ := j30
 refine zD fun K47 hK47 => ?_
 refine zC ?_
 refine zA rfl rfl (zK (v := v26) rfl) ?_
 refine zA rfl rfl (zK (v := .int .u64 g27) rfl) ?_
 refine zA rfl rfl (zK (v := .int .i64 p2) rfl) ?_
 obtain ⟨x48, e49, hF⟩ := zI hF
 refine yA rfl rfl (zX en173 rfl) (E.X_AppendUint_w g25 g27 p2 v26 _ e49 _ _ _ (H.enter [0] [1] (by decide) rfl)) ?_
 rintro _ w52 ⟨v50, rfl, G53⟩
 have H : Hd O _ w52 _ [.fz (.at 3 0 ((Fl.arr 20 (Fl.int .u64)).f yF)), .own (Rp.int .u8) v50 5 x48] := H.back [0] [1] rfl G53
 refine ⟨_, rfl, ?_⟩
 refine zA rfl rfl (zG (v := v50) rfl) ?_
 refine (zJ (zB (hK47 _ _ ?_)))
 have hR := Option.some.inj hF
 subst hR
 refine (yG (post1 (v1 := v50) rfl rfl ?_))
 exact ⟨v50, rfl, H.pick [1] (by decide)⟩
end Go.Proofs.YtnajnkghilemhaaGreatDoor.L
namespace Go.Proofs.YtnajnkghilemhaaGreatDoor.L
open Go.RowKit Go.OB Go.Lf
/- strconv.AppendInt -/
set_option maxHeartbeats 4000000 in
theorem F_strconv_AppendInt_w (p0 : List Int) (p1 : Int) (p2 : Int) (v1 : Value) (r : (List Int)) (hF : F_strconv_AppendInt p0 p1 p2 = some r) (O S : List Nat) (w : World) (H : Hd O w w S [.own (Rp.int .u8) v1 5 p0, .fz (.at 3 0 ((Fl.arr 20 (Fl.int .u64)).f yF))]) :
  Calls Tryz.prog 85 ([v1, .int .i64 p1, .int .i64 p2] : List Value).toArray w fun e w' => ∃ u4, e = .returned (u4) ∧ Hd O w w' S [.own (Rp.int .u8) u4 5 r] := by
 unfold F_strconv_AppendInt at hF
 refine yD 11 Tryz.func85 rfl rfl rfl ?_
 refine zD fun K5 hK5 => ?_
 refine zC ?_
 refine zA rfl rfl (zG (v := .slice none 0 0) rfl) ?_
 refine (zJ (zB (hK5 _ _ ?_)))
 refine zD fun K6 hK6 => ?_
 refine zC ?_
 refine zA rfl rfl (zK (v := v1) rfl) ?_
 refine zA rfl rfl (zK (v := .int .i64 p1) rfl) ?_
 refine zA rfl rfl (zK (v := .int .i64 p2) rfl) ?_
 obtain ⟨x7, e8, hF⟩ := zI hF
 refine yA rfl rfl (zX en136 rfl) (F_internal_strconv_AppendInt_w p0 p1 p2 v1 _ e8 _ _ _ (H.enter [0] [1] (by decide) rfl)) ?_
 rintro _ w11 ⟨v9, rfl, G12⟩
 have H : Hd O _ w11 _ [.fz (.at 3 0 ((Fl.arr 20 (Fl.int .u64)).f yF)), .own (Rp.int .u8) v9 5 x7] := H.back [0] [1] rfl G12
 refine ⟨_, rfl, ?_⟩
 refine zA rfl rfl (zG (v := v9) rfl) ?_
 refine (zJ (zB (hK6 _ _ ?_)))
 have hR := Option.some.inj hF
 subst hR
 refine (yG (post1 (v1 := v9) rfl rfl ?_))
 exact ⟨v9, rfl, H.pick [1] (by decide)⟩
end Go.Proofs.YtnajnkghilemhaaGreatDoor.L
