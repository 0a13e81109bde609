/- Walks: what each function computes, for every argument; no condition but those that stand in the statements. -/
import Derived.Test.YtnajnkghilemhaaGreatDoorVV0
import Derived.Test.YtnajnkghilemhaaGreatDoorVV10
import Derived.Test.YtnajnkghilemhaaGreatDoorVV1
import Derived.Test.YtnajnkghilemhaaGreatDoorVV2
import Derived.Test.YtnajnkghilemhaaGreatDoorVV3
namespace Go.Proofs.YtnajnkghilemhaaGreatDoor.L
open Go.RowKit Go.OB Go.Lf
/- orangebox/event.condText -/
set_option maxHeartbeats 4000000 in
set_option maxRecDepth 100000 in
theorem F_event_condText_B_w (rfG : Cond → Int → Option Str) (rhG : S_event_condText rfG) (p0 : Cond) (p1 : Int) (v1 : Value) (r : Str) (hF : F_event_condText_B rfG p0 p1 = some r) (O S : List Nat) (w : World) (H : Hd O w w S [.fz (.sl rCond v1 p0.Kids), .fz (.at 0 0 ((Fl.arr 7 Fl.str).f zO))]) :
  Calls Tryz.prog 51 ([.agg [.int .i64 p0.Kind, .string (bs p0.Name), .string (bs p0.Other), .int .i64 p0.Op, .int .i64 p0.N, .int .i64 p0.Frames, v1].toArray, .int .i64 p1] : List Value).toArray w fun e w' => e = .returned (.string (bs r)) ∧ Hd O w w' S [] := by
 unfold F_event_condText_B at hF
 refine yD 160 Tryz.func51 rfl rfl rfl ?_
 refine zD fun K4 hK4 => ?_
 refine zC ?_
 refine yY rfl rfl (Lx_box (cs := [.int .i64 p0.Kind, .string (bs p0.Name), .string (bs p0.Other), .int .i64 p0.Op, .int .i64 p0.N, .int .i64 p0.Frames, v1]) rfl H) ?_
 rintro _ w7 ⟨b5, rfl, H⟩
 refine zA rfl rfl (zG (v := .string (bs [])) rfl) ?_
 refine (zJ (zB (hK4 _ _ ?_)))
 refine zD fun K8 hK8 => ?_
 refine zC ?_
 refine zA rfl rfl (zG (v := .func (.func 102) #[] #[]) rfl) ?_
 refine (zJ (zB (hK8 _ _ ?_)))
 refine zD fun K9 hK9 => ?_
 refine zC ?_
 refine zA rfl rfl (Do_makeFunc rfl) ?_
 refine zA rfl rfl (zG (v := .func (.func 103) #[] #[.pointer (some ⟨b5, 0, none⟩)]) rfl) ?_
 refine (zJ (zB (hK9 _ _ ?_)))
 refine zD fun K10 hK10 => ?_
 refine zC ?_
 refine zA rfl rfl (zG (v := .string (bs [])) rfl) ?_
 refine (zJ (zB (hK10 _ _ ?_)))
 refine zD fun K252 hK252 => ?_
 refine zD fun K253 hK253 => ?_
 refine zC ?_
 refine zA rfl rfl (fa54_0 rfl) ?_
 refine zA rfl rfl (zL one3 rfl (Cells.get (Blk.cells (H.item (i := 2) rfl)) (i := 0) rfl)) ?_
 refine (zJ (zB (hK253 _ _ ?_)))
 refine yM ?_
 refine zD fun K254 hK254 => ?_
 refine zC ?_
 obtain ⟨x255, e256, hF⟩ := zF hF
 refine zA rfl rfl (zM (xC (a := p0.Kind) (b := 9) rfl rfl) (congrArg Value.bool e256)) ?_
 refine zA rfl rfl (zG (v := .bool x255) rfl) ?_
 refine (zJ (zB (hK254 _ _ ?_)))
 refine yH (b := x255) rfl (fun c257 => ?_) (fun c257 => ?_)
 ·have hF := zV c257 hF
  obtain ⟨g277, hF, hK279⟩ := zI hF
  refine yQ [7, 13, 14, 15, 16, 17, 18, 19, 20, 21, 22, 23, 24] (fun (g : Unit) => [(7, .string (bs g277))]) (fun g wl => Hd O w wl S [.fz (.at 0 0 ((Fl.arr 7 Fl.str).f zO))]) ?_ ?_
  ·skip
   refine zD fun K280 hK280 => ?_
   refine zC ?_
   refine zA rfl rfl (wB rfl) ?_
   refine zA rfl rfl (zL one52 rfl (Cells.get (Blk.cells (H.item (i := 2) rfl)) (i := 6) rfl)) ?_
   have H281 := H
   obtain ⟨x282, e283, hF⟩ := zI hF
   refine yA rfl rfl (zX en104 rfl) (F_event_joined_w rfG rhG p0.Kids [97, 110, 100] 2 v1 _ e283 _ _ _ (H.enter [] [0, 1] (by decide) rfl)) ?_
   rintro _ w284 ⟨rfl, G285⟩
   have H := H281.step (G285.only : Only [] _ _)
   refine ⟨_, rfl, ?_⟩
   refine zA rfl rfl (zG (v := .string (bs x282)) rfl) ?_
   refine (zJ (zB (hK280 _ _ ?_)))
   obtain ⟨g291, hF, hK293⟩ := zI hF
   refine yQ [16, 17, 18, 19, 20, 21] (fun (g : Unit) => [(21, .bool g291)]) (fun g wl => Hd O w wl S [.fz (.at 0 0 ((Fl.arr 7 Fl.str).f zO))]) ?_ ?_
   ·skip
    refine zC ?_
    refine zA rfl rfl (zK (v := .int .i64 p1) rfl) ?_
    obtain ⟨x294, e295, hF⟩ := zF hF
    refine zA rfl rfl (zM (xC (a := p1) (b := 2) rfl rfl) (congrArg Value.bool e295)) ?_
    refine yE (b := x294) rfl rfl rfl (fun c296 => ?_) (fun c296 => ?_)
    ·have hF := zV c296 hF
     refine zH rfl rfl ?_
     refine zH rfl rfl ?_
     refine zA rfl rfl (zY (v := .bool true) rfl rfl) ?_
     have hR := Option.some.inj hF
     subst hR
     refine (zJ (zB (And.intro ?_ ?_)))
     ·repeat' (first | with_reducible exact zS | refine zZ rfl ?_ | refine zT rfl rfl ?_)
     exact ⟨(), (zQ rfl zU), H.pick [1] (by decide)⟩
    have hF := zW c296 hF
    refine zA rfl rfl (zK (v := .int .i64 p1) rfl) ?_
    obtain ⟨x297, e298, hF⟩ := zF hF
    refine zA rfl rfl (zM (xC (a := p1) (b := 3) rfl rfl) (congrArg Value.bool e298)) ?_
    refine zA rfl rfl (zN (v := .bool x297) rfl rfl) ?_
    have hR := Option.some.inj hF
    subst hR
    refine (zJ (zB (And.intro ?_ ?_)))
    ·repeat' (first | with_reducible exact zS | refine zZ rfl ?_ | refine zT rfl rfl ?_)
    exact ⟨(), (zQ rfl zU), H.pick [1] (by decide)⟩
   rintro _ ρ w292 H
   have hF := hK293
   refine yH (b := g291) rfl (fun c299 => ?_) (fun c299 => ?_)
   ·have hF := zV c299 hF
    refine zC ?_
    refine zA rfl rfl (zK (v := .string (bs x282)) rfl) ?_
    obtain ⟨x300, e301, hF⟩ := zI hF
    refine zA rfl rfl (xR (s1 := [40]) (s2 := x282) rfl rfl e301) ?_
    obtain ⟨x302, e303, hF⟩ := zI hF
    refine zA rfl rfl (xR (s1 := x300) (s2 := [41]) rfl rfl e303) ?_
    refine zA rfl rfl (zG (v := .string (bs x302)) rfl) ?_
    have hR := Option.some.inj hF
    subst hR
    refine (zJ (zB (And.intro ?_ ?_)))
    ·repeat' (first | with_reducible exact zS | refine zZ rfl ?_ | refine zT rfl rfl ?_)
    exact ⟨(), (zQ rfl zU), H.pick [0] (by decide)⟩
   have hF := zW c299 hF
   have hR := Option.some.inj hF
   subst hR
   refine (yI (zB (And.intro ?_ ?_)))
   ·repeat' (first | with_reducible exact zS | refine zZ rfl ?_ | refine zT rfl rfl ?_)
   exact ⟨(), (zQ rfl zU), H.pick [0] (by decide)⟩
  rintro _ ρ w278 H
  have hF := hK279
  refine zD fun K304 hK304 => ?_
  refine zC ?_
  refine zA rfl rfl (zK (v := .string (bs g277)) rfl) ?_
  refine zA rfl rfl (zG (v := .string (bs g277)) rfl) ?_
  refine (zJ (zB (hK304 _ _ ?_)))
  have hR := Option.some.inj hF
  subst hR
  refine (yG (yJ (yC (post1 (v1 := .string (bs g277)) rfl rfl ?_))))
  exact ⟨rfl, H.pick [] (by decide)⟩
 have hF := zW c257 hF
 refine zD fun K305 hK305 => ?_
 refine zC ?_
 obtain ⟨x306, e307, hF⟩ := zF hF
 refine zA rfl rfl (zM (xC (a := p0.Kind) (b := 10) rfl rfl) (congrArg Value.bool e307)) ?_
 refine zA rfl rfl (zG (v := .bool x306) rfl) ?_
 refine (zJ (zB (hK305 _ _ ?_)))
 refine yH (b := x306) rfl (fun c308 => ?_) (fun c308 => ?_)
 ·have hF := zV c308 hF
  obtain ⟨g323, hF, hK325⟩ := zI hF
  refine yQ [7, 28, 29, 30, 31, 32, 33, 34, 35] (fun (g : Unit) => [(7, .string (bs g323))]) (fun g wl => Hd O w wl S [.fz (.at 0 0 ((Fl.arr 7 Fl.str).f zO))]) ?_ ?_
  ·skip
   refine zD fun K326 hK326 => ?_
   refine zC ?_
   refine zA rfl rfl (wB rfl) ?_
   refine zA rfl rfl (zL one52 rfl (Cells.get (Blk.cells (H.item (i := 2) rfl)) (i := 6) rfl)) ?_
   have H327 := H
   obtain ⟨x328, e329, hF⟩ := zI hF
   refine yA rfl rfl (zX en104 rfl) (F_event_joined_w rfG rhG p0.Kids [111, 114] 1 v1 _ e329 _ _ _ (H.enter [] [0, 1] (by decide) rfl)) ?_
   rintro _ w330 ⟨rfl, G331⟩
   have H := H327.step (G331.only : Only [] _ _)
   refine ⟨_, rfl, ?_⟩
   refine zA rfl rfl (zG (v := .string (bs x328)) rfl) ?_
   refine (zJ (zB (hK326 _ _ ?_)))
   refine zD fun K332 hK332 => ?_
   refine zC ?_
   refine zA rfl rfl (zK (v := .int .i64 p1) rfl) ?_
   obtain ⟨x333, e334, hF⟩ := zF hF
   refine zA rfl rfl (zM (xO (a := p1) (b := 0) rfl rfl) (congrArg Value.bool e334)) ?_
   refine (zJ (zB (hK332 _ _ ?_)))
   refine yH (b := x333) rfl (fun c335 => ?_) (fun c335 => ?_)
   ·have hF := zV c335 hF
    refine zC ?_
    refine zA rfl rfl (zK (v := .string (bs x328)) rfl) ?_
    obtain ⟨x336, e337, hF⟩ := zI hF
    refine zA rfl rfl (xR (s1 := [40]) (s2 := x328) rfl rfl e337) ?_
    obtain ⟨x338, e339, hF⟩ := zI hF
    refine zA rfl rfl (xR (s1 := x336) (s2 := [41]) rfl rfl e339) ?_
    refine zA rfl rfl (zG (v := .string (bs x338)) rfl) ?_
    have hR := Option.some.inj hF
    subst hR
    refine (zJ (zB (And.intro ?_ ?_)))
    ·repeat' (first | with_reducible exact zS | refine zZ rfl ?_ | refine zT rfl rfl ?_)
    exact ⟨(), (zQ rfl zU), H.pick [1] (by decide)⟩
   have hF := zW c335 hF
   have hR := Option.some.inj hF
   subst hR
   refine (yI (zB (And.intro ?_ ?_)))
   ·repeat' (first | with_reducible exact zS | refine zZ rfl ?_ | refine zT rfl rfl ?_)
   exact ⟨(), (zQ rfl zU), H.pick [1] (by decide)⟩
  rintro _ ρ w324 H
  have hF := hK325
  refine zD fun K340 hK340 => ?_
  refine zC ?_
  refine zA rfl rfl (zK (v := .string (bs g323)) rfl) ?_
  refine zA rfl rfl (zG (v := .string (bs g323)) rfl) ?_
  refine (zJ (zB (hK340 _ _ ?_)))
  have hR := Option.some.inj hF
  subst hR
  refine (yG (yJ (yC (post1 (v1 := .string (bs g323)) rfl rfl ?_))))
  exact ⟨rfl, H.pick [] (by decide)⟩
 have hF := zW c308 hF
 refine zD fun K341 hK341 => ?_
 refine zC ?_
 obtain ⟨x342, e343, hF⟩ := zF hF
 refine zA rfl rfl (zM (xC (a := p0.Kind) (b := 1) rfl rfl) (congrArg Value.bool e343)) ?_
 refine zA rfl rfl (zG (v := .bool x342) rfl) ?_
 refine (zJ (zB (hK341 _ _ ?_)))
 refine yH (b := x342) rfl (fun c344 => ?_) (fun c344 => ?_)
 ·have hF := zV c344 hF
  refine zD fun K345 hK345 => ?_
  refine zC ?_
  refine zA rfl rfl (zG (v := .string (bs [116, 114, 117, 101])) rfl) ?_
  refine (zJ (zB (hK345 _ _ ?_)))
  have hR := Option.some.inj hF
  subst hR
  refine (yG (yJ (yC (post1 (v1 := .string (bs [116, 114, 117, 101])) rfl rfl ?_))))
  exact ⟨rfl, H.pick [] (by decide)⟩
 have hF := zW c344 hF
 refine zD fun K346 hK346 => ?_
 refine zC ?_
 obtain ⟨x347, e348, hF⟩ := zF hF
 refine zA rfl rfl (zM (xC (a := p0.Kind) (b := 2) rfl rfl) (congrArg Value.bool e348)) ?_
 refine zA rfl rfl (zG (v := .bool x347) rfl) ?_
 refine (zJ (zB (hK346 _ _ ?_)))
 refine yH (b := x347) rfl (fun c349 => ?_) (fun c349 => ?_)
 ·have hF := zV c349 hF
  refine zD fun K350 hK350 => ?_
  refine zC ?_
  refine zA rfl rfl (zG (v := .string (bs [102, 97, 108, 115, 101])) rfl) ?_
  refine (zJ (zB (hK350 _ _ ?_)))
  have hR := Option.some.inj hF
  subst hR
  refine (yG (yJ (yC (post1 (v1 := .string (bs [102, 97, 108, 115, 101])) rfl rfl ?_))))
  exact ⟨rfl, H.pick [] (by decide)⟩
 have hF := zW c349 hF
 refine zD fun K351 hK351 => ?_
 refine zC ?_
 obtain ⟨x352, e353, hF⟩ := zF hF
 refine zA rfl rfl (zM (xC (a := p0.Kind) (b := 3) rfl rfl) (congrArg Value.bool e353)) ?_
 refine zA rfl rfl (zG (v := .bool x352) rfl) ?_
 refine (zJ (zB (hK351 _ _ ?_)))
 refine yH (b := x352) rfl (fun c354 => ?_) (fun c354 => ?_)
 ·have hF := zV c354 hF
  refine zD fun K355 hK355 => ?_
  have H := H.freezeB (i := 2) rfl
  have H356 := H
  have H := H.rebase
  have H357 := H
  have h358 := H.firm (i := 1) rfl
  have h359 := H.firm (i := 2) rfl
  refine WP_mix0 H [0, 1, 2, 3, 4, 5, 6, 7, 8, 9, 10, 11, 12, 13, 14] [.pure, .pure, .pure, .pure, .pure, .pure, .pure, .pure, .pure, .pure, .pure, .read, .eff, .pure, .pure] mixed (by kernel_rfl) (by kernel_rfl) (by kernel_rfl) rfl ?_
  refine Mx.yB rfl rfl rfl (fun w' hw' => fa54_1 rfl) ?_
  refine Mx.yB rfl rfl rfl (fun w' hw' => zL one9 rfl (Cells.get (h359 w' hw').2.2 (i := 1) rfl)) ?_
  obtain ⟨x360, e361, hF⟩ := zI hF
  refine Mx.yB rfl rfl rfl (fun w' hw' => xR (s1 := p0.Name) (s2 := [32]) rfl rfl e361) ?_
  refine Mx.yB rfl rfl rfl (fun w' hw' => fa54_3 rfl) ?_
  refine Mx.yB rfl rfl rfl (fun w' hw' => zL one3 rfl (Cells.get (h359 w' hw').2.2 (i := 3) rfl)) ?_
  obtain ⟨x362, e363, hF⟩ := zI hF
  refine Mx.yB rfl rfl rfl (fun w' hw' => Do_idxA (X := zO) u156 sz9 rfl rfl e363) ?_
  refine Mx.yB rfl rfl rfl (fun w' hw' => Do_load1 (v := .string (bs x362)) one9 rfl (Cells.ix (e := Fl.str) (x := zO) (h358 w' hw').2.2 e363)) ?_
  obtain ⟨x364, e365, hF⟩ := zI hF
  refine Mx.yB rfl rfl rfl (fun w' hw' => xR (s1 := x360) (s2 := x362) rfl rfl e365) ?_
  obtain ⟨x366, e367, hF⟩ := zI hF
  refine Mx.yB rfl rfl rfl (fun w' hw' => xR (s1 := x364) (s2 := [32]) rfl rfl e367) ?_
  refine Mx.yB rfl rfl rfl (fun w' hw' => zK (v := .func (.func 102) #[] #[]) rfl) ?_
  refine Mx.yB rfl rfl rfl (fun w' hw' => fa54_4 rfl) ?_
  refine Mx.xK oS rfl rfl rfl (fun w' hw' => zL one3 rfl (Cells.get ((H.sees hw').item (i := 2) rfl).2.2 (i := 4) rfl)) ?_
  have H368 := H
  obtain ⟨x369, e370, hF⟩ := zI hF
  refine Mx.XL_effC oS rfl rfl rfl (fun w' hw' => wH en102 rfl rfl) (fun w' hw' => E.X_Itoa_w p0.N _ e370 _ _ _ ((H.sees hw').enter [] [] (by decide) rfl)) ?_
  rintro w' _ w371 hw' ⟨rfl, G372⟩
  have H := (H368.sees hw').step (G372.only : Only [] _ _)
  refine ⟨_, rfl, H.only, ?_⟩
  obtain ⟨x373, e374, hF⟩ := zI hF
  refine Mx.yB rfl rfl rfl (fun w' hw' => xR (s1 := x366) (s2 := x369) rfl rfl e374) ?_
  refine Mx.yB rfl rfl rfl (fun w' hw' => zG (v := .string (bs x373)) rfl) ?_
  refine Mx.XL_nil fun w375 hS => ?_
  have H := H.sees hS
  have H := H356.rejoin H
  refine (zB (hK355 _ _ ?_))
  have hR := Option.some.inj hF
  subst hR
  refine (yG (yJ (yC (post1 (v1 := .string (bs x373)) rfl rfl ?_))))
  exact ⟨rfl, H.pick [] (by decide)⟩
 have hF := zW c354 hF
 refine zD fun K376 hK376 => ?_
 refine zC ?_
 obtain ⟨x377, e378, hF⟩ := zF hF
 refine zA rfl rfl (zM (xC (a := p0.Kind) (b := 4) rfl rfl) (congrArg Value.bool e378)) ?_
 refine zA rfl rfl (zG (v := .bool x377) rfl) ?_
 refine (zJ (zB (hK376 _ _ ?_)))
 refine yH (b := x377) rfl (fun c379 => ?_) (fun c379 => ?_)
 ·have hF := zV c379 hF
  refine zD fun K380 hK380 => ?_
  have H381 := H
  have H := H.rebase
  have H382 := H
  refine WP_mix0 H [0, 1, 2, 3, 4, 5, 6, 7, 8, 9, 10, 11, 12] [.pure, .read, .pure, .pure, .read, .pure, .read, .pure, .pure, .pure, .read, .pure, .pure] mixed (by kernel_rfl) (by kernel_rfl) (by kernel_rfl) rfl ?_
  refine Mx.yB rfl rfl rfl (fun w' hw' => fa54_1 rfl) ?_
  refine Mx.xK oS rfl rfl rfl (fun w' hw' => zL one9 rfl (Cells.get (Blk.cells ((H.sees hw').item (i := 2) rfl)) (i := 1) rfl)) ?_
  obtain ⟨x383, e384, hF⟩ := zI hF
  refine Mx.yB rfl rfl rfl (fun w' hw' => xR (s1 := p0.Name) (s2 := [32]) rfl rfl e384) ?_
  refine Mx.yB rfl rfl rfl (fun w' hw' => fa54_3 rfl) ?_
  refine Mx.xK oS rfl rfl rfl (fun w' hw' => zL one3 rfl (Cells.get (Blk.cells ((H.sees hw').item (i := 2) rfl)) (i := 3) rfl)) ?_
  obtain ⟨x385, e386, hF⟩ := zI hF
  refine Mx.yB rfl rfl rfl (fun w' hw' => Do_idxA (X := zO) u156 sz9 rfl rfl e386) ?_
  refine Mx.xK oS rfl rfl rfl (fun w' hw' => Do_load1 (v := .string (bs x385)) one9 rfl (Cells.ix (e := Fl.str) (x := zO) ((H.sees hw').item (i := 1) rfl).2.2 e386)) ?_
  obtain ⟨x387, e388, hF⟩ := zI hF
  refine Mx.yB rfl rfl rfl (fun w' hw' => xR (s1 := x383) (s2 := x385) rfl rfl e388) ?_
  obtain ⟨x389, e390, hF⟩ := zI hF
  refine Mx.yB rfl rfl rfl (fun w' hw' => xR (s1 := x387) (s2 := [32]) rfl rfl e390) ?_
  refine Mx.yB rfl rfl rfl (fun w' hw' => fa54_2 rfl) ?_
  refine Mx.xK oS rfl rfl rfl (fun w' hw' => zL one9 rfl (Cells.get (Blk.cells ((H.sees hw').item (i := 2) rfl)) (i := 2) rfl)) ?_
  obtain ⟨x391, e392, hF⟩ := zI hF
  refine Mx.yB rfl rfl rfl (fun w' hw' => xR (s1 := x389) (s2 := p0.Other) rfl rfl e392) ?_
  refine Mx.yB rfl rfl rfl (fun w' hw' => zG (v := .string (bs x391)) rfl) ?_
  refine Mx.XL_nil fun w393 hS => ?_
  have H := H.sees hS
  have H := H381.rejoin H
  refine (zB (hK380 _ _ ?_))
  have hR := Option.some.inj hF
  subst hR
  refine (yG (yJ (yC (post1 (v1 := .string (bs x391)) rfl rfl ?_))))
  exact ⟨rfl, H.pick [] (by decide)⟩
 have hF := zW c379 hF
 refine zD fun K394 hK394 => ?_
 refine zC ?_
 obtain ⟨x395, e396, hF⟩ := zF hF
 refine zA rfl rfl (zM (xC (a := p0.Kind) (b := 5) rfl rfl) (congrArg Value.bool e396)) ?_
 refine zA rfl rfl (zG (v := .bool x395) rfl) ?_
 refine (zJ (zB (hK394 _ _ ?_)))
 refine yH (b := x395) rfl (fun c397 => ?_) (fun c397 => ?_)
 ·have hF := zV c397 hF
  refine zD fun K398 hK398 => ?_
  have H := H.freezeB (i := 2) rfl
  have H399 := H
  have H := H.rebase
  have H400 := H
  have h401 := H.firm (i := 2) rfl
  refine WP_mix H [0, 1, 2, 3, 4, 5, 6, 10, 11, 12, 7, 8, 9, 13, 14, 15] [.pure, .pure, .pure, .pure, .pure, .pure, .read, .eff, .pure, .pure, .pure, .pure, .pure, .eff, .pure, .pure] mixed (by kernel_rfl) (by kernel_rfl) (by kernel_rfl) (by decide) ?_
  refine Mx.yB rfl rfl rfl (fun w' hw' => fa54_1 rfl) ?_
  refine Mx.yB rfl rfl rfl (fun w' hw' => zL one9 rfl (Cells.get (h401 w' hw').2.2 (i := 1) rfl)) ?_
  obtain ⟨x402, e403, hF⟩ := zI hF
  refine Mx.yB rfl rfl rfl (fun w' hw' => xR (s1 := [115, 116, 101, 97, 100, 121, 32]) (s2 := p0.Name) rfl rfl e403) ?_
  obtain ⟨x404, e405, hF⟩ := zI hF
  refine Mx.yB rfl rfl rfl (fun w' hw' => xR (s1 := x402) (s2 := [32]) rfl rfl e405) ?_
  refine Mx.yB rfl rfl rfl (fun w' hw' => zK (v := .func (.func 102) #[] #[]) rfl) ?_
  refine Mx.yB rfl rfl rfl (fun w' hw' => fa54_4 rfl) ?_
  refine Mx.xK oS rfl rfl rfl (fun w' hw' => zL one3 rfl (Cells.get ((H.sees hw').item (i := 2) rfl).2.2 (i := 4) rfl)) ?_
  refine Mx.yB rfl rfl rfl (fun w' hw' => zK (v := .func (.func 102) #[] #[]) rfl) ?_
  refine Mx.yB rfl rfl rfl (fun w' hw' => fa54_5 rfl) ?_
  refine Mx.yB rfl rfl rfl (fun w' hw' => zL one3 rfl (Cells.get (h401 w' hw').2.2 (i := 5) rfl)) ?_
  have H406 := H
  obtain ⟨x407, e408, hF⟩ := zI hF
  refine Mx.XL_effC oS rfl rfl rfl (fun w' hw' => wH en102 rfl rfl) (fun w' hw' => E.X_Itoa_w p0.N _ e408 _ _ _ ((H.sees hw').enter [] [] (by decide) rfl)) ?_
  rintro w' _ w409 hw' ⟨rfl, G410⟩
  have H := (H406.sees hw').step (G410.only : Only [] _ _)
  refine ⟨_, rfl, H.only, ?_⟩
  obtain ⟨x411, e412, hF⟩ := zI hF
  refine Mx.yB rfl rfl rfl (fun w' hw' => xR (s1 := x404) (s2 := x407) rfl rfl e412) ?_
  obtain ⟨x413, e414, hF⟩ := zI hF
  refine Mx.yB rfl rfl rfl (fun w' hw' => xR (s1 := x411) (s2 := [32]) rfl rfl e414) ?_
  have H415 := H
  obtain ⟨x416, e417, hF⟩ := zI hF
  refine Mx.XL_effC oS rfl rfl rfl (fun w' hw' => wH en102 rfl rfl) (fun w' hw' => E.X_Itoa_w p0.Frames _ e417 _ _ _ ((H.sees hw').enter [] [] (by decide) rfl)) ?_
  rintro w' _ w418 hw' ⟨rfl, G419⟩
  have H := (H415.sees hw').step (G419.only : Only [] _ _)
  refine ⟨_, rfl, H.only, ?_⟩
  obtain ⟨x420, e421, hF⟩ := zI hF
  refine Mx.yB rfl rfl rfl (fun w' hw' => xR (s1 := x413) (s2 := x416) rfl rfl e421) ?_
  refine Mx.yB rfl rfl rfl (fun w' hw' => zG (v := .string (bs x420)) rfl) ?_
  refine Mx.XL_nil fun w422 hS => ?_
  have H := H.sees hS
  have H := H399.rejoin H
  refine (zB (hK398 _ _ ?_))
  have hR := Option.some.inj hF
  subst hR
  refine (yG (yJ (yC (post1 (v1 := .string (bs x420)) rfl rfl ?_))))
  exact ⟨rfl, H.pick [] (by decide)⟩
 have hF := zW c397 hF
 refine zD fun K423 hK423 => ?_
 refine zC ?_
 obtain ⟨x424, e425, hF⟩ := zF hF
 refine zA rfl rfl (zM (xC (a := p0.Kind) (b := 6) rfl rfl) (congrArg Value.bool e425)) ?_
 refine zA rfl rfl (zG (v := .bool x424) rfl) ?_
 refine (zJ (zB (hK423 _ _ ?_)))
 refine yH (b := x424) rfl (fun c426 => ?_) (fun c426 => ?_)
 ·have hF := zV c426 hF
  refine zD fun K427 hK427 => ?_
  refine zC ?_
  refine zA rfl rfl (fa54_1 rfl) ?_
  refine zA rfl rfl (zL one9 rfl (Cells.get (Blk.cells (H.item (i := 2) rfl)) (i := 1) rfl)) ?_
  obtain ⟨x428, e429, hF⟩ := zI hF
  refine zA rfl rfl (xR (s1 := [112, 104, 97, 115, 101, 32]) (s2 := p0.Name) rfl rfl e429) ?_
  refine zA rfl rfl (zG (v := .string (bs x428)) rfl) ?_
  refine (zJ (zB (hK427 _ _ ?_)))
  have hR := Option.some.inj hF
  subst hR
  refine (yG (yJ (yC (post1 (v1 := .string (bs x428)) rfl rfl ?_))))
  exact ⟨rfl, H.pick [] (by decide)⟩
 have hF := zW c426 hF
 refine zD fun K430 hK430 => ?_
 refine zC ?_
 obtain ⟨x431, e432, hF⟩ := zF hF
 refine zA rfl rfl (zM (xC (a := p0.Kind) (b := 7) rfl rfl) (congrArg Value.bool e432)) ?_
 refine zA rfl rfl (zG (v := .bool x431) rfl) ?_
 refine (zJ (zB (hK430 _ _ ?_)))
 refine yH (b := x431) rfl (fun c433 => ?_) (fun c433 => ?_)
 ·have hF := zV c433 hF
  refine zD fun K434 hK434 => ?_
  refine zC ?_
  refine zA rfl rfl (fa54_1 rfl) ?_
  refine zA rfl rfl (zL one9 rfl (Cells.get (Blk.cells (H.item (i := 2) rfl)) (i := 1) rfl)) ?_
  obtain ⟨x435, e436, hF⟩ := zI hF
  refine zA rfl rfl (xR (s1 := [114, 117, 108, 101, 32]) (s2 := p0.Name) rfl rfl e436) ?_
  refine zA rfl rfl (zG (v := .string (bs x435)) rfl) ?_
  refine (zJ (zB (hK434 _ _ ?_)))
  have hR := Option.some.inj hF
  subst hR
  refine (yG (yJ (yC (post1 (v1 := .string (bs x435)) rfl rfl ?_))))
  exact ⟨rfl, H.pick [] (by decide)⟩
 have hF := zW c433 hF
 refine zD fun K437 hK437 => ?_
 refine zC ?_
 obtain ⟨x438, e439, hF⟩ := zF hF
 refine zA rfl rfl (zM (xC (a := p0.Kind) (b := 8) rfl rfl) (congrArg Value.bool e439)) ?_
 refine zA rfl rfl (zG (v := .bool x438) rfl) ?_
 refine (zJ (zB (hK437 _ _ ?_)))
 refine yH (b := x438) rfl (fun c440 => ?_) (fun c440 => ?_)
 ·have hF := zV c440 hF
  refine zD fun K441 hK441 => ?_
  refine zC ?_
  refine zA rfl rfl (zK (v := .func (.func 103) #[] #[.pointer (some ⟨b5, 0, none⟩)]) rfl) ?_
  obtain ⟨x442, e443, hF⟩ := zI hF
  refine yA rfl rfl (wH en103 rfl rfl) (F_event_condText_1_w rfG rhG p0 b5 v1 _ e443 _ _ _ (H.enter [2] [0, 1] (by decide) rfl)) ?_
  rintro _ w444 ⟨rfl, G445⟩
  have H : Hd O _ w444 _ [.fz (.sl rCond v1 p0.Kids), .fz (.at 0 0 ((Fl.arr 7 Fl.str).f zO)), .blk b5 [.int .i64 p0.Kind, .string (bs p0.Name), .string (bs p0.Other), .int .i64 p0.Op, .int .i64 p0.N, .int .i64 p0.Frames, v1] 54] := H.back [2] [0, 1] rfl G445
  refine ⟨_, rfl, ?_⟩
  obtain ⟨x446, e447, hF⟩ := zI hF
  refine zA rfl rfl (xR (s1 := [110, 111, 116, 32]) (s2 := x442) rfl rfl e447) ?_
  refine zA rfl rfl (zG (v := .string (bs x446)) rfl) ?_
  refine (zJ (zB (hK441 _ _ ?_)))
  have hR := Option.some.inj hF
  subst hR
  refine (yG (yJ (yC (post1 (v1 := .string (bs x446)) rfl rfl ?_))))
  exact ⟨rfl, H.pick [] (by decide)⟩
 have hF := zW c440 hF
 refine zD fun K448 hK448 => ?_
 refine zC ?_
 obtain ⟨x449, e450, hF⟩ := zF hF
 refine zA rfl rfl (zM (xC (a := p0.Kind) (b := 11) rfl rfl) (congrArg Value.bool e450)) ?_
 refine zA rfl rfl (zG (v := .bool x449) rfl) ?_
 refine (zJ (zB (hK448 _ _ ?_)))
 refine yH (b := x449) rfl (fun c451 => ?_) (fun c451 => ?_)
 ·have hF := zV c451 hF
  refine zD fun K452 hK452 => ?_
  refine zC ?_
  refine zA rfl rfl (zK (v := .func (.func 102) #[] #[]) rfl) ?_
  refine zA rfl rfl (fa54_5 rfl) ?_
  refine zA rfl rfl (zL one3 rfl (Cells.get (Blk.cells (H.item (i := 2) rfl)) (i := 5) rfl)) ?_
  have H453 := H
  obtain ⟨x454, e455, hF⟩ := zI hF
  refine yA rfl rfl (wH en102 rfl rfl) (E.X_Itoa_w p0.Frames _ e455 _ _ _ (H.enter [] [] (by decide) rfl)) ?_
  rintro _ w456 ⟨rfl, G457⟩
  have H := H453.step (G457.only : Only [] _ _)
  refine ⟨_, rfl, ?_⟩
  obtain ⟨x458, e459, hF⟩ := zI hF
  refine zA rfl rfl (xR (s1 := [102, 111, 114, 32]) (s2 := x454) rfl rfl e459) ?_
  obtain ⟨x460, e461, hF⟩ := zI hF
  refine zA rfl rfl (xR (s1 := x458) (s2 := [32]) rfl rfl e461) ?_
  refine zA rfl rfl (zK (v := .func (.func 103) #[] #[.pointer (some ⟨b5, 0, none⟩)]) rfl) ?_
  obtain ⟨x462, e463, hF⟩ := zI hF
  refine yA rfl rfl (wH en103 rfl rfl) (F_event_condText_1_w rfG rhG p0 b5 v1 _ e463 _ _ _ (H.enter [2] [0, 1] (by decide) rfl)) ?_
  rintro _ w464 ⟨rfl, G465⟩
  have H : Hd O _ w464 _ [.fz (.sl rCond v1 p0.Kids), .fz (.at 0 0 ((Fl.arr 7 Fl.str).f zO)), .blk b5 [.int .i64 p0.Kind, .string (bs p0.Name), .string (bs p0.Other), .int .i64 p0.Op, .int .i64 p0.N, .int .i64 p0.Frames, v1] 54] := H.back [2] [0, 1] rfl G465
  refine ⟨_, rfl, ?_⟩
  obtain ⟨x466, e467, hF⟩ := zI hF
  refine zA rfl rfl (xR (s1 := x460) (s2 := x462) rfl rfl e467) ?_
  refine zA rfl rfl (zG (v := .string (bs x466)) rfl) ?_
  refine (zJ (zB (hK452 _ _ ?_)))
  have hR := Option.some.inj hF
  subst hR
  refine (yG (yJ (yC (post1 (v1 := .string (bs x466)) rfl rfl ?_))))
  exact ⟨rfl, H.pick [] (by decide)⟩
 have hF := zW c451 hF
 refine zD fun K468 hK468 => ?_
 refine zC ?_
 obtain ⟨x469, e470, hF⟩ := zF hF
 refine zA rfl rfl (zM (xC (a := p0.Kind) (b := 12) rfl rfl) (congrArg Value.bool e470)) ?_
 refine zA rfl rfl (zG (v := .bool x469) rfl) ?_
 refine (zJ (zB (hK468 _ _ ?_)))
 refine yH (b := x469) rfl (fun c471 => ?_) (fun c471 => ?_)
 ·have hF := zV c471 hF
  refine zD fun K472 hK472 => ?_
  refine zC ?_
  refine zA rfl rfl (zK (v := .func (.func 102) #[] #[]) rfl) ?_
  refine zA rfl rfl (fa54_5 rfl) ?_
  refine zA rfl rfl (zL one3 rfl (Cells.get (Blk.cells (H.item (i := 2) rfl)) (i := 5) rfl)) ?_
  have H473 := H
  obtain ⟨x474, e475, hF⟩ := zI hF
  refine yA rfl rfl (wH en102 rfl rfl) (E.X_Itoa_w p0.Frames _ e475 _ _ _ (H.enter [] [] (by decide) rfl)) ?_
  rintro _ w476 ⟨rfl, G477⟩
  have H := H473.step (G477.only : Only [] _ _)
  refine ⟨_, rfl, ?_⟩
  obtain ⟨x478, e479, hF⟩ := zI hF
  refine zA rfl rfl (xR (s1 := [119, 105, 116, 104, 105, 110, 32]) (s2 := x474) rfl rfl e479) ?_
  obtain ⟨x480, e481, hF⟩ := zI hF
  refine zA rfl rfl (xR (s1 := x478) (s2 := [32]) rfl rfl e481) ?_
  refine zA rfl rfl (zK (v := .func (.func 103) #[] #[.pointer (some ⟨b5, 0, none⟩)]) rfl) ?_
  obtain ⟨x482, e483, hF⟩ := zI hF
  refine yA rfl rfl (wH en103 rfl rfl) (F_event_condText_1_w rfG rhG p0 b5 v1 _ e483 _ _ _ (H.enter [2] [0, 1] (by decide) rfl)) ?_
  rintro _ w484 ⟨rfl, G485⟩
  have H : Hd O _ w484 _ [.fz (.sl rCond v1 p0.Kids), .fz (.at 0 0 ((Fl.arr 7 Fl.str).f zO)), .blk b5 [.int .i64 p0.Kind, .string (bs p0.Name), .string (bs p0.Other), .int .i64 p0.Op, .int .i64 p0.N, .int .i64 p0.Frames, v1] 54] := H.back [2] [0, 1] rfl G485
  refine ⟨_, rfl, ?_⟩
  obtain ⟨x486, e487, hF⟩ := zI hF
  refine zA rfl rfl (xR (s1 := x480) (s2 := x482) rfl rfl e487) ?_
  refine zA rfl rfl (zG (v := .string (bs x486)) rfl) ?_
  refine (zJ (zB (hK472 _ _ ?_)))
  have hR := Option.some.inj hF
  subst hR
  refine (yG (yJ (yC (post1 (v1 := .string (bs x486)) rfl rfl ?_))))
  exact ⟨rfl, H.pick [] (by decide)⟩
 have hF := zW c471 hF
 refine zD fun K488 hK488 => ?_
 refine zC ?_
 obtain ⟨x489, e490, hF⟩ := zF hF
 refine zA rfl rfl (zM (xC (a := p0.Kind) (b := 13) rfl rfl) (congrArg Value.bool e490)) ?_
 refine zA rfl rfl (zG (v := .bool x489) rfl) ?_
 refine (zJ (zB (hK488 _ _ ?_)))
 refine yH (b := x489) rfl (fun c491 => ?_) (fun c491 => ?_)
 ·have hF := zV c491 hF
  refine zD fun K492 hK492 => ?_
  have H := H.freezeB (i := 2) rfl
  have H493 := H
  have H := H.rebase
  have H494 := H
  have h495 := H.firm (i := 2) rfl
  refine WP_mix H [0, 1, 2, 6, 7, 8, 12, 3, 4, 5, 9, 10, 11, 13, 14, 15] [.pure, .pure, .read, .eff, .pure, .pure, .pure, .pure, .pure, .eff, .pure, .pure, .pure, .eff, .pure, .pure] mixed (by kernel_rfl) (by kernel_rfl) (by kernel_rfl) (by decide) ?_
  refine Mx.yB rfl rfl rfl (fun w' hw' => zK (v := .func (.func 102) #[] #[]) rfl) ?_
  refine Mx.yB rfl rfl rfl (fun w' hw' => fa54_4 rfl) ?_
  refine Mx.xK oS rfl rfl rfl (fun w' hw' => zL one3 rfl (Cells.get ((H.sees hw').item (i := 2) rfl).2.2 (i := 4) rfl)) ?_
  refine Mx.yB rfl rfl rfl (fun w' hw' => zK (v := .func (.func 102) #[] #[]) rfl) ?_
  refine Mx.yB rfl rfl rfl (fun w' hw' => fa54_5 rfl) ?_
  refine Mx.yB rfl rfl rfl (fun w' hw' => zL one3 rfl (Cells.get (h495 w' hw').2.2 (i := 5) rfl)) ?_
  refine Mx.yB rfl rfl rfl (fun w' hw' => zK (v := .func (.func 103) #[] #[.pointer (some ⟨b5, 0, none⟩)]) rfl) ?_
  have H496 := H
  obtain ⟨x497, e498, hF⟩ := zI hF
  refine Mx.XL_effC oS rfl rfl rfl (fun w' hw' => wH en102 rfl rfl) (fun w' hw' => E.X_Itoa_w p0.N _ e498 _ _ _ ((H.sees hw').enter [] [] (by decide) rfl)) ?_
  rintro w' _ w499 hw' ⟨rfl, G500⟩
  have H := (H496.sees hw').step (G500.only : Only [] _ _)
  refine ⟨_, rfl, H.only, ?_⟩
  obtain ⟨x501, e502, hF⟩ := zI hF
  refine Mx.yB rfl rfl rfl (fun w' hw' => xR (s1 := [99, 111, 117, 110, 116, 32]) (s2 := x497) rfl rfl e502) ?_
  obtain ⟨x503, e504, hF⟩ := zI hF
  refine Mx.yB rfl rfl rfl (fun w' hw' => xR (s1 := x501) (s2 := [32, 111, 102, 32]) rfl rfl e504) ?_
  have H505 := H
  obtain ⟨x506, e507, hF⟩ := zI hF
  refine Mx.XL_effC oS rfl rfl rfl (fun w' hw' => wH en102 rfl rfl) (fun w' hw' => E.X_Itoa_w p0.Frames _ e507 _ _ _ ((H.sees hw').enter [] [] (by decide) rfl)) ?_
  rintro w' _ w508 hw' ⟨rfl, G509⟩
  have H := (H505.sees hw').step (G509.only : Only [] _ _)
  refine ⟨_, rfl, H.only, ?_⟩
  obtain ⟨x510, e511, hF⟩ := zI hF
  refine Mx.yB rfl rfl rfl (fun w' hw' => xR (s1 := x503) (s2 := x506) rfl rfl e511) ?_
  obtain ⟨x512, e513, hF⟩ := zI hF
  refine Mx.yB rfl rfl rfl (fun w' hw' => xR (s1 := x510) (s2 := [32]) rfl rfl e513) ?_
  obtain ⟨x514, e515, hF⟩ := zI hF
  refine Mx.XL_effC oS rfl rfl rfl (fun w' hw' => wH en103 rfl rfl) (fun w' hw' => F_event_condText_1_z_w rfG rhG p0 b5 v1 _ e515 _ _ _ ((H.sees hw').enter [] [0, 2, 1] (by decide) rfl)) ?_
  rintro w' _ w516 hw' ⟨rfl, G517⟩
  have H := (H.sees hw').back0 [0, 2, 1] rfl G517
  refine ⟨_, rfl, H.only, ?_⟩
  obtain ⟨x518, e519, hF⟩ := zI hF
  refine Mx.yB rfl rfl rfl (fun w' hw' => xR (s1 := x512) (s2 := x514) rfl rfl e519) ?_
  refine Mx.yB rfl rfl rfl (fun w' hw' => zG (v := .string (bs x518)) rfl) ?_
  refine Mx.XL_nil fun w520 hS => ?_
  have H := H.sees hS
  have H := H493.rejoin H
  refine (zB (hK492 _ _ ?_))
  have hR := Option.some.inj hF
  subst hR
  refine (yG (yJ (yC (post1 (v1 := .string (bs x518)) rfl rfl ?_))))
  exact ⟨rfl, H.pick [] (by decide)⟩
 have hF := zW c491 hF
 refine zD fun K521 hK521 => ?_
 refine zC ?_
 obtain ⟨x522, e523, hF⟩ := zF hF
 refine zA rfl rfl (zM (xC (a := p0.Kind) (b := 15) rfl rfl) (congrArg Value.bool e523)) ?_
 refine zA rfl rfl (zG (v := .bool x522) rfl) ?_
 refine (zJ (zB (hK521 _ _ ?_)))
 refine yH (b := x522) rfl (fun c524 => ?_) (fun c524 => ?_)
 ·have hF := zV c524 hF
  refine zD fun K525 hK525 => ?_
  refine zC ?_
  refine zA rfl rfl (zK (v := .func (.func 103) #[] #[.pointer (some ⟨b5, 0, none⟩)]) rfl) ?_
  obtain ⟨x526, e527, hF⟩ := zI hF
  refine yA rfl rfl (wH en103 rfl rfl) (F_event_condText_1_w rfG rhG p0 b5 v1 _ e527 _ _ _ (H.enter [2] [0, 1] (by decide) rfl)) ?_
  rintro _ w528 ⟨rfl, G529⟩
  have H : Hd O _ w528 _ [.fz (.sl rCond v1 p0.Kids), .fz (.at 0 0 ((Fl.arr 7 Fl.str).f zO)), .blk b5 [.int .i64 p0.Kind, .string (bs p0.Name), .string (bs p0.Other), .int .i64 p0.Op, .int .i64 p0.N, .int .i64 p0.Frames, v1] 54] := H.back [2] [0, 1] rfl G529
  refine ⟨_, rfl, ?_⟩
  obtain ⟨x530, e531, hF⟩ := zI hF
  refine zA rfl rfl (xR (s1 := [114, 105, 115, 101, 115, 32]) (s2 := x526) rfl rfl e531) ?_
  refine zA rfl rfl (zG (v := .string (bs x530)) rfl) ?_
  refine (zJ (zB (hK525 _ _ ?_)))
  have hR := Option.some.inj hF
  subst hR
  refine (yG (yJ (yC (post1 (v1 := .string (bs x530)) rfl rfl ?_))))
  exact ⟨rfl, H.pick [] (by decide)⟩
 have hF := zW c524 hF
 refine (yI (yX (zB (hK252 _ _ ?_))))
 refine zD fun K532 hK532 => ?_
 have H533 := H
 have H := H.rebase
 have H534 := H
 refine WP_mix0 H [0, 1, 2, 3, 4, 5, 6, 7, 8, 9, 10, 11, 12, 13] [.pure, .read, .pure, .read, .read, .pure, .pure, .pure, .read, .pure, .read, .read, .pure, .pure] mixed (by kernel_rfl) (by kernel_rfl) (by kernel_rfl) rfl ?_
 refine Mx.yB rfl rfl rfl (fun w' hw' => wB rfl) ?_
 refine Mx.xK oS rfl rfl rfl (fun w' hw' => zL one52 rfl (Cells.get (Blk.cells ((H.sees hw').item (i := 2) rfl)) (i := 6) rfl)) ?_
 obtain ⟨x535, e536, hF⟩ := zI hF
 obtain ⟨b537, o538, c539, cs540, q541, h544, h542, h543, h545⟩ := rd_at (H.item (i := 0) rfl) e536
 obtain ⟨v546, rfl, h547⟩ := rCond_open h544
 have H := H.fzs [.at b537 (o538 + (0 : Int).toNat * 7) _, .sl rCond v546 x535.Kids] ⟨⟨h542, h543, h545⟩, h547, trivial⟩
 refine Mx.yB rfl rfl rfl (fun w' hw' => xY u52 sz54 q541 rfl (yP e536).1 (yP e536).2.1 rfl rfl) ?_
 refine Mx.xK oS rfl rfl rfl (fun w' hw' => zM (yT (cs := [.int .i64 x535.Kind, .string (bs x535.Name), .string (bs x535.Other), .int .i64 x535.Op, .int .i64 x535.N, .int .i64 x535.Frames, v546]) agg54 rfl sz54 rfl ((H.sees hw').item (i := 3) rfl).2.2) rfl) ?_
 have H550 := H
 obtain ⟨x551, e552, hF⟩ := zI hF
 refine Mx.XL_call oS rfl rfl rfl (v := .string (bs x551)) (fun w' hw' => zX en51 rfl) (fun w' hw' => call_read (rhG x535 3 v546 _ e552 _ _ _ ((H.sees hw').enter [] [4, 1] (by decide) rfl))) ?_
 have H := H550
 obtain ⟨x553, e554, hF⟩ := zI hF
 refine Mx.yB rfl rfl rfl (fun w' hw' => xR (s1 := [115, 105, 110, 99, 101, 32]) (s2 := x551) rfl rfl e554) ?_
 obtain ⟨x555, e556, hF⟩ := zI hF
 refine Mx.yB rfl rfl rfl (fun w' hw' => xR (s1 := x553) (s2 := [32]) rfl rfl e556) ?_
 refine Mx.yB rfl rfl rfl (fun w' hw' => wB rfl) ?_
 refine Mx.xK oS rfl rfl rfl (fun w' hw' => zL one52 rfl (Cells.get (Blk.cells ((H.sees hw').item (i := 2) rfl)) (i := 6) rfl)) ?_
 obtain ⟨x557, e558, hF⟩ := zI hF
 obtain ⟨b559, o560, c561, cs562, q563, h566, h564, h565, h567⟩ := rd_at (H.item (i := 0) rfl) e558
 obtain ⟨v568, rfl, h569⟩ := rCond_open h566
 have H := H.fzs [.at b559 (o560 + (1 : Int).toNat * 7) _, .sl rCond v568 x557.Kids] ⟨⟨h564, h565, h567⟩, h569, trivial⟩
 refine Mx.yB rfl rfl rfl (fun w' hw' => xY u52 sz54 q563 rfl (yP e558).1 (yP e558).2.1 rfl rfl) ?_
 refine Mx.xK oS rfl rfl rfl (fun w' hw' => zM (yT (cs := [.int .i64 x557.Kind, .string (bs x557.Name), .string (bs x557.Other), .int .i64 x557.Op, .int .i64 x557.N, .int .i64 x557.Frames, v568]) agg54 rfl sz54 rfl ((H.sees hw').item (i := 5) rfl).2.2) rfl) ?_
 have H572 := H
 obtain ⟨x573, e574, hF⟩ := zI hF
 refine Mx.XL_call oS rfl rfl rfl (v := .string (bs x573)) (fun w' hw' => zX en51 rfl) (fun w' hw' => call_read (rhG x557 3 v568 _ e574 _ _ _ ((H.sees hw').enter [] [6, 1] (by decide) rfl))) ?_
 have H := H572
 obtain ⟨x575, e576, hF⟩ := zI hF
 refine Mx.yB rfl rfl rfl (fun w' hw' => xR (s1 := x555) (s2 := x573) rfl rfl e576) ?_
 refine Mx.yB rfl rfl rfl (fun w' hw' => zG (v := .string (bs x575)) rfl) ?_
 refine Mx.XL_nil fun w577 hS => ?_
 have H := H.sees hS
 have H := H533.rejoin H
 refine (zB (hK532 _ _ ?_))
 have hR := Option.some.inj hF
 subst hR
 refine (yG (post1 (v1 := .string (bs x575)) rfl rfl ?_))
 exact ⟨rfl, H.pick [] (by decide)⟩
theorem F_event_condText_s : S_event_condText (F_event_condText) := by
 have h : ∀ n, S_event_condText (F_event_condText_R n) := by
  intro n
  induction n with
  | zero => intro p0 p1 v1 r hF; cases hF
  | succ n ih => intro p0 p1 v1 r hF; exact F_event_condText_B_w (F_event_condText_R n) ih p0 p1 v1 r hF
 exact h FU
end Go.Proofs.YtnajnkghilemhaaGreatDoor.L
namespace Go.Proofs.YtnajnkghilemhaaGreatDoor.L
open Go.RowKit Go.OB Go.Lf
/- (*strings.Builder).Len -/
set_option maxHeartbeats 4000000 in
theorem F_strings_Builder_Len_w (p0 : List Int) (b1 : Nat) (v2 : Value) (v3 : Value) (r : Int × (List Int)) (hF : F_strings_Builder_Len p0 = some r) (O S : List Nat) (w : World) (H : Hd O w w S [.own (Rp.int .u8) v3 5 p0, .blk b1 [v2, v3] 111, .fz (.oq v2 b1)]) :
  Calls Tryz.prog 52 ([.pointer (some ⟨b1, 0, none⟩)] : List Value).toArray w fun e w' => ∃ u7 u8, e = .returned (.int .i64 r.1) ∧ Hd O w w' S [.fz (.oq u7 b1), .own (Rp.int .u8) u8 5 r.2, .blk b1 [u7, u8] 111] := by
 unfold F_strings_Builder_Len at hF
 refine yD 8 Tryz.func52 rfl rfl rfl ?_
 refine zD fun K9 hK9 => ?_
 refine zC ?_
 refine zA rfl rfl (zG (v := .int .i64 0) rfl) ?_
 refine (zJ (zB (hK9 _ _ ?_)))
 refine zD fun K10 hK10 => ?_
 refine zC ?_
 refine zA rfl rfl (zK (v := .pointer (some ⟨b1, 0, none⟩)) rfl) ?_
 refine zA rfl rfl (yK rfl) ?_
 refine zA rfl rfl (fa111_1 rfl) ?_
 refine zA rfl rfl (zL one77 rfl (Cells.get (Blk.cells (H.item (i := 1) rfl)) (i := 1) rfl)) ?_
 obtain ⟨x11, e12, hF⟩ := zF hF
 obtain ⟨a13, c14, q15⟩ := Sr.len (Sr.of_own (H.item (i := 0) rfl))
 refine zA rfl rfl (zM (xA u77 q15) (congrArg (Value.int .i64) e12)) ?_
 refine zA rfl rfl (zG (v := .int .i64 x11) rfl) ?_
 refine (zJ (zB (hK10 _ _ ?_)))
 have hR := Option.some.inj hF
 subst hR
 refine (yG (post1 (v1 := .int .i64 x11) rfl rfl ?_))
 exact ⟨v2, v3, rfl, H.pick [2, 0, 1] (by decide)⟩
end Go.Proofs.YtnajnkghilemhaaGreatDoor.L
namespace Go.Proofs.YtnajnkghilemhaaGreatDoor.L
open Go.RowKit Go.OB Go.Lf
/- orangebox/event.Print -/
set_option maxHeartbeats 4000000 in
set_option maxRecDepth 100000 in
theorem F_event_Print_w (p0 : Rules) (v1 : Value) (v2 : Value) (v3 : Value) (r : Str × Int) (hF : F_event_Print p0 = some r) (O S : List Nat) (w : World) (H : Hd O w w S [.fz (.sl Rp.str v1 p0.Phases), .fz (.sl rMoveT v2 p0.Moves), .fz (.sl rRule v3 p0.Rules), .fz (.at 0 0 ((Fl.arr 7 Fl.str).f zO))]) :
  Calls Tryz.prog 16 ([.agg [v1, v2, v3].toArray] : List Value).toArray w fun e w' => e = .returned (.tuple #[.string (bs r.1), .int .i64 r.2]) ∧ Hd O w w' S [] := by
 unfold F_event_Print at hF
 refine yD 72 Tryz.func16 rfl rfl rfl ?_
 refine zD fun K8 hK8 => ?_
 refine zC ?_
 refine yY rfl rfl (Lx_box (cs := [v1, v2, v3]) rfl H) ?_
 rintro _ w11 ⟨b9, rfl, H⟩
 refine zA rfl rfl (zG (v := .string (bs [])) rfl) ?_
 refine zA rfl rfl (zG (v := .int .i64 0) rfl) ?_
 refine (zJ (zB (hK8 _ _ ?_)))
 refine zD fun K23 hK23 => ?_
 refine zD fun K24 hK24 => ?_
 refine zC ?_
 refine zA rfl rfl (zM (yT (cs := [v1, v2, v3]) agg26 rfl sz26 rfl (Blk.cells (H.item (i := 4) rfl))) rfl) ?_
 have H25 := H
 obtain ⟨x26, e27, hF⟩ := zI hF
 refine yA rfl rfl (zX en40 rfl) (F_event_Check_w p0 v1 v2 v3 _ e27 _ _ _ (H.enter [] [0, 1, 2] (by decide) rfl)) ?_
 rintro _ w28 ⟨rfl, G29⟩
 have H := H25.step (G29.only : Only [] _ _)
 refine ⟨_, rfl, ?_⟩
 refine zA rfl rfl (zG (v := .int .i64 x26) rfl) ?_
 refine (zJ (zB (hK24 _ _ ?_)))
 refine zD fun K30 hK30 => ?_
 refine zC ?_
 refine zA rfl rfl (zK (v := .int .i64 x26) rfl) ?_
 obtain ⟨x31, e32, hF⟩ := zF hF
 refine zA rfl rfl (zM (xO (a := x26) (b := 0) rfl rfl) (congrArg Value.bool e32)) ?_
 refine (zJ (zB (hK30 _ _ ?_)))
 refine yH (b := x31) rfl (fun c33 => ?_) (fun c33 => ?_)
 ·have hF := zV c33 hF
  refine zD fun K34 hK34 => ?_
  refine zC ?_
  refine zA rfl rfl (zK (v := .int .i64 x26) rfl) ?_
  refine zA rfl rfl (zG (v := .string (bs [])) rfl) ?_
  refine zA rfl rfl (zG (v := .int .i64 x26) rfl) ?_
  refine (zJ (zB (hK34 _ _ ?_)))
  have hR := Option.some.inj hF
  subst hR
  refine (yG (yC (post2 (v1 := .string (bs [])) (v2 := .int .i64 x26) rfl rfl rfl ?_)))
  exact ⟨rfl, H.pick [] (by decide)⟩
 have hF := zW c33 hF
 refine (yI (zB (hK23 _ _ ?_)))
 refine zD fun K35 hK35 => ?_
 refine zC ?_
 refine yY rfl rfl (xJ zero111 H) ?_
 rintro _ w38 ⟨b36, rfl, H⟩
 refine (zJ (zB (hK35 _ _ ?_)))
 obtain ⟨g192, hF, hK195⟩ := zI hF
 refine yQ [7, 17, 18, 19, 20, 21, 22, 23, 24, 25, 26, 27, 28] (fun (g : Value × Value) => []) (fun g wl => Hd O w wl S [.fz (.sl Rp.str v1 p0.Phases), .fz (.sl rMoveT v2 p0.Moves), .fz (.sl rRule v3 p0.Rules), .fz (.at 0 0 ((Fl.arr 7 Fl.str).f zO)), .blk b9 [v1, v2, v3] 26, .blk b36 [g.1, g.2] 111, .fz (.oq g.1 b36), .own (Rp.int .u8) g.2 5 g192]) ?_ ?_
 ·skip
  refine zD fun K196 hK196 => ?_
  refine zC ?_
  refine zA rfl rfl (fa26_0 rfl) ?_
  refine zA rfl rfl (zL one22 rfl (Cells.get (Blk.cells (H.item (i := 4) rfl)) (i := 0) rfl)) ?_
  obtain ⟨x197, e198, hF⟩ := zF hF
  obtain ⟨a199, c200, q201⟩ := SlF.len ((H.item (i := 0) rfl))
  refine zA rfl rfl (zM (xA u22 q201) (congrArg (Value.int .i64) e198)) ?_
  refine zA rfl rfl (zK (v := .int .i64 0) rfl) ?_
  refine (zJ (zB (hK196 _ _ ?_)))
  refine yM ?_
  have H := H.fz (.oq (.pointer none) b36) (.inl rfl)
  have H := own_nil H (Rp.int .u8) 5
  unfold F_event_Print_L1 at hF
  obtain ⟨B346, n347, eB348, hF⟩ := yZ hF
  refine xN [7, 20, 21, 22, 23, 24, 25, 26, 27, 28] (fun (g : Nat × Int × (List Int) × Value × Value) => [(20, .int .i64 g.2.1)]) (fun g wl => Hd O w wl S [.fz (.sl Rp.str v1 p0.Phases), .fz (.sl rMoveT v2 p0.Moves), .fz (.sl rRule v3 p0.Rules), .fz (.at 0 0 ((Fl.arr 7 Fl.str).f zO)), .blk b9 [v1, v2, v3] 26, .blk b36 [g.2.2.2.1, g.2.2.2.2] 111, .fz (.oq g.2.2.2.1 b36), .own (Rp.int .u8) g.2.2.2.2 5 g.2.2.1] ∧ loopN B346 g.1 (g.2.1, g.2.2.1) = some g192) (fun g => g.1) (n347, 0, [], .pointer none, .slice none 0 0) (zQ rfl zU) ⟨H.pick [0, 1, 2, 3, 4, 5, 6, 7] (by decide), hF⟩ ?_
  clear H hF
  rintro ⟨n347, g338, g342, v339, v343⟩ ρ w350 ⟨H, hF⟩
  obtain ⟨n351, rfl, hF⟩ := xH hF
  have hF := xG eB348 hF
  refine zD fun K352 hK352 => ?_
  refine zC ?_
  obtain ⟨x353, e354, hF⟩ := zF hF
  refine zA rfl rfl (zM (xZ (a := g338) (b := x197) rfl rfl) (congrArg Value.bool e354)) ?_
  refine (zJ (zB (hK352 _ _ ?_)))
  refine zD fun K356 hK356 => ?_
  refine yH (b := x353) rfl (fun c357 => ?_) (fun c357 => ?_)
  ·have hF := zV c357 hF
   refine (yI (zB (hK356 _ _ ?_)))
   refine zD fun K385 hK385 => ?_
   refine yM ?_
   refine zD fun K386 hK386 => ?_
   refine zC ?_
   obtain ⟨x387, e388, hF⟩ := zI hF
   obtain ⟨b389, o390, c391, cs392, q393, h396, h394, h395, h397⟩ := rd_at (H.item (i := 0) rfl) e388
   obtain rfl : cs392 = [.string (bs x387)] := h396
   have H := H.fz (.at b389 (o390 + g338.toNat * 1) _) ⟨h394, h395, h397⟩
   refine zA rfl rfl (xY u22 sz9 q393 rfl (yP e388).1 (yP e388).2.1 rfl rfl) ?_
   refine zA rfl rfl (zL one9 rfl (Cells.get (H.item (i := 8) rfl).2.2 (i := 0) rfl)) ?_
   refine zA rfl rfl (zG (v := .string (bs x387)) rfl) ?_
   refine (zJ (zB (hK386 _ _ ?_)))
   refine zC ?_
   refine zA rfl rfl (zK (v := .string (bs x387)) rfl) ?_
   obtain ⟨x399, e400, hF⟩ := zI hF
   refine zA rfl rfl (xR (s1 := [112, 104, 97, 115, 101, 32]) (s2 := x387) rfl rfl e400) ?_
   obtain ⟨x401, e402, hF⟩ := zI hF
   refine zA rfl rfl (xR (s1 := x399) (s2 := [10]) rfl rfl e402) ?_
   obtain ⟨⟨x403, x404, x405⟩, e406, hF⟩ := zI hF
   refine yA rfl rfl (zX en50 rfl) (F_strings_Builder_WriteString_w g342 x401 b36 v339 v343 _ e406 _ _ _ (H.enter [7, 5] [6] (by decide) rfl)) ?_
   rintro _ w411 ⟨v407, v408, rfl, G412⟩
   have H : Hd O _ w411 _ [.fz (.sl Rp.str v1 p0.Phases), .fz (.sl rMoveT v2 p0.Moves), .fz (.sl rRule v3 p0.Rules), .fz (.at 0 0 ((Fl.arr 7 Fl.str).f zO)), .blk b9 [v1, v2, v3] 26, .fz (.oq v339 b36), .fz (.at b389 (o390 + g338.toNat * 1) [.string (bs x387)]), .fz (.oq v407 b36), .own (Rp.int .u8) v408 5 x405, .blk b36 [v407, v408] 111] := H.back [7, 5] [6] rfl G412
   refine ⟨_, rfl, ?_⟩
   refine (zJ (yX (zB (hK385 _ _ ?_))))
   refine zC ?_
   obtain ⟨x413, e414, hF⟩ := zF hF
   refine zA rfl rfl (wE (a := g338) (b := 1) rfl rfl e414) ?_
   refine zA rfl rfl (zK (v := .int .i64 x413) rfl) ?_
   refine (zJ (zB (And.intro ?_ ?_)))
   ·repeat' (first | with_reducible exact zS | refine zZ rfl ?_ | refine zT rfl rfl ?_)
   exact ⟨(n351, x413, x405, v407, v408), (zQ rfl zU), ⟨H.pick [0, 1, 2, 3, 4, 9, 7, 8] (by decide), hF⟩, Nat.lt_succ_self _⟩
  have hF := zW c357 hF
  have hR := Option.some.inj hF
  subst hR
  refine (xW (yU (yU (xE (zB (And.intro ?_ ?_))))))
  ·repeat' (first | with_reducible exact zS | refine zZ rfl ?_ | refine zT rfl rfl ?_)
  exact ⟨(v339, v343), zU, H.pick [0, 1, 2, 3, 4, 5, 6, 7] (by decide)⟩
 rintro ⟨v189, v193⟩ ρ w194 H
 have hF := hK195
 obtain ⟨g651, hF, hK654⟩ := zI hF
 refine yQ [9, 29, 30, 31, 32, 33, 34, 35, 36, 37, 38, 39, 40, 41, 42, 43, 44, 45, 46, 47, 48, 49, 50] (fun (g : Value × Value) => []) (fun g wl => Hd O w wl S [.fz (.sl Rp.str v1 p0.Phases), .fz (.sl rMoveT v2 p0.Moves), .fz (.sl rRule v3 p0.Rules), .fz (.at 0 0 ((Fl.arr 7 Fl.str).f zO)), .blk b9 [v1, v2, v3] 26, .blk b36 [g.1, g.2] 111, .fz (.oq g.1 b36), .own (Rp.int .u8) g.2 5 g651, .fz (.oq v189 b36)]) ?_ ?_
 ·skip
  refine zD fun K655 hK655 => ?_
  refine zC ?_
  refine zA rfl rfl (fa26_1 rfl) ?_
  refine zA rfl rfl (zL one23 rfl (Cells.get (Blk.cells (H.item (i := 4) rfl)) (i := 1) rfl)) ?_
  obtain ⟨x656, e657, hF⟩ := zF hF
  obtain ⟨a658, c659, q660⟩ := SlF.len ((H.item (i := 1) rfl))
  refine zA rfl rfl (zM (xA u23 q660) (congrArg (Value.int .i64) e657)) ?_
  refine zA rfl rfl (zK (v := .int .i64 0) rfl) ?_
  refine (zJ (zB (hK655 _ _ ?_)))
  refine yM ?_
  have H := H.fz (.oq v189 b36) (H.item (i := 6) rfl)
  unfold F_event_Print_L2 at hF
  obtain ⟨B888, n889, eB890, hF⟩ := yZ hF
  refine xN [9, 32, 33, 34, 35, 36, 37, 38, 39, 40, 41, 42, 43, 44, 45, 46, 47, 48, 49, 50] (fun (g : Nat × Int × (List Int) × Value × Value) => [(32, .int .i64 g.2.1)]) (fun g wl => Hd O w wl S [.fz (.sl Rp.str v1 p0.Phases), .fz (.sl rMoveT v2 p0.Moves), .fz (.sl rRule v3 p0.Rules), .fz (.at 0 0 ((Fl.arr 7 Fl.str).f zO)), .blk b9 [v1, v2, v3] 26, .blk b36 [g.2.2.2.1, g.2.2.2.2] 111, .fz (.oq g.2.2.2.1 b36), .own (Rp.int .u8) g.2.2.2.2 5 g.2.2.1, .fz (.oq v189 b36)] ∧ loopN B888 g.1 (g.2.1, g.2.2.1) = some g651) (fun g => g.1) (n889, 0, g192, v189, v193) (zQ rfl zU) ⟨H.pick [0, 1, 2, 3, 4, 5, 6, 7, 8] (by decide), hF⟩ ?_
  clear H hF
  rintro ⟨n889, g881, g885, v882, v886⟩ ρ w892 ⟨H, hF⟩
  obtain ⟨n893, rfl, hF⟩ := xH hF
  have hF := xG eB890 hF
  refine zD fun K894 hK894 => ?_
  refine zC ?_
  obtain ⟨x895, e896, hF⟩ := zF hF
  refine zA rfl rfl (zM (xZ (a := g881) (b := x656) rfl rfl) (congrArg Value.bool e896)) ?_
  refine (zJ (zB (hK894 _ _ ?_)))
  refine zD fun K898 hK898 => ?_
  refine yH (b := x895) rfl (fun c899 => ?_) (fun c899 => ?_)
  ·have hF := zV c899 hF
   refine (yI (zB (hK898 _ _ ?_)))
   refine zD fun K949 hK949 => ?_
   refine yM ?_
   refine zD fun K950 hK950 => ?_
   refine zC ?_
   obtain ⟨x951, e952, hF⟩ := zI hF
   obtain ⟨b953, o954, c955, cs956, q957, h960, h958, h959, h961⟩ := rd_at (H.item (i := 1) rfl) e952
   obtain ⟨v962, rfl, h963⟩ := rMoveT_open h960
   have H := H.fzs [.at b953 (o954 + g881.toNat * 9) _, .sl rCond v962 x951.When.Kids] ⟨⟨h958, h959, h961⟩, h963, trivial⟩
   refine zA rfl rfl (xY u23 sz102 q957 rfl (yP e952).1 (yP e952).2.1 rfl rfl) ?_
   refine zA rfl rfl (zM (yT (cs := [.string (bs x951.From), .string (bs x951.To), .int .i64 x951.When.Kind, .string (bs x951.When.Name), .string (bs x951.When.Other), .int .i64 x951.When.Op, .int .i64 x951.When.N, .int .i64 x951.When.Frames, v962]) agg102 rfl sz102 rfl (H.item (i := 9) rfl).2.2) rfl) ?_
   refine yY rfl rfl (xJ zero102 H) ?_
   rintro _ w968 ⟨b966, rfl, H⟩
   refine yV rfl (yN (vs := [.string (bs x951.From), .string (bs x951.To), .int .i64 x951.When.Kind, .string (bs x951.When.Name), .string (bs x951.When.Other), .int .i64 x951.When.Op, .int .i64 x951.When.N, .int .i64 x951.When.Frames, v962]) H 11 rfl sz102 rfl rfl rfl ⟨rfl, rfl, rfl, rfl, rfl, rfl, rfl, rfl, (slf_one (H.item (i := 10) rfl)), trivial⟩ rfl) ?_
   rintro w969 H
   refine (zJ (zB (hK950 _ _ ?_)))
   have H := H.freezeB (i := 11) rfl
   have H970 := H
   have H := H.rebase
   have H971 := H
   have h972 := H.firm (i := 11) rfl
   refine WP_mix0 H [0, 1, 2, 3, 4, 5, 6, 7, 8, 9, 10, 11, 12, 13] [.pure, .pure, .pure, .pure, .pure, .read, .pure, .pure, .pure, .read, .read, .pure, .pure, .eff] mixed (by kernel_rfl) (by kernel_rfl) (by kernel_rfl) rfl ?_
   refine Mx.yB rfl rfl rfl (fun w' hw' => fa102_0 rfl) ?_
   refine Mx.yB rfl rfl rfl (fun w' hw' => zL one9 rfl (Cells.get (h972 w' hw').2.2 (i := 0) rfl)) ?_
   obtain ⟨x973, e974, hF⟩ := zI hF
   refine Mx.yB rfl rfl rfl (fun w' hw' => xR (s1 := [109, 111, 118, 101, 32]) (s2 := x951.From) rfl rfl e974) ?_
   obtain ⟨x975, e976, hF⟩ := zI hF
   refine Mx.yB rfl rfl rfl (fun w' hw' => xR (s1 := x973) (s2 := [32]) rfl rfl e976) ?_
   refine Mx.yB rfl rfl rfl (fun w' hw' => fa102_1 rfl) ?_
   refine Mx.xK oS rfl rfl rfl (fun w' hw' => zL one9 rfl (Cells.get ((H.sees hw').item (i := 11) rfl).2.2 (i := 1) rfl)) ?_
   obtain ⟨x977, e978, hF⟩ := zI hF
   refine Mx.yB rfl rfl rfl (fun w' hw' => xR (s1 := x975) (s2 := x951.To) rfl rfl e978) ?_
   obtain ⟨x979, e980, hF⟩ := zI hF
   refine Mx.yB rfl rfl rfl (fun w' hw' => xR (s1 := x977) (s2 := [32, 105, 102, 32]) rfl rfl e980) ?_
   refine Mx.yB rfl rfl rfl (fun w' hw' => fa102_2 rfl) ?_
   refine Mx.xK oS rfl rfl rfl (fun w' hw' => zM (yT (cs := [.int .i64 x951.When.Kind, .string (bs x951.When.Name), .string (bs x951.When.Other), .int .i64 x951.When.Op, .int .i64 x951.When.N, .int .i64 x951.When.Frames, v962]) agg54 rfl sz54 rfl (Cells.drop ((H.sees hw').item (i := 11) rfl).2.2 2 7)) rfl) ?_
   have H981 := H
   obtain ⟨x982, e983, hF⟩ := zI hF
   refine Mx.XL_call oS rfl rfl rfl (v := .string (bs x982)) (fun w' hw' => zX en51 rfl) (fun w' hw' => call_read (F_event_condText_s x951.When 0 v962 _ e983 _ _ _ ((H.sees hw').enter [] [10, 3] (by decide) rfl))) ?_
   have H := H981
   obtain ⟨x984, e985, hF⟩ := zI hF
   refine Mx.yB rfl rfl rfl (fun w' hw' => xR (s1 := x979) (s2 := x982) rfl rfl e985) ?_
   obtain ⟨x986, e987, hF⟩ := zI hF
   refine Mx.yB rfl rfl rfl (fun w' hw' => xR (s1 := x984) (s2 := [10]) rfl rfl e987) ?_
   obtain ⟨⟨x988, x989, x990⟩, e991, hF⟩ := zI hF
   refine Mx.XL_effC oS rfl rfl rfl (fun w' hw' => zX en50 rfl) (fun w' hw' => F_strings_Builder_WriteString_w g885 x986 b36 v882 v886 _ e991 _ _ _ ((H.sees hw').enter [7, 5] [6] (by decide) rfl)) ?_
   rintro w' _ w996 hw' ⟨v992, v993, rfl, G997⟩
   have H : Hd O _ w996 _ [.fz (.sl Rp.str v1 p0.Phases), .fz (.sl rMoveT v2 p0.Moves), .fz (.sl rRule v3 p0.Rules), .fz (.at 0 0 ((Fl.arr 7 Fl.str).f zO)), .blk b9 [v1, v2, v3] 26, .fz (.oq v882 b36), .fz (.oq v189 b36), .fz (.at b953 (o954 + g881.toNat * 9) [.string (bs x951.From), .string (bs x951.To), .int .i64 x951.When.Kind, .string (bs x951.When.Name), .string (bs x951.When.Other), .int .i64 x951.When.Op, .int .i64 x951.When.N, .int .i64 x951.When.Frames, v962]), .fz (.sl rCond v962 x951.When.Kids), .fz (.at b966 0 [.string (bs x951.From), .string (bs x951.To), .int .i64 x951.When.Kind, .string (bs x951.When.Name), .string (bs x951.When.Other), .int .i64 x951.When.Op, .int .i64 x951.When.N, .int .i64 x951.When.Frames, v962]), .fz (.oq v992 b36), .own (Rp.int .u8) v993 5 x990, .blk b36 [v992, v993] 111] := (H.sees hw').back [7, 5] [6] rfl G997
   refine ⟨_, rfl, H.only, ?_⟩
   refine Mx.XL_nil fun w998 hS => ?_
   have H := H.sees hS
   have H := H970.rejoin H
   refine (yX (zB (hK949 _ _ ?_)))
   refine zC ?_
   obtain ⟨x999, e1000, hF⟩ := zF hF
   refine zA rfl rfl (wE (a := g881) (b := 1) rfl rfl e1000) ?_
   refine zA rfl rfl (zK (v := .int .i64 x999) rfl) ?_
   refine (zJ (zB (And.intro ?_ ?_)))
   ·repeat' (first | with_reducible exact zS | refine zZ rfl ?_ | refine zT rfl rfl ?_)
   exact ⟨(n893, x999, x990, v992, v993), (zQ rfl zU), ⟨H.pick [0, 1, 2, 3, 4, 12, 10, 11, 6] (by decide), hF⟩, Nat.lt_succ_self _⟩
  have hF := zW c899 hF
  have hR := Option.some.inj hF
  subst hR
  refine (xW (yU (yU (xE (zB (And.intro ?_ ?_))))))
  ·repeat' (first | with_reducible exact zS | refine zZ rfl ?_ | refine zT rfl rfl ?_)
  exact ⟨(v882, v886), zU, H.pick [0, 1, 2, 3, 4, 5, 6, 7, 8] (by decide)⟩
 rintro ⟨v648, v652⟩ ρ w653 H
 have hF := hK654
 obtain ⟨g1217, hF, hK1220⟩ := zI hF
 refine yQ [11, 51, 52, 53, 54, 55, 56, 57, 58, 59, 60, 61, 62, 63, 64, 65, 66, 67, 68] (fun (g : Value × Value) => []) (fun g wl => Hd O w wl S [.fz (.at 0 0 ((Fl.arr 7 Fl.str).f zO)), .blk b36 [g.1, g.2] 111, .fz (.oq g.1 b36), .own (Rp.int .u8) g.2 5 g1217, .fz (.oq v648 b36)]) ?_ ?_
 ·skip
  refine zD fun K1221 hK1221 => ?_
  refine zC ?_
  refine zA rfl rfl (fa26_2 rfl) ?_
  refine zA rfl rfl (zL one24 rfl (Cells.get (Blk.cells (H.item (i := 4) rfl)) (i := 2) rfl)) ?_
  obtain ⟨x1222, e1223, hF⟩ := zF hF
  obtain ⟨a1224, c1225, q1226⟩ := SlF.len ((H.item (i := 2) rfl))
  refine zA rfl rfl (zM (xA u24 q1226) (congrArg (Value.int .i64) e1223)) ?_
  refine zA rfl rfl (zK (v := .int .i64 0) rfl) ?_
  refine (zJ (zB (hK1221 _ _ ?_)))
  refine yM ?_
  have H := H.fz (.oq v648 b36) (H.item (i := 6) rfl)
  unfold F_event_Print_L3 at hF
  obtain ⟨B1434, n1435, eB1436, hF⟩ := yZ hF
  refine xN [11, 54, 55, 56, 57, 58, 59, 60, 61, 62, 63, 64, 65, 66, 67, 68] (fun (g : Nat × Int × (List Int) × Value × Value) => [(54, .int .i64 g.2.1)]) (fun g wl => Hd O w wl S [.fz (.sl rRule v3 p0.Rules), .fz (.at 0 0 ((Fl.arr 7 Fl.str).f zO)), .blk b36 [g.2.2.2.1, g.2.2.2.2] 111, .fz (.oq g.2.2.2.1 b36), .own (Rp.int .u8) g.2.2.2.2 5 g.2.2.1, .fz (.oq v648 b36)] ∧ loopN B1434 g.1 (g.2.1, g.2.2.1) = some g1217) (fun g => g.1) (n1435, 0, g651, v648, v652) (zQ rfl zU) ⟨H.pick [2, 3, 5, 6, 7, 9] (by decide), hF⟩ ?_
  clear H hF
  rintro ⟨n1435, g1427, g1431, v1428, v1432⟩ ρ w1438 ⟨H, hF⟩
  obtain ⟨n1439, rfl, hF⟩ := xH hF
  have hF := xG eB1436 hF
  refine zD fun K1440 hK1440 => ?_
  refine zC ?_
  obtain ⟨x1441, e1442, hF⟩ := zF hF
  refine zA rfl rfl (zM (xZ (a := g1427) (b := x1222) rfl rfl) (congrArg Value.bool e1442)) ?_
  refine (zJ (zB (hK1440 _ _ ?_)))
  refine zD fun K1444 hK1444 => ?_
  refine yH (b := x1441) rfl (fun c1445 => ?_) (fun c1445 => ?_)
  ·have hF := zV c1445 hF
   refine (yI (zB (hK1444 _ _ ?_)))
   refine zD fun K1490 hK1490 => ?_
   refine yM ?_
   refine zD fun K1491 hK1491 => ?_
   refine zC ?_
   obtain ⟨x1492, e1493, hF⟩ := zI hF
   obtain ⟨b1494, o1495, c1496, cs1497, q1498, h1501, h1499, h1500, h1502⟩ := rd_at (H.item (i := 0) rfl) e1493
   obtain ⟨v1503, rfl, h1504⟩ := rRule_open h1501
   have H := H.fzs [.at b1494 (o1495 + g1427.toNat * 8) _, .sl rCond v1503 x1492.When.Kids] ⟨⟨h1499, h1500, h1502⟩, h1504, trivial⟩
   refine zA rfl rfl (xY u24 sz106 q1498 rfl (yP e1493).1 (yP e1493).2.1 rfl rfl) ?_
   refine zA rfl rfl (zM (yT (cs := [.string (bs x1492.Name), .int .i64 x1492.When.Kind, .string (bs x1492.When.Name), .string (bs x1492.When.Other), .int .i64 x1492.When.Op, .int .i64 x1492.When.N, .int .i64 x1492.When.Frames, v1503]) agg106 rfl sz106 rfl (H.item (i := 6) rfl).2.2) rfl) ?_
   refine yY rfl rfl (xJ zero106 H) ?_
   rintro _ w1509 ⟨b1507, rfl, H⟩
   refine yV rfl (yN (vs := [.string (bs x1492.Name), .int .i64 x1492.When.Kind, .string (bs x1492.When.Name), .string (bs x1492.When.Other), .int .i64 x1492.When.Op, .int .i64 x1492.When.N, .int .i64 x1492.When.Frames, v1503]) H 8 rfl sz106 rfl rfl rfl ⟨rfl, rfl, rfl, rfl, rfl, rfl, rfl, (slf_one (H.item (i := 7) rfl)), trivial⟩ rfl) ?_
   rintro w1510 H
   refine (zJ (zB (hK1491 _ _ ?_)))
   have H1511 := H
   have H := H.rebase
   have H1512 := H
   refine WP_mix0 H [0, 1, 2, 3, 4, 5, 6, 7, 8, 9] [.pure, .read, .pure, .pure, .pure, .read, .read, .pure, .pure, .eff] mixed (by kernel_rfl) (by kernel_rfl) (by kernel_rfl) rfl ?_
   refine Mx.yB rfl rfl rfl (fun w' hw' => fa106_0 rfl) ?_
   refine Mx.xK oS rfl rfl rfl (fun w' hw' => zL one9 rfl (Cells.get (Blk.cells ((H.sees hw').item (i := 8) rfl)) (i := 0) rfl)) ?_
   obtain ⟨x1513, e1514, hF⟩ := zI hF
   refine Mx.yB rfl rfl rfl (fun w' hw' => xR (s1 := [114, 117, 108, 101, 32]) (s2 := x1492.Name) rfl rfl e1514) ?_
   obtain ⟨x1515, e1516, hF⟩ := zI hF
   refine Mx.yB rfl rfl rfl (fun w' hw' => xR (s1 := x1513) (s2 := [32, 105, 102, 32]) rfl rfl e1516) ?_
   refine Mx.yB rfl rfl rfl (fun w' hw' => fa106_1 rfl) ?_
   refine Mx.xK oS rfl rfl rfl (fun w' hw' => zM (yT (cs := [.int .i64 x1492.When.Kind, .string (bs x1492.When.Name), .string (bs x1492.When.Other), .int .i64 x1492.When.Op, .int .i64 x1492.When.N, .int .i64 x1492.When.Frames, v1503]) agg54 rfl sz54 rfl (Cells.drop (Blk.cells ((H.sees hw').item (i := 8) rfl)) 1 7)) rfl) ?_
   have H1517 := H
   obtain ⟨x1518, e1519, hF⟩ := zI hF
   refine Mx.XL_call oS rfl rfl rfl (v := .string (bs x1518)) (fun w' hw' => zX en51 rfl) (fun w' hw' => call_read (F_event_condText_s x1492.When 0 v1503 _ e1519 _ _ _ ((H.sees hw').enter [] [7, 1] (by decide) rfl))) ?_
   have H := H1517
   obtain ⟨x1520, e1521, hF⟩ := zI hF
   refine Mx.yB rfl rfl rfl (fun w' hw' => xR (s1 := x1515) (s2 := x1518) rfl rfl e1521) ?_
   obtain ⟨x1522, e1523, hF⟩ := zI hF
   refine Mx.yB rfl rfl rfl (fun w' hw' => xR (s1 := x1520) (s2 := [10]) rfl rfl e1523) ?_
   obtain ⟨⟨x1524, x1525, x1526⟩, e1527, hF⟩ := zI hF
   refine Mx.XL_effC oS rfl rfl rfl (fun w' hw' => zX en50 rfl) (fun w' hw' => F_strings_Builder_WriteString_w g1431 x1522 b36 v1428 v1432 _ e1527 _ _ _ ((H.sees hw').enter [4, 2] [3] (by decide) rfl)) ?_
   rintro w' _ w1532 hw' ⟨v1528, v1529, rfl, G1533⟩
   have H : Hd O _ w1532 _ [.fz (.sl rRule v3 p0.Rules), .fz (.at 0 0 ((Fl.arr 7 Fl.str).f zO)), .fz (.oq v1428 b36), .fz (.oq v648 b36), .fz (.at b1494 (o1495 + g1427.toNat * 8) [.string (bs x1492.Name), .int .i64 x1492.When.Kind, .string (bs x1492.When.Name), .string (bs x1492.When.Other), .int .i64 x1492.When.Op, .int .i64 x1492.When.N, .int .i64 x1492.When.Frames, v1503]), .fz (.sl rCond v1503 x1492.When.Kids), .blk b1507 [.string (bs x1492.Name), .int .i64 x1492.When.Kind, .string (bs x1492.When.Name), .string (bs x1492.When.Other), .int .i64 x1492.When.Op, .int .i64 x1492.When.N, .int .i64 x1492.When.Frames, v1503] 106, .fz (.oq v1528 b36), .own (Rp.int .u8) v1529 5 x1526, .blk b36 [v1528, v1529] 111] := (H.sees hw').back [4, 2] [3] rfl G1533
   refine ⟨_, rfl, H.only, ?_⟩
   refine Mx.XL_nil fun w1534 hS => ?_
   have H := H.sees hS
   have H := H1511.rejoin H
   refine (yX (zB (hK1490 _ _ ?_)))
   refine zC ?_
   obtain ⟨x1535, e1536, hF⟩ := zF hF
   refine zA rfl rfl (wE (a := g1427) (b := 1) rfl rfl e1536) ?_
   refine zA rfl rfl (zK (v := .int .i64 x1535) rfl) ?_
   refine (zJ (zB (And.intro ?_ ?_)))
   ·repeat' (first | with_reducible exact zS | refine zZ rfl ?_ | refine zT rfl rfl ?_)
   exact ⟨(n1439, x1535, x1526, v1528, v1529), (zQ rfl zU), ⟨H.pick [0, 1, 9, 7, 8, 3] (by decide), hF⟩, Nat.lt_succ_self _⟩
  have hF := zW c1445 hF
  have hR := Option.some.inj hF
  subst hR
  refine (xW (yU (yU (xE (zB (And.intro ?_ ?_))))))
  ·repeat' (first | with_reducible exact zS | refine zZ rfl ?_ | refine zT rfl rfl ?_)
  exact ⟨(v1428, v1432), zU, H.pick [1, 2, 3, 4, 5] (by decide)⟩
 rintro ⟨v1214, v1218⟩ ρ w1219 H
 have hF := hK1220
 refine zD fun K1551 hK1551 => ?_
 refine zD fun K1552 hK1552 => ?_
 refine zC ?_
 obtain ⟨⟨x1553, x1554⟩, e1555, hF⟩ := zI hF
 refine yA rfl rfl (zX en52 rfl) (F_strings_Builder_Len_w g1217 b36 v1214 v1218 _ e1555 _ _ _ (H.enter [3, 1] [2] (by decide) rfl)) ?_
 rintro _ w1560 ⟨v1556, v1557, rfl, G1561⟩
 have H : Hd O _ w1560 _ [.fz (.at 0 0 ((Fl.arr 7 Fl.str).f zO)), .fz (.oq v1214 b36), .fz (.oq v648 b36), .fz (.oq v1556 b36), .own (Rp.int .u8) v1557 5 x1554, .blk b36 [v1556, v1557] 111] := H.back [3, 1] [2] rfl G1561
 refine ⟨_, rfl, ?_⟩
 obtain ⟨x1562, e1563, hF⟩ := zF hF
 refine zA rfl rfl (zM (Do_gtr (a := x1553) (b := 200000) rfl rfl) (congrArg Value.bool e1563)) ?_
 refine (zJ (zB (hK1552 _ _ ?_)))
 refine yH (b := x1562) rfl (fun c1564 => ?_) (fun c1564 => ?_)
 ·have hF := zV c1564 hF
  refine zD fun K1565 hK1565 => ?_
  refine zC ?_
  refine zA rfl rfl (zG (v := .string (bs [])) rfl) ?_
  refine zA rfl rfl (zG (v := .int .i64 3) rfl) ?_
  refine (zJ (zB (hK1565 _ _ ?_)))
  have hR := Option.some.inj hF
  subst hR
  refine (yG (yC (post2 (v1 := .string (bs [])) (v2 := .int .i64 3) rfl rfl rfl ?_)))
  exact ⟨rfl, H.pick [] (by decide)⟩
 have hF := zW c1564 hF
 refine (yI (zB (hK1551 _ _ ?_)))
 refine zD fun K1566 hK1566 => ?_
 refine zC ?_
 obtain ⟨x1567, e1568, hF⟩ := zI hF
 refine yA rfl rfl (zX en53 rfl) (E.X_bstring_w x1554 b36 v1556 v1557 _ e1568 _ _ _ (H.enter [4, 5] [3] (by decide) rfl)) ?_
 rintro _ w1569 ⟨rfl, G1570⟩
 have H : Hd O _ w1569 _ [.fz (.at 0 0 ((Fl.arr 7 Fl.str).f zO)), .fz (.oq v1214 b36), .fz (.oq v648 b36), .fz (.oq v1556 b36)] := H.back [4, 5] [3] rfl G1570
 refine ⟨_, rfl, ?_⟩
 refine zA rfl rfl (zG (v := .string (bs x1567)) rfl) ?_
 refine zA rfl rfl (zG (v := .int .i64 0) rfl) ?_
 refine (zJ (zB (hK1566 _ _ ?_)))
 have hR := Option.some.inj hF
 subst hR
 refine (yG (post2 (v1 := .string (bs x1567)) (v2 := .int .i64 0) rfl rfl rfl ?_))
 exact ⟨rfl, H.pick [] (by decide)⟩
end Go.Proofs.YtnajnkghilemhaaGreatDoor.L
namespace Go.Proofs.YtnajnkghilemhaaGreatDoor.L
open Go.RowKit Go.OB Go.Lf
/- orangebox/orangeboxlaw6.reads -/
set_option maxHeartbeats 4000000 in
theorem F_law6_reads_w (r : Bool) (hF : F_law6_reads = some r) (O S : List Nat) (w : World) (H : Hd O w w S [.fz (.at 0 0 ((Fl.arr 7 Fl.str).f zO)), .fz (.gi 4)]) :
  Calls Tryz.prog 15 ([] : List Value).toArray w fun e w' => e = .returned (.bool r) ∧ Hd O w w' S [] := by
 unfold F_law6_reads at hF
 refine yD 26 Tryz.func15 rfl rfl rfl ?_
 refine zD fun K3 hK3 => ?_
 refine zC ?_
 refine zA rfl rfl (zG (v := .bool false) rfl) ?_
 refine (zJ (zB (hK3 _ _ ?_)))
 refine zD fun K4 hK4 => ?_
 refine zC ?_
 obtain ⟨⟨x5, x6, x7⟩, e8, hF⟩ := zI hF
 refine yA rfl rfl (zX en13 rfl) (F_event_Read_w [114, 117, 108, 101, 32, 97, 32, 105, 102, 32, 110, 111, 116, 32, 32, 40, 120, 32, 62, 49, 32, 111, 114, 32, 116, 114, 117, 101, 41] _ e8 _ _ _ (H.enter [] [0, 1] (by decide) rfl)) ?_
 rintro _ w15 ⟨v9, v10, v11, rfl, G16⟩
 have H := H.back1 [0, 1] rfl G16
 refine ⟨_, rfl, ?_⟩
 refine zA rfl rfl (zK (v := .tuple #[.agg [v9, v10, v11].toArray, .int .i64 x6, .int .i64 x7]) rfl) ?_
 refine zA rfl rfl (xQ (v := .agg [v9, v10, v11].toArray) rfl rfl) ?_
 refine zA rfl rfl (xQ (v := .int .i64 x6) rfl rfl) ?_
 refine zA rfl rfl (xQ (v := .int .i64 x7) rfl rfl) ?_
 refine yY rfl rfl (xJ zero26 H) ?_
 rintro _ w19 ⟨b17, rfl, H⟩
 refine yV rfl (yN (vs := [v9, v10, v11]) H 5 rfl sz26 rfl rfl rfl ⟨(slf_one (H.item (i := 2) rfl)), (slf_one (H.item (i := 3) rfl)), (slf_one (H.item (i := 4) rfl)), trivial⟩ rfl) ?_
 rintro w20 H
 refine zA rfl rfl (zG (v := .int .i64 x6) rfl) ?_
 refine zA rfl rfl (zG (v := .int .i64 x7) rfl) ?_
 refine (zJ (zB (hK4 _ _ ?_)))
 refine zD fun K21 hK21 => ?_
 refine zC ?_
 refine zA rfl rfl (zM (yT (cs := [v9, v10, v11]) agg26 rfl sz26 rfl (Blk.cells (H.item (i := 5) rfl))) rfl) ?_
 have H22 := H
 obtain ⟨⟨x23, x24⟩, e25, hF⟩ := zI hF
 refine yA rfl rfl (zX en16 rfl) (F_event_Print_w x5 v9 v10 v11 _ e25 _ _ _ (H.enter [] [2, 3, 4, 0] (by decide) rfl)) ?_
 rintro _ w26 ⟨rfl, G27⟩
 have H := H22.step (G27.only : Only [] _ _)
 refine ⟨_, rfl, ?_⟩
 refine zA rfl rfl (zK (v := .tuple #[.string (bs x23), .int .i64 x24]) rfl) ?_
 refine zA rfl rfl (xQ (v := .string (bs x23)) rfl rfl) ?_
 refine zA rfl rfl (xQ (v := .int .i64 x24) rfl rfl) ?_
 refine zA rfl rfl (zG (v := .string (bs x23)) rfl) ?_
 refine zA rfl rfl (zG (v := .int .i64 x24) rfl) ?_
 refine (zJ (zB (hK21 _ _ ?_)))
 obtain ⟨g36, hF, hK38⟩ := zI hF
 refine yQ [0, 16, 17, 18, 19, 20, 21, 22, 23, 24, 25] (fun (g : Unit) => [(0, .bool g36)]) (fun g wl => Hd O w wl S [.fz (.at 0 0 ((Fl.arr 7 Fl.str).f zO)), .fz (.gi 4)]) ?_ ?_
 ·skip
  refine zC ?_
  refine zA rfl rfl (zK (v := .int .i64 x7) rfl) ?_
  obtain ⟨x39, e40, hF⟩ := zF hF
  refine zA rfl rfl (zM (xC (a := x7) (b := 0) rfl rfl) (congrArg Value.bool e40)) ?_
  refine yE (b := x39) rfl rfl rfl (fun c41 => ?_) (fun c41 => ?_)
  ·have hF := zV c41 hF
   refine zA rfl rfl (zK (v := .int .i64 x24) rfl) ?_
   obtain ⟨x42, e43, hF⟩ := zF hF
   refine zA rfl rfl (zM (xC (a := x24) (b := 0) rfl rfl) (congrArg Value.bool e43)) ?_
   refine zA rfl rfl (zY (v := .bool x42) rfl rfl) ?_
   refine yE (b := x42) rfl rfl rfl (fun c44 => ?_) (fun c44 => ?_)
   ·have hF := zV c44 hF
    refine zA rfl rfl (zK (v := .string (bs x23)) rfl) ?_
    obtain ⟨x45, e46, hF⟩ := zF hF
    refine zA rfl rfl (zM (xU (s1 := x23) (s2 := [114, 117, 108, 101, 32, 97, 32, 105, 102, 32, 110, 111, 116, 32, 40, 120, 32, 62, 32, 49, 32, 111, 114, 32, 116, 114, 117, 101, 41, 10]) rfl rfl) (congrArg Value.bool e46)) ?_
    refine zA rfl rfl (zY (v := .bool x45) rfl rfl) ?_
    refine zA rfl rfl (zG (v := .bool x45) rfl) ?_
    have hR := Option.some.inj hF
    subst hR
    refine (zJ (zB (And.intro ?_ ?_)))
    ·repeat' (first | with_reducible exact zS | refine zZ rfl ?_ | refine zT rfl rfl ?_)
    exact ⟨(), (zQ rfl zU), H.pick [0, 1] (by decide)⟩
   have hF := zW c44 hF
   refine zH rfl rfl ?_
   refine zH rfl rfl ?_
   refine zA rfl rfl (zN (v := .bool false) rfl rfl) ?_
   refine zA rfl rfl (zG (v := .bool false) rfl) ?_
   have hR := Option.some.inj hF
   subst hR
   refine (zJ (zB (And.intro ?_ ?_)))
   ·repeat' (first | with_reducible exact zS | refine zZ rfl ?_ | refine zT rfl rfl ?_)
   exact ⟨(), (zQ rfl zU), H.pick [0, 1] (by decide)⟩
  have hF := zW c41 hF
  refine zH rfl rfl ?_
  refine zH rfl rfl ?_
  refine zA rfl rfl (zN (v := .bool false) rfl rfl) ?_
  refine zA rfl rfl (zK (v := .bool false) rfl) ?_
  refine zH rfl rfl ?_
  refine zH rfl rfl ?_
  refine zA rfl rfl (zN (v := .bool false) rfl rfl) ?_
  refine zA rfl rfl (zG (v := .bool false) rfl) ?_
  have hR := Option.some.inj hF
  subst hR
  refine (zJ (zB (And.intro ?_ ?_)))
  ·repeat' (first | with_reducible exact zS | refine zZ rfl ?_ | refine zT rfl rfl ?_)
  exact ⟨(), (zQ rfl zU), H.pick [0, 1] (by decide)⟩
 rintro _ ρ w37 H
 have hF := hK38
 have hR := Option.some.inj hF
 subst hR
 refine (yG (post1 (v1 := .bool g36) rfl rfl ?_))
 exact ⟨rfl, H.pick [] (by decide)⟩
end Go.Proofs.YtnajnkghilemhaaGreatDoor.L
namespace Go.Proofs.YtnajnkghilemhaaGreatDoor.L
open Go.RowKit Go.OB Go.Lf
/- orangebox/orangeboxlaw6.EventInputsMatchSpec -/
set_option maxHeartbeats 4000000 in
theorem F_law6_EventInputsMatchSpec_w (p0 : List Track) (p1 : Int) (v1 : Value) (r : Bool) (hF : F_law6_EventInputsMatchSpec p0 p1 = some r) (O S : List Nat) (w : World) (H : Hd O w w S [.fz (.sl rTrack v1 p0), .fz (.at 0 0 ((Fl.arr 7 Fl.str).f zO)), .fz (.at 3 0 ((Fl.arr 20 (Fl.int .u64)).f yF)), .fz (.gi 4)]) :
  Calls Tryz.prog 8 ([v1, .int .i64 p1] : List Value).toArray w fun e w' => e = .returned (.bool r) ∧ Hd O w w' S [] := by
 unfold F_law6_EventInputsMatchSpec at hF
 refine yD 28 Tryz.func8 rfl rfl rfl ?_
 refine zD fun K6 hK6 => ?_
 refine zC ?_
 refine zA rfl rfl (zG (v := .bool false) rfl) ?_
 refine (zJ (zB (hK6 _ _ ?_)))
 obtain ⟨g52, hF, hK54⟩ := zI hF
 refine yQ [4, 5, 6, 7, 8, 9, 10, 11, 12, 13, 14, 15, 16, 17, 18, 19, 20, 21, 22, 23, 24, 25, 26, 27] (fun (g : Unit) => [(4, .bool g52)]) (fun g wl => Hd O w wl S [.fz (.at 0 0 ((Fl.arr 7 Fl.str).f zO)), .fz (.at 3 0 ((Fl.arr 20 (Fl.int .u64)).f yF)), .fz (.gi 4)]) ?_ ?_
 ·skip
  refine zC ?_
  refine zA rfl rfl (zK (v := v1) rfl) ?_
  have H55 := H
  obtain ⟨x56, e57, hF⟩ := zI hF
  refine yA rfl rfl (zX en25 rfl) (F_event_CheckTracks_w p0 v1 _ e57 _ _ _ (H.enter [] [0] (by decide) rfl)) ?_
  rintro _ w58 ⟨rfl, G59⟩
  have H := H55.step (G59.only : Only [] _ _)
  refine ⟨_, rfl, ?_⟩
  refine zA rfl rfl (zK (v := v1) rfl) ?_
  have H60 := H
  obtain ⟨x61, e62, hF⟩ := zI hF
  refine yA rfl rfl (zX en26 rfl) (F_ref6_CheckTracks_w p0 v1 _ e62 _ _ _ (H.enter [] [0] (by decide) rfl)) ?_
  rintro _ w63 ⟨rfl, G64⟩
  have H := H60.step (G64.only : Only [] _ _)
  refine ⟨_, rfl, ?_⟩
  obtain ⟨x65, e66, hF⟩ := zF hF
  refine zA rfl rfl (zM (xC (a := x56) (b := x61) rfl rfl) (congrArg Value.bool e66)) ?_
  refine yE (b := x65) rfl rfl rfl (fun c67 => ?_) (fun c67 => ?_)
  ·have hF := zV c67 hF
   refine zA rfl rfl (zK (v := v1) rfl) ?_
   refine zA rfl rfl (zK (v := .int .i64 p1) rfl) ?_
   obtain ⟨⟨x68, x69⟩, e70, hF⟩ := zI hF
   refine yA rfl rfl (zX en28 rfl) (F_event_Inputs_w p0 p1 v1 _ e70 _ _ _ (H.enter [] [0] (by decide) rfl)) ?_
   rintro _ w73 ⟨v71, rfl, G74⟩
   have H := H.back1 [0] rfl G74
   refine ⟨_, rfl, ?_⟩
   refine zA rfl rfl (xQ (v := v71) rfl rfl) ?_
   refine zA rfl rfl (xQ (v := .int .i64 x69) rfl rfl) ?_
   have H75 := H
   have H := H.freeze (i := 4) rfl
   obtain ⟨x76, e77, hF⟩ := zI hF
   refine yA rfl rfl (zX en27 rfl) (F_law6_inputs_w x68 x69 v71 _ e77 _ _ _ (H.enter [] [4, 2] (by decide) rfl)) ?_
   rintro _ w78 ⟨rfl, G79⟩
   have H := H75.step (G79.only : Only [] _ _)
   refine ⟨_, rfl, ?_⟩
   refine zA rfl rfl (zK (v := v1) rfl) ?_
   refine zA rfl rfl (zK (v := .int .i64 p1) rfl) ?_
   obtain ⟨⟨x80, x81⟩, e82, hF⟩ := zI hF
   refine yA rfl rfl (zX en29 rfl) (F_ref6_Inputs_w p0 p1 v1 _ e82 _ _ _ (H.enter [] [0] (by decide) rfl)) ?_
   rintro _ w85 ⟨v83, rfl, G86⟩
   have H := H.back1 [0] rfl G86
   refine ⟨_, rfl, ?_⟩
   refine zA rfl rfl (xQ (v := v83) rfl rfl) ?_
   refine zA rfl rfl (xQ (v := .int .i64 x81) rfl rfl) ?_
   have H87 := H
   have H := H.freeze (i := 5) rfl
   obtain ⟨x88, e89, hF⟩ := zI hF
   refine yA rfl rfl (zX en27 rfl) (F_law6_inputs_w x80 x81 v83 _ e89 _ _ _ (H.enter [] [5, 2] (by decide) rfl)) ?_
   rintro _ w90 ⟨rfl, G91⟩
   have H := H87.step (G91.only : Only [] _ _)
   refine ⟨_, rfl, ?_⟩
   obtain ⟨x92, e93, hF⟩ := zF hF
   refine zA rfl rfl (zM (xU (s1 := x76) (s2 := x88) rfl rfl) (congrArg Value.bool e93)) ?_
   refine zA rfl rfl (zY (v := .bool x92) rfl rfl) ?_
   refine yE (b := x92) rfl rfl rfl (fun c94 => ?_) (fun c94 => ?_)
   ·have hF := zV c94 hF
    have H95 := H
    obtain ⟨x96, e97, hF⟩ := zI hF
    refine yA rfl rfl (zX en15 rfl) (F_law6_reads_w _ e97 _ _ _ (H.enter [] [1, 3] (by decide) rfl)) ?_
    rintro _ w98 ⟨rfl, G99⟩
    have H := H95.step (G99.only : Only [] _ _)
    refine ⟨_, rfl, ?_⟩
    refine zA rfl rfl (zY (v := .bool x96) rfl rfl) ?_
    refine zA rfl rfl (zG (v := .bool x96) rfl) ?_
    have hR := Option.some.inj hF
    subst hR
    refine (zJ (zB (And.intro ?_ ?_)))
    ·repeat' (first | with_reducible exact zS | refine zZ rfl ?_ | refine zT rfl rfl ?_)
    exact ⟨(), (zQ rfl zU), H.pick [1, 2, 3] (by decide)⟩
   have hF := zW c94 hF
   refine zH rfl rfl ?_
   refine zA rfl rfl (zN (v := .bool false) rfl rfl) ?_
   refine zA rfl rfl (zG (v := .bool false) rfl) ?_
   have hR := Option.some.inj hF
   subst hR
   refine (zJ (zB (And.intro ?_ ?_)))
   ·repeat' (first | with_reducible exact zS | refine zZ rfl ?_ | refine zT rfl rfl ?_)
   exact ⟨(), (zQ rfl zU), H.pick [1, 2, 3] (by decide)⟩
  have hF := zW c67 hF
  refine zH rfl rfl ?_
  refine zH rfl rfl ?_
  refine zH rfl rfl ?_
  refine zH rfl rfl ?_
  refine zH rfl rfl ?_
  refine zH rfl rfl ?_
  refine zH rfl rfl ?_
  refine zH rfl rfl ?_
  refine zH rfl rfl ?_
  refine zH rfl rfl ?_
  refine zH rfl rfl ?_
  refine zH rfl rfl ?_
  refine zH rfl rfl ?_
  refine zA rfl rfl (zN (v := .bool false) rfl rfl) ?_
  refine zA rfl rfl (zK (v := .bool false) rfl) ?_
  refine zH rfl rfl ?_
  refine zA rfl rfl (zN (v := .bool false) rfl rfl) ?_
  refine zA rfl rfl (zG (v := .bool false) rfl) ?_
  have hR := Option.some.inj hF
  subst hR
  refine (zJ (zB (And.intro ?_ ?_)))
  ·repeat' (first | with_reducible exact zS | refine zZ rfl ?_ | refine zT rfl rfl ?_)
  exact ⟨(), (zQ rfl zU), H.pick [1, 2, 3] (by decide)⟩
 rintro _ ρ w53 H
 have hF := hK54
 have hR := Option.some.inj hF
 subst hR
 refine (yG (post1 (v1 := .bool g52) rfl rfl ?_))
 exact ⟨rfl, H.pick [] (by decide)⟩
end Go.Proofs.YtnajnkghilemhaaGreatDoor.L
