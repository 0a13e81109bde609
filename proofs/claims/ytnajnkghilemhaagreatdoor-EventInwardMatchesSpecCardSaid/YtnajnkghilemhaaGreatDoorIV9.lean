/- Walks: what each function computes, for every argument; no condition but those that stand in the statements. -/
import Derived.Test.YtnajnkghilemhaaGreatDoorIV0
import Derived.Test.YtnajnkghilemhaaGreatDoorIV8
import Derived.Test.YtnajnkghilemhaaGreatDoorIV2
import Derived.Test.YtnajnkghilemhaaGreatDoorIV4
namespace Go.Proofs.YtnajnkghilemhaaGreatDoor.L
open Go.RowKit Go.OB Go.Lf
set_option maxHeartbeats 4000000 in
set_option maxRecDepth 100000 in
theorem F_event_condText_B_w (rfM : Cond → Int → Option Str) (rhM : S_event_condText rfM) (p0 : Cond) (p1 : Int) (v1 : Value) (r : Str) (hF : F_event_condText_B rfM p0 p1 = some r) (O S : List Nat) (w : World) (H : Hd O w w S [.fz (.sl rCond v1 p0.Kids), .fz (.at 0 0 ((Fl.arr 7 Fl.str).f zJ))]) :
  Calls Tryz.prog 51 ([.agg [.int .i64 p0.Kind, .string (bs p0.Name), .string (bs p0.Other), .int .i64 p0.Op, .int .i64 p0.N, .int .i64 p0.Frames, v1].toArray, .int .i64 p1] : List Value).toArray w fun e w' => e = .returned (.string (bs r)) ∧ Hd O w w' S [] := by
 unfold F_event_condText_B at hF
 refine yB 160 Tryz.func51 rfl rfl rfl ?_
 refine zC fun K4 hK4 => ?_
 refine zB ?_
 refine yX rfl rfl (Lx_box (cs := [.int .i64 p0.Kind, .string (bs p0.Name), .string (bs p0.Other), .int .i64 p0.Op, .int .i64 p0.N, .int .i64 p0.Frames, v1]) rfl H) ?_
 rintro _ w7 ⟨b5, rfl, H⟩
 refine zI (.string (bs [])) ?_
 refine (zF (zA (hK4 _ _ ?_)))
 refine zC fun K8 hK8 => ?_
 refine zB ?_
 refine zI (.func (.func 102) #[] #[]) ?_
 refine (zF (zA (hK8 _ _ ?_)))
 refine zC fun K9 hK9 => ?_
 refine zB ?_
 refine zH (Do_makeFunc rfl) ?_
 refine zI (.func (.func 103) #[] #[.pointer (some ⟨b5, 0, none⟩)]) ?_
 refine (zF (zA (hK9 _ _ ?_)))
 refine zC fun K10 hK10 => ?_
 refine zB ?_
 refine zI (.string (bs [])) ?_
 refine (zF (zA (hK10 _ _ ?_)))
 refine zC fun K252 hK252 => ?_
 refine zC fun K253 hK253 => ?_
 refine zB ?_
 refine zH (fa54_0 rfl) ?_
 refine zH (zT one3 rfl (Cells.get (Blk.cells (H.item (i := 2) rfl)) (i := 0) rfl)) ?_
 refine (zF (zA (hK253 _ _ ?_)))
 refine yJ ?_
 refine zC fun K254 hK254 => ?_
 refine zB ?_
 obtain ⟨x255, e256, hF⟩ := zG hF
 refine zH (zS (yP (a := p0.Kind) (b := 9) rfl rfl) e256) ?_
 refine zI (.bool x255) ?_
 refine (zF (zA (hK254 _ _ ?_)))
 refine zW (b := x255) rfl (fun c257 => ?_) (fun c257 => ?_)
 ·have hF := zO c257 hF
  obtain ⟨g277, hF, hK279⟩ := zD hF
  refine yL [7, 13, 14, 15, 16, 17, 18, 19, 20, 21, 22, 23, 24] (fun (g : Unit) => [(7, .string (bs g277))]) (fun g wl => Hd O w wl S [.fz (.at 0 0 ((Fl.arr 7 Fl.str).f zJ))]) ?_ ?_
  ·skip
   refine zC fun K280 hK280 => ?_
   refine zB ?_
   refine zH (fa54_6 rfl) ?_
   refine zH (zT one52 rfl (Cells.get (Blk.cells (H.item (i := 2) rfl)) (i := 6) rfl)) ?_
   have H281 := H
   obtain ⟨x282, e283, hF⟩ := zD hF
   refine zV rfl rfl (zU en104 rfl) (F_event_joined_w rfM rhM p0.Kids [97, 110, 100] 2 v1 _ e283 _ _ _ (H.enter [] [0, 1] (by decide) rfl)) ?_
   rintro _ w284 ⟨rfl, G285⟩
   have H := H281.step (G285.only : Only [] _ _)
   refine ⟨_, rfl, ?_⟩
   refine zI (.string (bs x282)) ?_
   refine (zF (zA (hK280 _ _ ?_)))
   obtain ⟨g291, hF, hK293⟩ := zD hF
   refine yL [16, 17, 18, 19, 20, 21] (fun (g : Unit) => [(21, .bool g291)]) (fun g wl => Hd O w wl S [.fz (.at 0 0 ((Fl.arr 7 Fl.str).f zJ))]) ?_ ?_
   ·skip
    refine zB ?_
    refine zM (.int .i64 p1) ?_
    obtain ⟨x294, e295, hF⟩ := zG hF
    refine zH (zS (yP (a := p1) (b := 2) rfl rfl) e295) ?_
    refine yK (b := x294) rfl rfl rfl (fun c296 => ?_) (fun c296 => ?_)
    ·have hF := zO c296 hF
     refine yD ?_
     refine yD ?_
     refine zH (yI (v := .bool true) rfl rfl) ?_
     obtain rfl := someI hF
     exact (zF (zA (meet ⟨(), (zK rfl zL), H.pick [1] (by decide)⟩)))
    have hF := zN c296 hF
    refine zM (.int .i64 p1) ?_
    obtain ⟨x297, e298, hF⟩ := zG hF
    refine zH (zS (yP (a := p1) (b := 3) rfl rfl) e298) ?_
    refine zH (yE (v := .bool x297) rfl rfl) ?_
    obtain rfl := someI hF
    exact (zF (zA (meet ⟨(), (zK rfl zL), H.pick [1] (by decide)⟩)))
   rintro _ ρ w292 H
   have hF := hK293
   refine zW (b := g291) rfl (fun c299 => ?_) (fun c299 => ?_)
   ·have hF := zO c299 hF
    refine zB ?_
    refine zM (.string (bs x282)) ?_
    obtain ⟨x300, e301, hF⟩ := zD hF
    refine zH (xO (s1 := [40]) (s2 := x282) rfl rfl e301) ?_
    obtain ⟨x302, e303, hF⟩ := zD hF
    refine zH (xO (s1 := x300) (s2 := [41]) rfl rfl e303) ?_
    refine zI (.string (bs x302)) ?_
    obtain rfl := someI hF
    exact (zF (zA (meet ⟨(), (zK rfl zL), H.pick [0] (by decide)⟩)))
   have hF := zN c299 hF
   obtain rfl := someI hF
   exact (yA (zA (meet ⟨(), (zK rfl zL), H.pick [0] (by decide)⟩)))
  rintro _ ρ w278 H
  have hF := hK279
  refine zC fun K304 hK304 => ?_
  refine zB ?_
  refine zM (.string (bs g277)) ?_
  refine zI (.string (bs g277)) ?_
  refine (zF (zA (hK304 _ _ ?_)))
  obtain rfl := someI hF
  refine (zZ (yF (zY (post1 (v1 := .string (bs g277)) rfl rfl ?_))))
  exact ⟨rfl, H.pick [] (by decide)⟩
 have hF := zN c257 hF
 refine zC fun K305 hK305 => ?_
 refine zB ?_
 obtain ⟨x306, e307, hF⟩ := zG hF
 refine zH (zS (yP (a := p0.Kind) (b := 10) rfl rfl) e307) ?_
 refine zI (.bool x306) ?_
 refine (zF (zA (hK305 _ _ ?_)))
 refine zW (b := x306) rfl (fun c308 => ?_) (fun c308 => ?_)
 ·have hF := zO c308 hF
  obtain ⟨g323, hF, hK325⟩ := zD hF
  refine yL [7, 28, 29, 30, 31, 32, 33, 34, 35] (fun (g : Unit) => [(7, .string (bs g323))]) (fun g wl => Hd O w wl S [.fz (.at 0 0 ((Fl.arr 7 Fl.str).f zJ))]) ?_ ?_
  ·skip
   refine zC fun K326 hK326 => ?_
   refine zB ?_
   refine zH (fa54_6 rfl) ?_
   refine zH (zT one52 rfl (Cells.get (Blk.cells (H.item (i := 2) rfl)) (i := 6) rfl)) ?_
   have H327 := H
   obtain ⟨x328, e329, hF⟩ := zD hF
   refine zV rfl rfl (zU en104 rfl) (F_event_joined_w rfM rhM p0.Kids [111, 114] 1 v1 _ e329 _ _ _ (H.enter [] [0, 1] (by decide) rfl)) ?_
   rintro _ w330 ⟨rfl, G331⟩
   have H := H327.step (G331.only : Only [] _ _)
   refine ⟨_, rfl, ?_⟩
   refine zI (.string (bs x328)) ?_
   refine (zF (zA (hK326 _ _ ?_)))
   refine zC fun K332 hK332 => ?_
   refine zB ?_
   refine zM (.int .i64 p1) ?_
   obtain ⟨x333, e334, hF⟩ := zG hF
   refine zH (zS (Do_neq (a := p1) (b := 0) rfl rfl) e334) ?_
   refine (zF (zA (hK332 _ _ ?_)))
   refine zW (b := x333) rfl (fun c335 => ?_) (fun c335 => ?_)
   ·have hF := zO c335 hF
    refine zB ?_
    refine zM (.string (bs x328)) ?_
    obtain ⟨x336, e337, hF⟩ := zD hF
    refine zH (xO (s1 := [40]) (s2 := x328) rfl rfl e337) ?_
    obtain ⟨x338, e339, hF⟩ := zD hF
    refine zH (xO (s1 := x336) (s2 := [41]) rfl rfl e339) ?_
    refine zI (.string (bs x338)) ?_
    obtain rfl := someI hF
    exact (zF (zA (meet ⟨(), (zK rfl zL), H.pick [1] (by decide)⟩)))
   have hF := zN c335 hF
   obtain rfl := someI hF
   exact (yA (zA (meet ⟨(), (zK rfl zL), H.pick [1] (by decide)⟩)))
  rintro _ ρ w324 H
  have hF := hK325
  refine zC fun K340 hK340 => ?_
  refine zB ?_
  refine zM (.string (bs g323)) ?_
  refine zI (.string (bs g323)) ?_
  refine (zF (zA (hK340 _ _ ?_)))
  obtain rfl := someI hF
  refine (zZ (yF (zY (post1 (v1 := .string (bs g323)) rfl rfl ?_))))
  exact ⟨rfl, H.pick [] (by decide)⟩
 have hF := zN c308 hF
 refine zC fun K341 hK341 => ?_
 refine zB ?_
 obtain ⟨x342, e343, hF⟩ := zG hF
 refine zH (zS (yP (a := p0.Kind) (b := 1) rfl rfl) e343) ?_
 refine zI (.bool x342) ?_
 refine (zF (zA (hK341 _ _ ?_)))
 refine zW (b := x342) rfl (fun c344 => ?_) (fun c344 => ?_)
 ·have hF := zO c344 hF
  refine zC fun K345 hK345 => ?_
  refine zB ?_
  refine zI (.string (bs [116, 114, 117, 101])) ?_
  refine (zF (zA (hK345 _ _ ?_)))
  obtain rfl := someI hF
  refine (zZ (yF (zY (post1 (v1 := .string (bs [116, 114, 117, 101])) rfl rfl ?_))))
  exact ⟨rfl, H.pick [] (by decide)⟩
 have hF := zN c344 hF
 refine zC fun K346 hK346 => ?_
 refine zB ?_
 obtain ⟨x347, e348, hF⟩ := zG hF
 refine zH (zS (yP (a := p0.Kind) (b := 2) rfl rfl) e348) ?_
 refine zI (.bool x347) ?_
 refine (zF (zA (hK346 _ _ ?_)))
 refine zW (b := x347) rfl (fun c349 => ?_) (fun c349 => ?_)
 ·have hF := zO c349 hF
  refine zC fun K350 hK350 => ?_
  refine zB ?_
  refine zI (.string (bs [102, 97, 108, 115, 101])) ?_
  refine (zF (zA (hK350 _ _ ?_)))
  obtain rfl := someI hF
  refine (zZ (yF (zY (post1 (v1 := .string (bs [102, 97, 108, 115, 101])) rfl rfl ?_))))
  exact ⟨rfl, H.pick [] (by decide)⟩
 have hF := zN c349 hF
 refine zC fun K351 hK351 => ?_
 refine zB ?_
 obtain ⟨x352, e353, hF⟩ := zG hF
 refine zH (zS (yP (a := p0.Kind) (b := 3) rfl rfl) e353) ?_
 refine zI (.bool x352) ?_
 refine (zF (zA (hK351 _ _ ?_)))
 refine zW (b := x352) rfl (fun c354 => ?_) (fun c354 => ?_)
 ·have hF := zO c354 hF
  refine zC fun K355 hK355 => ?_
  have H := H.freezeB (i := 2) rfl
  have H356 := H
  have H := H.rebase
  have H357 := H
  have h358 := H.firm (i := 1) rfl
  have h359 := H.firm (i := 2) rfl
  refine WP_mix0 H [0, 1, 2, 3, 4, 5, 6, 7, 8, 9, 10, 11, 12, 13, 14] [.pure, .pure, .pure, .pure, .pure, .pure, .pure, .pure, .pure, .pure, .pure, .read, .eff, .pure, .pure] mixed (by kernel_rfl) (by kernel_rfl) (by kernel_rfl) rfl ?_
  refine Mx.zX rfl rfl rfl (fun w' hw' => fa54_1 rfl) ?_
  refine Mx.zX rfl rfl rfl (fun w' hw' => zT one9 rfl (Cells.get (h359 w' hw').2.2 (i := 1) rfl)) ?_
  obtain ⟨x360, e361, hF⟩ := zD hF
  refine Mx.zX rfl rfl rfl (fun w' hw' => xO (s1 := p0.Name) (s2 := [32]) rfl rfl e361) ?_
  refine Mx.zX rfl rfl rfl (fun w' hw' => fa54_3 rfl) ?_
  refine Mx.zX rfl rfl rfl (fun w' hw' => zT one3 rfl (Cells.get (h359 w' hw').2.2 (i := 3) rfl)) ?_
  obtain ⟨x362, e363, hF⟩ := zD hF
  refine Mx.zX rfl rfl rfl (fun w' hw' => Do_idxA (X := zJ) u156 sz9 rfl rfl e363) ?_
  refine Mx.zX rfl rfl rfl (fun w' hw' => Do_load1 (v := .string (bs x362)) one9 rfl (Cells.ix (e := Fl.str) (x := zJ) (h358 w' hw').2.2 e363)) ?_
  obtain ⟨x364, e365, hF⟩ := zD hF
  refine Mx.zX rfl rfl rfl (fun w' hw' => xO (s1 := x360) (s2 := x362) rfl rfl e365) ?_
  obtain ⟨x366, e367, hF⟩ := zD hF
  refine Mx.zX rfl rfl rfl (fun w' hw' => xO (s1 := x364) (s2 := [32]) rfl rfl e367) ?_
  refine Mx.zX rfl rfl rfl (fun w' hw' => xI (v := .func (.func 102) #[] #[]) rfl) ?_
  refine Mx.zX rfl rfl rfl (fun w' hw' => fa54_4 rfl) ?_
  refine Mx.xM oS rfl rfl rfl (fun w' hw' => zT one3 rfl (Cells.get ((H.sees hw').item (i := 2) rfl).2.2 (i := 4) rfl)) ?_
  have H368 := H
  obtain ⟨x369, e370, hF⟩ := zD hF
  refine Mx.XL_effC oS rfl rfl rfl (fun w' hw' => DoC_clo en102 rfl rfl) (fun w' hw' => E.X_Itoa_w p0.N _ e370 _ _ _ ((H.sees hw').enter [] [] (by decide) rfl)) ?_
  rintro w' _ w371 hw' ⟨rfl, G372⟩
  have H := (H368.sees hw').step (G372.only : Only [] _ _)
  refine ⟨_, rfl, H.only, ?_⟩
  obtain ⟨x373, e374, hF⟩ := zD hF
  refine Mx.zX rfl rfl rfl (fun w' hw' => xO (s1 := x366) (s2 := x369) rfl rfl e374) ?_
  refine Mx.zX rfl rfl rfl (fun w' hw' => xU (v := .string (bs x373)) rfl) ?_
  refine Mx.XL_nil fun w375 hS => ?_
  have H := H.sees hS
  have H := H356.rejoin H
  refine (zA (hK355 _ _ ?_))
  obtain rfl := someI hF
  refine (zZ (yF (zY (post1 (v1 := .string (bs x373)) rfl rfl ?_))))
  exact ⟨rfl, H.pick [] (by decide)⟩
 have hF := zN c354 hF
 refine zC fun K376 hK376 => ?_
 refine zB ?_
 obtain ⟨x377, e378, hF⟩ := zG hF
 refine zH (zS (yP (a := p0.Kind) (b := 4) rfl rfl) e378) ?_
 refine zI (.bool x377) ?_
 refine (zF (zA (hK376 _ _ ?_)))
 refine zW (b := x377) rfl (fun c379 => ?_) (fun c379 => ?_)
 ·have hF := zO c379 hF
  refine zC fun K380 hK380 => ?_
  have H381 := H
  have H := H.rebase
  have H382 := H
  refine WP_mix0 H [0, 1, 2, 3, 4, 5, 6, 7, 8, 9, 10, 11, 12] [.pure, .read, .pure, .pure, .read, .pure, .read, .pure, .pure, .pure, .read, .pure, .pure] mixed (by kernel_rfl) (by kernel_rfl) (by kernel_rfl) rfl ?_
  refine Mx.zX rfl rfl rfl (fun w' hw' => fa54_1 rfl) ?_
  refine Mx.xM oS rfl rfl rfl (fun w' hw' => zT one9 rfl (Cells.get (Blk.cells ((H.sees hw').item (i := 2) rfl)) (i := 1) rfl)) ?_
  obtain ⟨x383, e384, hF⟩ := zD hF
  refine Mx.zX rfl rfl rfl (fun w' hw' => xO (s1 := p0.Name) (s2 := [32]) rfl rfl e384) ?_
  refine Mx.zX rfl rfl rfl (fun w' hw' => fa54_3 rfl) ?_
  refine Mx.xM oS rfl rfl rfl (fun w' hw' => zT one3 rfl (Cells.get (Blk.cells ((H.sees hw').item (i := 2) rfl)) (i := 3) rfl)) ?_
  obtain ⟨x385, e386, hF⟩ := zD hF
  refine Mx.zX rfl rfl rfl (fun w' hw' => Do_idxA (X := zJ) u156 sz9 rfl rfl e386) ?_
  refine Mx.xM oS rfl rfl rfl (fun w' hw' => Do_load1 (v := .string (bs x385)) one9 rfl (Cells.ix (e := Fl.str) (x := zJ) ((H.sees hw').item (i := 1) rfl).2.2 e386)) ?_
  obtain ⟨x387, e388, hF⟩ := zD hF
  refine Mx.zX rfl rfl rfl (fun w' hw' => xO (s1 := x383) (s2 := x385) rfl rfl e388) ?_
  obtain ⟨x389, e390, hF⟩ := zD hF
  refine Mx.zX rfl rfl rfl (fun w' hw' => xO (s1 := x387) (s2 := [32]) rfl rfl e390) ?_
  refine Mx.zX rfl rfl rfl (fun w' hw' => fa54_2 rfl) ?_
  refine Mx.xM oS rfl rfl rfl (fun w' hw' => zT one9 rfl (Cells.get (Blk.cells ((H.sees hw').item (i := 2) rfl)) (i := 2) rfl)) ?_
  obtain ⟨x391, e392, hF⟩ := zD hF
  refine Mx.zX rfl rfl rfl (fun w' hw' => xO (s1 := x389) (s2 := p0.Other) rfl rfl e392) ?_
  refine Mx.zX rfl rfl rfl (fun w' hw' => xU (v := .string (bs x391)) rfl) ?_
  refine Mx.XL_nil fun w393 hS => ?_
  have H := H.sees hS
  have H := H381.rejoin H
  refine (zA (hK380 _ _ ?_))
  obtain rfl := someI hF
  refine (zZ (yF (zY (post1 (v1 := .string (bs x391)) rfl rfl ?_))))
  exact ⟨rfl, H.pick [] (by decide)⟩
 have hF := zN c379 hF
 refine zC fun K394 hK394 => ?_
 refine zB ?_
 obtain ⟨x395, e396, hF⟩ := zG hF
 refine zH (zS (yP (a := p0.Kind) (b := 5) rfl rfl) e396) ?_
 refine zI (.bool x395) ?_
 refine (zF (zA (hK394 _ _ ?_)))
 refine zW (b := x395) rfl (fun c397 => ?_) (fun c397 => ?_)
 ·have hF := zO c397 hF
  refine zC fun K398 hK398 => ?_
  have H := H.freezeB (i := 2) rfl
  have H399 := H
  have H := H.rebase
  have H400 := H
  have h401 := H.firm (i := 2) rfl
  refine WP_mix H [0, 1, 2, 3, 4, 5, 6, 10, 11, 12, 7, 8, 9, 13, 14, 15] [.pure, .pure, .pure, .pure, .pure, .pure, .read, .eff, .pure, .pure, .pure, .pure, .pure, .eff, .pure, .pure] mixed (by kernel_rfl) (by kernel_rfl) (by kernel_rfl) (by decide) ?_
  refine Mx.zX rfl rfl rfl (fun w' hw' => fa54_1 rfl) ?_
  refine Mx.zX rfl rfl rfl (fun w' hw' => zT one9 rfl (Cells.get (h401 w' hw').2.2 (i := 1) rfl)) ?_
  obtain ⟨x402, e403, hF⟩ := zD hF
  refine Mx.zX rfl rfl rfl (fun w' hw' => xO (s1 := [115, 116, 101, 97, 100, 121, 32]) (s2 := p0.Name) rfl rfl e403) ?_
  obtain ⟨x404, e405, hF⟩ := zD hF
  refine Mx.zX rfl rfl rfl (fun w' hw' => xO (s1 := x402) (s2 := [32]) rfl rfl e405) ?_
  refine Mx.zX rfl rfl rfl (fun w' hw' => xI (v := .func (.func 102) #[] #[]) rfl) ?_
  refine Mx.zX rfl rfl rfl (fun w' hw' => fa54_4 rfl) ?_
  refine Mx.xM oS rfl rfl rfl (fun w' hw' => zT one3 rfl (Cells.get ((H.sees hw').item (i := 2) rfl).2.2 (i := 4) rfl)) ?_
  refine Mx.zX rfl rfl rfl (fun w' hw' => xI (v := .func (.func 102) #[] #[]) rfl) ?_
  refine Mx.zX rfl rfl rfl (fun w' hw' => fa54_5 rfl) ?_
  refine Mx.zX rfl rfl rfl (fun w' hw' => zT one3 rfl (Cells.get (h401 w' hw').2.2 (i := 5) rfl)) ?_
  have H406 := H
  obtain ⟨x407, e408, hF⟩ := zD hF
  refine Mx.XL_effC oS rfl rfl rfl (fun w' hw' => DoC_clo en102 rfl rfl) (fun w' hw' => E.X_Itoa_w p0.N _ e408 _ _ _ ((H.sees hw').enter [] [] (by decide) rfl)) ?_
  rintro w' _ w409 hw' ⟨rfl, G410⟩
  have H := (H406.sees hw').step (G410.only : Only [] _ _)
  refine ⟨_, rfl, H.only, ?_⟩
  obtain ⟨x411, e412, hF⟩ := zD hF
  refine Mx.zX rfl rfl rfl (fun w' hw' => xO (s1 := x404) (s2 := x407) rfl rfl e412) ?_
  obtain ⟨x413, e414, hF⟩ := zD hF
  refine Mx.zX rfl rfl rfl (fun w' hw' => xO (s1 := x411) (s2 := [32]) rfl rfl e414) ?_
  have H415 := H
  obtain ⟨x416, e417, hF⟩ := zD hF
  refine Mx.XL_effC oS rfl rfl rfl (fun w' hw' => DoC_clo en102 rfl rfl) (fun w' hw' => E.X_Itoa_w p0.Frames _ e417 _ _ _ ((H.sees hw').enter [] [] (by decide) rfl)) ?_
  rintro w' _ w418 hw' ⟨rfl, G419⟩
  have H := (H415.sees hw').step (G419.only : Only [] _ _)
  refine ⟨_, rfl, H.only, ?_⟩
  obtain ⟨x420, e421, hF⟩ := zD hF
  refine Mx.zX rfl rfl rfl (fun w' hw' => xO (s1 := x413) (s2 := x416) rfl rfl e421) ?_
  refine Mx.zX rfl rfl rfl (fun w' hw' => xU (v := .string (bs x420)) rfl) ?_
  refine Mx.XL_nil fun w422 hS => ?_
  have H := H.sees hS
  have H := H399.rejoin H
  refine (zA (hK398 _ _ ?_))
  obtain rfl := someI hF
  refine (zZ (yF (zY (post1 (v1 := .string (bs x420)) rfl rfl ?_))))
  exact ⟨rfl, H.pick [] (by decide)⟩
 have hF := zN c397 hF
 refine zC fun K423 hK423 => ?_
 refine zB ?_
 obtain ⟨x424, e425, hF⟩ := zG hF
 refine zH (zS (yP (a := p0.Kind) (b := 6) rfl rfl) e425) ?_
 refine zI (.bool x424) ?_
 refine (zF (zA (hK423 _ _ ?_)))
 refine zW (b := x424) rfl (fun c426 => ?_) (fun c426 => ?_)
 ·have hF := zO c426 hF
  refine zC fun K427 hK427 => ?_
  refine zB ?_
  refine zH (fa54_1 rfl) ?_
  refine zH (zT one9 rfl (Cells.get (Blk.cells (H.item (i := 2) rfl)) (i := 1) rfl)) ?_
  obtain ⟨x428, e429, hF⟩ := zD hF
  refine zH (xO (s1 := [112, 104, 97, 115, 101, 32]) (s2 := p0.Name) rfl rfl e429) ?_
  refine zI (.string (bs x428)) ?_
  refine (zF (zA (hK427 _ _ ?_)))
  obtain rfl := someI hF
  refine (zZ (yF (zY (post1 (v1 := .string (bs x428)) rfl rfl ?_))))
  exact ⟨rfl, H.pick [] (by decide)⟩
 have hF := zN c426 hF
 refine zC fun K430 hK430 => ?_
 refine zB ?_
 obtain ⟨x431, e432, hF⟩ := zG hF
 refine zH (zS (yP (a := p0.Kind) (b := 7) rfl rfl) e432) ?_
 refine zI (.bool x431) ?_
 refine (zF (zA (hK430 _ _ ?_)))
 refine zW (b := x431) rfl (fun c433 => ?_) (fun c433 => ?_)
 ·have hF := zO c433 hF
  refine zC fun K434 hK434 => ?_
  refine zB ?_
  refine zH (fa54_1 rfl) ?_
  refine zH (zT one9 rfl (Cells.get (Blk.cells (H.item (i := 2) rfl)) (i := 1) rfl)) ?_
  obtain ⟨x435, e436, hF⟩ := zD hF
  refine zH (xO (s1 := [114, 117, 108, 101, 32]) (s2 := p0.Name) rfl rfl e436) ?_
  refine zI (.string (bs x435)) ?_
  refine (zF (zA (hK434 _ _ ?_)))
  obtain rfl := someI hF
  refine (zZ (yF (zY (post1 (v1 := .string (bs x435)) rfl rfl ?_))))
  exact ⟨rfl, H.pick [] (by decide)⟩
 have hF := zN c433 hF
 refine zC fun K437 hK437 => ?_
 refine zB ?_
 obtain ⟨x438, e439, hF⟩ := zG hF
 refine zH (zS (yP (a := p0.Kind) (b := 8) rfl rfl) e439) ?_
 refine zI (.bool x438) ?_
 refine (zF (zA (hK437 _ _ ?_)))
 refine zW (b := x438) rfl (fun c440 => ?_) (fun c440 => ?_)
 ·have hF := zO c440 hF
  refine zC fun K441 hK441 => ?_
  refine zB ?_
  refine zM (.func (.func 103) #[] #[.pointer (some ⟨b5, 0, none⟩)]) ?_
  obtain ⟨x442, e443, hF⟩ := zD hF
  refine zV rfl rfl (DoC_clo en103 rfl rfl) (F_event_condText_1_w rfM rhM p0 b5 v1 _ e443 _ _ _ (H.enter [2] [0, 1] (by decide) rfl)) ?_
  rintro _ w444 ⟨rfl, G445⟩
  have H : Hd O _ w444 _ [.fz (.sl rCond v1 p0.Kids), .fz (.at 0 0 ((Fl.arr 7 Fl.str).f zJ)), .blk b5 [.int .i64 p0.Kind, .string (bs p0.Name), .string (bs p0.Other), .int .i64 p0.Op, .int .i64 p0.N, .int .i64 p0.Frames, v1] 54] := H.back [2] [0, 1] rfl G445
  refine ⟨_, rfl, ?_⟩
  obtain ⟨x446, e447, hF⟩ := zD hF
  refine zH (xO (s1 := [110, 111, 116, 32]) (s2 := x442) rfl rfl e447) ?_
  refine zI (.string (bs x446)) ?_
  refine (zF (zA (hK441 _ _ ?_)))
  obtain rfl := someI hF
  refine (zZ (yF (zY (post1 (v1 := .string (bs x446)) rfl rfl ?_))))
  exact ⟨rfl, H.pick [] (by decide)⟩
 have hF := zN c440 hF
 refine zC fun K448 hK448 => ?_
 refine zB ?_
 obtain ⟨x449, e450, hF⟩ := zG hF
 refine zH (zS (yP (a := p0.Kind) (b := 11) rfl rfl) e450) ?_
 refine zI (.bool x449) ?_
 refine (zF (zA (hK448 _ _ ?_)))
 refine zW (b := x449) rfl (fun c451 => ?_) (fun c451 => ?_)
 ·have hF := zO c451 hF
  refine zC fun K452 hK452 => ?_
  refine zB ?_
  refine zM (.func (.func 102) #[] #[]) ?_
  refine zH (fa54_5 rfl) ?_
  refine zH (zT one3 rfl (Cells.get (Blk.cells (H.item (i := 2) rfl)) (i := 5) rfl)) ?_
  have H453 := H
  obtain ⟨x454, e455, hF⟩ := zD hF
  refine zV rfl rfl (DoC_clo en102 rfl rfl) (E.X_Itoa_w p0.Frames _ e455 _ _ _ (H.enter [] [] (by decide) rfl)) ?_
  rintro _ w456 ⟨rfl, G457⟩
  have H := H453.step (G457.only : Only [] _ _)
  refine ⟨_, rfl, ?_⟩
  obtain ⟨x458, e459, hF⟩ := zD hF
  refine zH (xO (s1 := [102, 111, 114, 32]) (s2 := x454) rfl rfl e459) ?_
  obtain ⟨x460, e461, hF⟩ := zD hF
  refine zH (xO (s1 := x458) (s2 := [32]) rfl rfl e461) ?_
  refine zM (.func (.func 103) #[] #[.pointer (some ⟨b5, 0, none⟩)]) ?_
  obtain ⟨x462, e463, hF⟩ := zD hF
  refine zV rfl rfl (DoC_clo en103 rfl rfl) (F_event_condText_1_w rfM rhM p0 b5 v1 _ e463 _ _ _ (H.enter [2] [0, 1] (by decide) rfl)) ?_
  rintro _ w464 ⟨rfl, G465⟩
  have H : Hd O _ w464 _ [.fz (.sl rCond v1 p0.Kids), .fz (.at 0 0 ((Fl.arr 7 Fl.str).f zJ)), .blk b5 [.int .i64 p0.Kind, .string (bs p0.Name), .string (bs p0.Other), .int .i64 p0.Op, .int .i64 p0.N, .int .i64 p0.Frames, v1] 54] := H.back [2] [0, 1] rfl G465
  refine ⟨_, rfl, ?_⟩
  obtain ⟨x466, e467, hF⟩ := zD hF
  refine zH (xO (s1 := x460) (s2 := x462) rfl rfl e467) ?_
  refine zI (.string (bs x466)) ?_
  refine (zF (zA (hK452 _ _ ?_)))
  obtain rfl := someI hF
  refine (zZ (yF (zY (post1 (v1 := .string (bs x466)) rfl rfl ?_))))
  exact ⟨rfl, H.pick [] (by decide)⟩
 have hF := zN c451 hF
 refine zC fun K468 hK468 => ?_
 refine zB ?_
 obtain ⟨x469, e470, hF⟩ := zG hF
 refine zH (zS (yP (a := p0.Kind) (b := 12) rfl rfl) e470) ?_
 refine zI (.bool x469) ?_
 refine (zF (zA (hK468 _ _ ?_)))
 refine zW (b := x469) rfl (fun c471 => ?_) (fun c471 => ?_)
 ·have hF := zO c471 hF
  refine zC fun K472 hK472 => ?_
  refine zB ?_
  refine zM (.func (.func 102) #[] #[]) ?_
  refine zH (fa54_5 rfl) ?_
  refine zH (zT one3 rfl (Cells.get (Blk.cells (H.item (i := 2) rfl)) (i := 5) rfl)) ?_
  have H473 := H
  obtain ⟨x474, e475, hF⟩ := zD hF
  refine zV rfl rfl (DoC_clo en102 rfl rfl) (E.X_Itoa_w p0.Frames _ e475 _ _ _ (H.enter [] [] (by decide) rfl)) ?_
  rintro _ w476 ⟨rfl, G477⟩
  have H := H473.step (G477.only : Only [] _ _)
  refine ⟨_, rfl, ?_⟩
  obtain ⟨x478, e479, hF⟩ := zD hF
  refine zH (xO (s1 := [119, 105, 116, 104, 105, 110, 32]) (s2 := x474) rfl rfl e479) ?_
  obtain ⟨x480, e481, hF⟩ := zD hF
  refine zH (xO (s1 := x478) (s2 := [32]) rfl rfl e481) ?_
  refine zM (.func (.func 103) #[] #[.pointer (some ⟨b5, 0, none⟩)]) ?_
  obtain ⟨x482, e483, hF⟩ := zD hF
  refine zV rfl rfl (DoC_clo en103 rfl rfl) (F_event_condText_1_w rfM rhM p0 b5 v1 _ e483 _ _ _ (H.enter [2] [0, 1] (by decide) rfl)) ?_
  rintro _ w484 ⟨rfl, G485⟩
  have H : Hd O _ w484 _ [.fz (.sl rCond v1 p0.Kids), .fz (.at 0 0 ((Fl.arr 7 Fl.str).f zJ)), .blk b5 [.int .i64 p0.Kind, .string (bs p0.Name), .string (bs p0.Other), .int .i64 p0.Op, .int .i64 p0.N, .int .i64 p0.Frames, v1] 54] := H.back [2] [0, 1] rfl G485
  refine ⟨_, rfl, ?_⟩
  obtain ⟨x486, e487, hF⟩ := zD hF
  refine zH (xO (s1 := x480) (s2 := x482) rfl rfl e487) ?_
  refine zI (.string (bs x486)) ?_
  refine (zF (zA (hK472 _ _ ?_)))
  obtain rfl := someI hF
  refine (zZ (yF (zY (post1 (v1 := .string (bs x486)) rfl rfl ?_))))
  exact ⟨rfl, H.pick [] (by decide)⟩
 have hF := zN c471 hF
 refine zC fun K488 hK488 => ?_
 refine zB ?_
 obtain ⟨x489, e490, hF⟩ := zG hF
 refine zH (zS (yP (a := p0.Kind) (b := 13) rfl rfl) e490) ?_
 refine zI (.bool x489) ?_
 refine (zF (zA (hK488 _ _ ?_)))
 refine zW (b := x489) rfl (fun c491 => ?_) (fun c491 => ?_)
 ·have hF := zO c491 hF
  refine zC fun K492 hK492 => ?_
  have H := H.freezeB (i := 2) rfl
  have H493 := H
  have H := H.rebase
  have H494 := H
  have h495 := H.firm (i := 2) rfl
  refine WP_mix H [0, 1, 2, 6, 7, 8, 12, 3, 4, 5, 9, 10, 11, 13, 14, 15] [.pure, .pure, .read, .eff, .pure, .pure, .pure, .pure, .pure, .eff, .pure, .pure, .pure, .eff, .pure, .pure] mixed (by kernel_rfl) (by kernel_rfl) (by kernel_rfl) (by decide) ?_
  refine Mx.zX rfl rfl rfl (fun w' hw' => xI (v := .func (.func 102) #[] #[]) rfl) ?_
  refine Mx.zX rfl rfl rfl (fun w' hw' => fa54_4 rfl) ?_
  refine Mx.xM oS rfl rfl rfl (fun w' hw' => zT one3 rfl (Cells.get ((H.sees hw').item (i := 2) rfl).2.2 (i := 4) rfl)) ?_
  refine Mx.zX rfl rfl rfl (fun w' hw' => xI (v := .func (.func 102) #[] #[]) rfl) ?_
  refine Mx.zX rfl rfl rfl (fun w' hw' => fa54_5 rfl) ?_
  refine Mx.zX rfl rfl rfl (fun w' hw' => zT one3 rfl (Cells.get (h495 w' hw').2.2 (i := 5) rfl)) ?_
  refine Mx.zX rfl rfl rfl (fun w' hw' => xI (v := .func (.func 103) #[] #[.pointer (some ⟨b5, 0, none⟩)]) rfl) ?_
  have H496 := H
  obtain ⟨x497, e498, hF⟩ := zD hF
  refine Mx.XL_effC oS rfl rfl rfl (fun w' hw' => DoC_clo en102 rfl rfl) (fun w' hw' => E.X_Itoa_w p0.N _ e498 _ _ _ ((H.sees hw').enter [] [] (by decide) rfl)) ?_
  rintro w' _ w499 hw' ⟨rfl, G500⟩
  have H := (H496.sees hw').step (G500.only : Only [] _ _)
  refine ⟨_, rfl, H.only, ?_⟩
  obtain ⟨x501, e502, hF⟩ := zD hF
  refine Mx.zX rfl rfl rfl (fun w' hw' => xO (s1 := [99, 111, 117, 110, 116, 32]) (s2 := x497) rfl rfl e502) ?_
  obtain ⟨x503, e504, hF⟩ := zD hF
  refine Mx.zX rfl rfl rfl (fun w' hw' => xO (s1 := x501) (s2 := [32, 111, 102, 32]) rfl rfl e504) ?_
  have H505 := H
  obtain ⟨x506, e507, hF⟩ := zD hF
  refine Mx.XL_effC oS rfl rfl rfl (fun w' hw' => DoC_clo en102 rfl rfl) (fun w' hw' => E.X_Itoa_w p0.Frames _ e507 _ _ _ ((H.sees hw').enter [] [] (by decide) rfl)) ?_
  rintro w' _ w508 hw' ⟨rfl, G509⟩
  have H := (H505.sees hw').step (G509.only : Only [] _ _)
  refine ⟨_, rfl, H.only, ?_⟩
  obtain ⟨x510, e511, hF⟩ := zD hF
  refine Mx.zX rfl rfl rfl (fun w' hw' => xO (s1 := x503) (s2 := x506) rfl rfl e511) ?_
  obtain ⟨x512, e513, hF⟩ := zD hF
  refine Mx.zX rfl rfl rfl (fun w' hw' => xO (s1 := x510) (s2 := [32]) rfl rfl e513) ?_
  obtain ⟨x514, e515, hF⟩ := zD hF
  refine Mx.XL_effC oS rfl rfl rfl (fun w' hw' => DoC_clo en103 rfl rfl) (fun w' hw' => F_event_condText_1_z_w rfM rhM p0 b5 v1 _ e515 _ _ _ ((H.sees hw').enter [] [0, 2, 1] (by decide) rfl)) ?_
  rintro w' _ w516 hw' ⟨rfl, G517⟩
  have H := (H.sees hw').back0 [0, 2, 1] rfl G517
  refine ⟨_, rfl, H.only, ?_⟩
  obtain ⟨x518, e519, hF⟩ := zD hF
  refine Mx.zX rfl rfl rfl (fun w' hw' => xO (s1 := x512) (s2 := x514) rfl rfl e519) ?_
  refine Mx.zX rfl rfl rfl (fun w' hw' => xU (v := .string (bs x518)) rfl) ?_
  refine Mx.XL_nil fun w520 hS => ?_
  have H := H.sees hS
  have H := H493.rejoin H
  refine (zA (hK492 _ _ ?_))
  obtain rfl := someI hF
  refine (zZ (yF (zY (post1 (v1 := .string (bs x518)) rfl rfl ?_))))
  exact ⟨rfl, H.pick [] (by decide)⟩
 have hF := zN c491 hF
 refine zC fun K521 hK521 => ?_
 refine zB ?_
 obtain ⟨x522, e523, hF⟩ := zG hF
 refine zH (zS (yP (a := p0.Kind) (b := 15) rfl rfl) e523) ?_
 refine zI (.bool x522) ?_
 refine (zF (zA (hK521 _ _ ?_)))
 refine zW (b := x522) rfl (fun c524 => ?_) (fun c524 => ?_)
 ·have hF := zO c524 hF
  refine zC fun K525 hK525 => ?_
  refine zB ?_
  refine zM (.func (.func 103) #[] #[.pointer (some ⟨b5, 0, none⟩)]) ?_
  obtain ⟨x526, e527, hF⟩ := zD hF
  refine zV rfl rfl (DoC_clo en103 rfl rfl) (F_event_condText_1_w rfM rhM p0 b5 v1 _ e527 _ _ _ (H.enter [2] [0, 1] (by decide) rfl)) ?_
  rintro _ w528 ⟨rfl, G529⟩
  have H : Hd O _ w528 _ [.fz (.sl rCond v1 p0.Kids), .fz (.at 0 0 ((Fl.arr 7 Fl.str).f zJ)), .blk b5 [.int .i64 p0.Kind, .string (bs p0.Name), .string (bs p0.Other), .int .i64 p0.Op, .int .i64 p0.N, .int .i64 p0.Frames, v1] 54] := H.back [2] [0, 1] rfl G529
  refine ⟨_, rfl, ?_⟩
  obtain ⟨x530, e531, hF⟩ := zD hF
  refine zH (xO (s1 := [114, 105, 115, 101, 115, 32]) (s2 := x526) rfl rfl e531) ?_
  refine zI (.string (bs x530)) ?_
  refine (zF (zA (hK525 _ _ ?_)))
  obtain rfl := someI hF
  refine (zZ (yF (zY (post1 (v1 := .string (bs x530)) rfl rfl ?_))))
  exact ⟨rfl, H.pick [] (by decide)⟩
 have hF := zN c524 hF
 refine (yA (yR (zA (hK252 _ _ ?_))))
 refine zC fun K532 hK532 => ?_
 have H533 := H
 have H := H.rebase
 have H534 := H
 refine WP_mix0 H [0, 1, 2, 3, 4, 5, 6, 7, 8, 9, 10, 11, 12, 13] [.pure, .read, .pure, .read, .read, .pure, .pure, .pure, .read, .pure, .read, .read, .pure, .pure] mixed (by kernel_rfl) (by kernel_rfl) (by kernel_rfl) rfl ?_
 refine Mx.zX rfl rfl rfl (fun w' hw' => fa54_6 rfl) ?_
 refine Mx.xM oS rfl rfl rfl (fun w' hw' => zT one52 rfl (Cells.get (Blk.cells ((H.sees hw').item (i := 2) rfl)) (i := 6) rfl)) ?_
 obtain ⟨x535, e536, hF⟩ := zD hF
 obtain ⟨b537, o538, c539, cs540, q541, h544, h542, h543, h545⟩ := rd_at (H.item (i := 0) rfl) e536
 obtain ⟨v546, rfl, h547⟩ := xX h544
 have H := H.fzs [.at b537 (o538 + (0 : Int).toNat * 7) _, .sl rCond v546 x535.Kids] ⟨⟨h542, h543, h545⟩, h547, trivial⟩
 refine Mx.zX rfl rfl rfl (fun w' hw' => Do_idx u52 sz54 q541 rfl (yU e536).1 (yU e536).2.1 rfl rfl) ?_
 refine Mx.xM oS rfl rfl rfl (fun w' hw' => yQ (yM (cs := [.int .i64 x535.Kind, .string (bs x535.Name), .string (bs x535.Other), .int .i64 x535.Op, .int .i64 x535.N, .int .i64 x535.Frames, v546]) agg54 rfl sz54 rfl ((H.sees hw').item (i := 3) rfl).2.2) rfl) ?_
 have H550 := H
 obtain ⟨x551, e552, hF⟩ := zD hF
 refine Mx.XL_call oS rfl rfl rfl (v := .string (bs x551)) (fun w' hw' => zU en51 rfl) (fun w' hw' => call_read (rhM x535 3 v546 _ e552 _ _ _ ((H.sees hw').enter [] [4, 1] (by decide) rfl))) ?_
 have H := H550
 obtain ⟨x553, e554, hF⟩ := zD hF
 refine Mx.zX rfl rfl rfl (fun w' hw' => xO (s1 := [115, 105, 110, 99, 101, 32]) (s2 := x551) rfl rfl e554) ?_
 obtain ⟨x555, e556, hF⟩ := zD hF
 refine Mx.zX rfl rfl rfl (fun w' hw' => xO (s1 := x553) (s2 := [32]) rfl rfl e556) ?_
 refine Mx.zX rfl rfl rfl (fun w' hw' => fa54_6 rfl) ?_
 refine Mx.xM oS rfl rfl rfl (fun w' hw' => zT one52 rfl (Cells.get (Blk.cells ((H.sees hw').item (i := 2) rfl)) (i := 6) rfl)) ?_
 obtain ⟨x557, e558, hF⟩ := zD hF
 obtain ⟨b559, o560, c561, cs562, q563, h566, h564, h565, h567⟩ := rd_at (H.item (i := 0) rfl) e558
 obtain ⟨v568, rfl, h569⟩ := xX h566
 have H := H.fzs [.at b559 (o560 + (1 : Int).toNat * 7) _, .sl rCond v568 x557.Kids] ⟨⟨h564, h565, h567⟩, h569, trivial⟩
 refine Mx.zX rfl rfl rfl (fun w' hw' => Do_idx u52 sz54 q563 rfl (yU e558).1 (yU e558).2.1 rfl rfl) ?_
 refine Mx.xM oS rfl rfl rfl (fun w' hw' => yQ (yM (cs := [.int .i64 x557.Kind, .string (bs x557.Name), .string (bs x557.Other), .int .i64 x557.Op, .int .i64 x557.N, .int .i64 x557.Frames, v568]) agg54 rfl sz54 rfl ((H.sees hw').item (i := 5) rfl).2.2) rfl) ?_
 have H572 := H
 obtain ⟨x573, e574, hF⟩ := zD hF
 refine Mx.XL_call oS rfl rfl rfl (v := .string (bs x573)) (fun w' hw' => zU en51 rfl) (fun w' hw' => call_read (rhM x557 3 v568 _ e574 _ _ _ ((H.sees hw').enter [] [6, 1] (by decide) rfl))) ?_
 have H := H572
 obtain ⟨x575, e576, hF⟩ := zD hF
 refine Mx.zX rfl rfl rfl (fun w' hw' => xO (s1 := x555) (s2 := x573) rfl rfl e576) ?_
 refine Mx.zX rfl rfl rfl (fun w' hw' => xU (v := .string (bs x575)) rfl) ?_
 refine Mx.XL_nil fun w577 hS => ?_
 have H := H.sees hS
 have H := H533.rejoin H
 refine (zA (hK532 _ _ ?_))
 obtain rfl := someI hF
 refine (zZ (post1 (v1 := .string (bs x575)) rfl rfl ?_))
 exact ⟨rfl, H.pick [] (by decide)⟩
theorem F_event_condText_s : S_event_condText (F_event_condText) := by
 have h : ∀ n, S_event_condText (F_event_condText_R n) := by
  intro n
  induction n with
  | zero => intro p0 p1 v1 r hF; cases hF
  | succ n ih => intro p0 p1 v1 r hF; exact F_event_condText_B_w (F_event_condText_R n) ih p0 p1 v1 r hF
 exact h FU
set_option maxHeartbeats 4000000 in
theorem F_strings_Builder_Len_w (p0 : List Int) (b1 : Nat) (v2 : Value) (v3 : Value) (r : Int × (List Int)) (hF : F_strings_Builder_Len p0 = some r) (O S : List Nat) (w : World) (H : Hd O w w S [.own (Rp.int .u8) v3 5 p0, .blk b1 [v2, v3] 111, .fz (.oq v2 b1)]) :
  Calls Tryz.prog 52 ([.pointer (some ⟨b1, 0, none⟩)] : List Value).toArray w fun e w' => ∃ u7 u8, e = .returned (.int .i64 r.1) ∧ Hd O w w' S [.fz (.oq u7 b1), .own (Rp.int .u8) u8 5 r.2, .blk b1 [u7, u8] 111] := by
 unfold F_strings_Builder_Len at hF
 refine yB 8 Tryz.func52 rfl rfl rfl ?_
 refine zC fun K9 hK9 => ?_
 refine zB ?_
 refine zI (.int .i64 0) ?_
 refine (zF (zA (hK9 _ _ ?_)))
 refine zC fun K10 hK10 => ?_
 refine zB ?_
 refine zM (.pointer (some ⟨b1, 0, none⟩)) ?_
 refine zH (yG rfl) ?_
 refine zH (fa111_1 rfl) ?_
 refine zH (zT one77 rfl (Cells.get (Blk.cells (H.item (i := 1) rfl)) (i := 1) rfl)) ?_
 obtain ⟨x11, e12, hF⟩ := zG hF
 obtain ⟨a13, c14, q15⟩ := Sr.len (Sr.of_own (H.item (i := 0) rfl))
 refine zH (yQ (Do_len u77 q15) (congrArg (Value.int .i64) e12)) ?_
 refine zI (.int .i64 x11) ?_
 refine (zF (zA (hK10 _ _ ?_)))
 obtain rfl := someI hF
 refine (zZ (post1 (v1 := .int .i64 x11) rfl rfl ?_))
 exact ⟨v2, v3, rfl, H.pick [2, 0, 1] (by decide)⟩
set_option maxHeartbeats 4000000 in
set_option maxRecDepth 100000 in
theorem F_event_Print_w (p0 : Rules) (v1 : Value) (v2 : Value) (v3 : Value) (r : Str × Int) (hF : F_event_Print p0 = some r) (O S : List Nat) (w : World) (H : Hd O w w S [.fz (.sl Rp.str v1 p0.Phases), .fz (.sl rMoveT v2 p0.Moves), .fz (.sl rRule v3 p0.Rules), .fz (.at 0 0 ((Fl.arr 7 Fl.str).f zJ))]) :
  Calls Tryz.prog 16 ([.agg [v1, v2, v3].toArray] : List Value).toArray w fun e w' => e = .returned (.tuple #[.string (bs r.1), .int .i64 r.2]) ∧ Hd O w w' S [] := by
 unfold F_event_Print at hF
 refine yB 72 Tryz.func16 rfl rfl rfl ?_
 refine zC fun K8 hK8 => ?_
 refine zB ?_
 refine yX rfl rfl (Lx_box (cs := [v1, v2, v3]) rfl H) ?_
 rintro _ w11 ⟨b9, rfl, H⟩
 refine zI (.string (bs [])) ?_
 refine zI (.int .i64 0) ?_
 refine (zF (zA (hK8 _ _ ?_)))
 refine zC fun K23 hK23 => ?_
 refine zC fun K24 hK24 => ?_
 refine zB ?_
 refine zH (yQ (yM (cs := [v1, v2, v3]) agg26 rfl sz26 rfl (Blk.cells (H.item (i := 4) rfl))) rfl) ?_
 have H25 := H
 obtain ⟨x26, e27, hF⟩ := zD hF
 refine zV rfl rfl (zU en40 rfl) (F_event_Check_w p0 v1 v2 v3 _ e27 _ _ _ (H.enter [] [0, 1, 2] (by decide) rfl)) ?_
 rintro _ w28 ⟨rfl, G29⟩
 have H := H25.step (G29.only : Only [] _ _)
 refine ⟨_, rfl, ?_⟩
 refine zI (.int .i64 x26) ?_
 refine (zF (zA (hK24 _ _ ?_)))
 refine zC fun K30 hK30 => ?_
 refine zB ?_
 refine zM (.int .i64 x26) ?_
 obtain ⟨x31, e32, hF⟩ := zG hF
 refine zH (zS (Do_neq (a := x26) (b := 0) rfl rfl) e32) ?_
 refine (zF (zA (hK30 _ _ ?_)))
 refine zW (b := x31) rfl (fun c33 => ?_) (fun c33 => ?_)
 ·have hF := zO c33 hF
  refine zC fun K34 hK34 => ?_
  refine zB ?_
  refine zM (.int .i64 x26) ?_
  refine zI (.string (bs [])) ?_
  refine zI (.int .i64 x26) ?_
  refine (zF (zA (hK34 _ _ ?_)))
  obtain rfl := someI hF
  refine (zZ (zY (post2 (v1 := .string (bs [])) (v2 := .int .i64 x26) rfl rfl rfl ?_)))
  exact ⟨rfl, H.pick [] (by decide)⟩
 have hF := zN c33 hF
 refine (yA (zA (hK23 _ _ ?_)))
 refine zC fun K35 hK35 => ?_
 refine zB ?_
 refine yX rfl rfl (xB zero111 H) ?_
 rintro _ w38 ⟨b36, rfl, H⟩
 refine (zF (zA (hK35 _ _ ?_)))
 obtain ⟨g192, hF, hK195⟩ := zD hF
 refine yL [7, 17, 18, 19, 20, 21, 22, 23, 24, 25, 26, 27, 28] (fun (g : Value × Value) => []) (fun g wl => Hd O w wl S [.fz (.sl Rp.str v1 p0.Phases), .fz (.sl rMoveT v2 p0.Moves), .fz (.sl rRule v3 p0.Rules), .fz (.at 0 0 ((Fl.arr 7 Fl.str).f zJ)), .blk b9 [v1, v2, v3] 26, .blk b36 [g.1, g.2] 111, .fz (.oq g.1 b36), .own (Rp.int .u8) g.2 5 g192]) ?_ ?_
 ·skip
  refine zC fun K196 hK196 => ?_
  refine zB ?_
  refine zH (fa26_0 rfl) ?_
  refine zH (zT one22 rfl (Cells.get (Blk.cells (H.item (i := 4) rfl)) (i := 0) rfl)) ?_
  obtain ⟨x197, e198, hF⟩ := zG hF
  obtain ⟨a199, c200, q201⟩ := SlF.len ((H.item (i := 0) rfl))
  refine zH (yQ (Do_len u22 q201) (congrArg (Value.int .i64) e198)) ?_
  refine zM (.int .i64 0) ?_
  refine (zF (zA (hK196 _ _ ?_)))
  refine yJ ?_
  have H := H.fz (.oq (.pointer none) b36) (.inl rfl)
  have H := own_nil H (Rp.int .u8) 5
  unfold F_event_Print_L1 at hF
  obtain ⟨B346, n347, eB348, hF⟩ := yY hF
  refine xK [7, 20, 21, 22, 23, 24, 25, 26, 27, 28] (fun (g : Nat × Int × (List Int) × Value × Value) => [(20, .int .i64 g.2.1)]) (fun g wl => Hd O w wl S [.fz (.sl Rp.str v1 p0.Phases), .fz (.sl rMoveT v2 p0.Moves), .fz (.sl rRule v3 p0.Rules), .fz (.at 0 0 ((Fl.arr 7 Fl.str).f zJ)), .blk b9 [v1, v2, v3] 26, .blk b36 [g.2.2.2.1, g.2.2.2.2] 111, .fz (.oq g.2.2.2.1 b36), .own (Rp.int .u8) g.2.2.2.2 5 g.2.2.1] ∧ loopN B346 g.1 (g.2.1, g.2.2.1) = some g192) (fun g => g.1) (n347, 0, [], .pointer none, .slice none 0 0) (zK rfl zL) ⟨H.pick [0, 1, 2, 3, 4, 5, 6, 7] (by decide), hF⟩ ?_
  clear H hF
  rintro ⟨n347, g338, g342, v339, v343⟩ ρ w350 ⟨H, hF⟩
  obtain ⟨n351, rfl, hF⟩ := xE hF
  have hF := xC eB348 hF
  refine zC fun K352 hK352 => ?_
  refine zB ?_
  obtain ⟨x353, e354, hF⟩ := zG hF
  refine zH (zS (xZ (a := g338) (b := x197) rfl rfl) e354) ?_
  refine (zF (zA (hK352 _ _ ?_)))
  refine zC fun K356 hK356 => ?_
  refine zW (b := x353) rfl (fun c357 => ?_) (fun c357 => ?_)
  ·have hF := zO c357 hF
   refine (yA (zA (hK356 _ _ ?_)))
   refine zC fun K385 hK385 => ?_
   refine yJ ?_
   refine zC fun K386 hK386 => ?_
   refine zB ?_
   obtain ⟨x387, e388, hF⟩ := zD hF
   obtain ⟨b389, o390, c391, cs392, q393, h396, h394, h395, h397⟩ := rd_at (H.item (i := 0) rfl) e388
   obtain rfl : cs392 = [.string (bs x387)] := h396
   have H := H.fz (.at b389 (o390 + g338.toNat * 1) _) ⟨h394, h395, h397⟩
   refine zH (Do_idx u22 sz9 q393 rfl (yU e388).1 (yU e388).2.1 rfl rfl) ?_
   refine zH (zT one9 rfl (Cells.get (H.item (i := 8) rfl).2.2 (i := 0) rfl)) ?_
   refine zI (.string (bs x387)) ?_
   refine (zF (zA (hK386 _ _ ?_)))
   refine zB ?_
   refine zM (.string (bs x387)) ?_
   obtain ⟨x399, e400, hF⟩ := zD hF
   refine zH (xO (s1 := [112, 104, 97, 115, 101, 32]) (s2 := x387) rfl rfl e400) ?_
   obtain ⟨x401, e402, hF⟩ := zD hF
   refine zH (xO (s1 := x399) (s2 := [10]) rfl rfl e402) ?_
   obtain ⟨⟨x403, x404, x405⟩, e406, hF⟩ := zD hF
   refine zV rfl rfl (zU en50 rfl) (F_strings_Builder_WriteString_w g342 x401 b36 v339 v343 _ e406 _ _ _ (H.enter [7, 5] [6] (by decide) rfl)) ?_
   rintro _ w411 ⟨v407, v408, rfl, G412⟩
   have H : Hd O _ w411 _ [.fz (.sl Rp.str v1 p0.Phases), .fz (.sl rMoveT v2 p0.Moves), .fz (.sl rRule v3 p0.Rules), .fz (.at 0 0 ((Fl.arr 7 Fl.str).f zJ)), .blk b9 [v1, v2, v3] 26, .fz (.oq v339 b36), .fz (.at b389 (o390 + g338.toNat * 1) [.string (bs x387)]), .fz (.oq v407 b36), .own (Rp.int .u8) v408 5 x405, .blk b36 [v407, v408] 111] := H.back [7, 5] [6] rfl G412
   refine ⟨_, rfl, ?_⟩
   refine (zF (yR (zA (hK385 _ _ ?_))))
   refine zB ?_
   obtain ⟨x413, e414, hF⟩ := zG hF
   refine zH (wC (a := g338) (b := 1) rfl rfl e414) ?_
   refine zM (.int .i64 x413) ?_
   exact (zF (zA (meet ⟨(n351, x413, x405, v407, v408), (zK rfl zL), ⟨H.pick [0, 1, 2, 3, 4, 9, 7, 8] (by decide), hF⟩, Nat.lt_succ_self _⟩)))
  have hF := zN c357 hF
  obtain rfl := someI hF
  exact (xW (yT (yT (xG (zA (meet ⟨(v339, v343), zL, H.pick [0, 1, 2, 3, 4, 5, 6, 7] (by decide)⟩))))))
 rintro ⟨v189, v193⟩ ρ w194 H
 have hF := hK195
 obtain ⟨g650, hF, hK653⟩ := zD hF
 refine yL [9, 29, 30, 31, 32, 33, 34, 35, 36, 37, 38, 39, 40, 41, 42, 43, 44, 45, 46, 47, 48, 49, 50] (fun (g : Value × Value) => []) (fun g wl => Hd O w wl S [.fz (.sl Rp.str v1 p0.Phases), .fz (.sl rMoveT v2 p0.Moves), .fz (.sl rRule v3 p0.Rules), .fz (.at 0 0 ((Fl.arr 7 Fl.str).f zJ)), .blk b9 [v1, v2, v3] 26, .blk b36 [g.1, g.2] 111, .fz (.oq g.1 b36), .own (Rp.int .u8) g.2 5 g650]) ?_ ?_
 ·skip
  refine zC fun K654 hK654 => ?_
  refine zB ?_
  refine zH (fa26_1 rfl) ?_
  refine zH (zT one23 rfl (Cells.get (Blk.cells (H.item (i := 4) rfl)) (i := 1) rfl)) ?_
  obtain ⟨x655, e656, hF⟩ := zG hF
  obtain ⟨a657, c658, q659⟩ := SlF.len ((H.item (i := 1) rfl))
  refine zH (yQ (Do_len u23 q659) (congrArg (Value.int .i64) e656)) ?_
  refine zM (.int .i64 0) ?_
  refine (zF (zA (hK654 _ _ ?_)))
  refine yJ ?_
  unfold F_event_Print_L2 at hF
  obtain ⟨B886, n887, eB888, hF⟩ := yY hF
  refine xK [9, 32, 33, 34, 35, 36, 37, 38, 39, 40, 41, 42, 43, 44, 45, 46, 47, 48, 49, 50] (fun (g : Nat × Int × (List Int) × Value × Value) => [(32, .int .i64 g.2.1)]) (fun g wl => Hd O w wl S [.fz (.sl Rp.str v1 p0.Phases), .fz (.sl rMoveT v2 p0.Moves), .fz (.sl rRule v3 p0.Rules), .fz (.at 0 0 ((Fl.arr 7 Fl.str).f zJ)), .blk b9 [v1, v2, v3] 26, .blk b36 [g.2.2.2.1, g.2.2.2.2] 111, .fz (.oq g.2.2.2.1 b36), .own (Rp.int .u8) g.2.2.2.2 5 g.2.2.1] ∧ loopN B886 g.1 (g.2.1, g.2.2.1) = some g650) (fun g => g.1) (n887, 0, g192, v189, v193) (zK rfl zL) ⟨H.pick [0, 1, 2, 3, 4, 5, 6, 7] (by decide), hF⟩ ?_
  clear H hF
  rintro ⟨n887, g880, g884, v881, v885⟩ ρ w890 ⟨H, hF⟩
  obtain ⟨n891, rfl, hF⟩ := xE hF
  have hF := xC eB888 hF
  refine zC fun K892 hK892 => ?_
  refine zB ?_
  obtain ⟨x893, e894, hF⟩ := zG hF
  refine zH (zS (xZ (a := g880) (b := x655) rfl rfl) e894) ?_
  refine (zF (zA (hK892 _ _ ?_)))
  refine zC fun K896 hK896 => ?_
  refine zW (b := x893) rfl (fun c897 => ?_) (fun c897 => ?_)
  ·have hF := zO c897 hF
   refine (yA (zA (hK896 _ _ ?_)))
   refine zC fun K947 hK947 => ?_
   refine yJ ?_
   refine zC fun K948 hK948 => ?_
   refine zB ?_
   obtain ⟨x949, e950, hF⟩ := zD hF
   obtain ⟨b951, o952, c953, cs954, q955, h958, h956, h957, h959⟩ := rd_at (H.item (i := 1) rfl) e950
   obtain ⟨v960, rfl, h961⟩ := rMoveT_open h958
   have H := H.fzs [.at b951 (o952 + g880.toNat * 9) _, .sl rCond v960 x949.When.Kids] ⟨⟨h956, h957, h959⟩, h961, trivial⟩
   refine zH (Do_idx u23 sz102 q955 rfl (yU e950).1 (yU e950).2.1 rfl rfl) ?_
   refine zH (yQ (yM (cs := [.string (bs x949.From), .string (bs x949.To), .int .i64 x949.When.Kind, .string (bs x949.When.Name), .string (bs x949.When.Other), .int .i64 x949.When.Op, .int .i64 x949.When.N, .int .i64 x949.When.Frames, v960]) agg102 rfl sz102 rfl (H.item (i := 8) rfl).2.2) rfl) ?_
   refine yX rfl rfl (xB zero102 H) ?_
   rintro _ w966 ⟨b964, rfl, H⟩
   refine yN rfl (yH (vs := [.string (bs x949.From), .string (bs x949.To), .int .i64 x949.When.Kind, .string (bs x949.When.Name), .string (bs x949.When.Other), .int .i64 x949.When.Op, .int .i64 x949.When.N, .int .i64 x949.When.Frames, v960]) H 10 rfl sz102 rfl rfl rfl ⟨rfl, rfl, rfl, rfl, rfl, rfl, rfl, rfl, (wE (H.item (i := 9) rfl)), trivial⟩ rfl) ?_
   rintro w967 H
   refine (zF (zA (hK948 _ _ ?_)))
   have H := H.freezeB (i := 10) rfl
   have H968 := H
   have H := H.rebase
   have H969 := H
   have h970 := H.firm (i := 10) rfl
   refine WP_mix0 H [0, 1, 2, 3, 4, 5, 6, 7, 8, 9, 10, 11, 12, 13] [.pure, .pure, .pure, .pure, .pure, .read, .pure, .pure, .pure, .read, .read, .pure, .pure, .eff] mixed (by kernel_rfl) (by kernel_rfl) (by kernel_rfl) rfl ?_
   refine Mx.zX rfl rfl rfl (fun w' hw' => fa102_0 rfl) ?_
   refine Mx.zX rfl rfl rfl (fun w' hw' => zT one9 rfl (Cells.get (h970 w' hw').2.2 (i := 0) rfl)) ?_
   obtain ⟨x971, e972, hF⟩ := zD hF
   refine Mx.zX rfl rfl rfl (fun w' hw' => xO (s1 := [109, 111, 118, 101, 32]) (s2 := x949.From) rfl rfl e972) ?_
   obtain ⟨x973, e974, hF⟩ := zD hF
   refine Mx.zX rfl rfl rfl (fun w' hw' => xO (s1 := x971) (s2 := [32]) rfl rfl e974) ?_
   refine Mx.zX rfl rfl rfl (fun w' hw' => fa102_1 rfl) ?_
   refine Mx.xM oS rfl rfl rfl (fun w' hw' => zT one9 rfl (Cells.get ((H.sees hw').item (i := 10) rfl).2.2 (i := 1) rfl)) ?_
   obtain ⟨x975, e976, hF⟩ := zD hF
   refine Mx.zX rfl rfl rfl (fun w' hw' => xO (s1 := x973) (s2 := x949.To) rfl rfl e976) ?_
   obtain ⟨x977, e978, hF⟩ := zD hF
   refine Mx.zX rfl rfl rfl (fun w' hw' => xO (s1 := x975) (s2 := [32, 105, 102, 32]) rfl rfl e978) ?_
   refine Mx.zX rfl rfl rfl (fun w' hw' => fa102_2 rfl) ?_
   refine Mx.xM oS rfl rfl rfl (fun w' hw' => yQ (yM (cs := [.int .i64 x949.When.Kind, .string (bs x949.When.Name), .string (bs x949.When.Other), .int .i64 x949.When.Op, .int .i64 x949.When.N, .int .i64 x949.When.Frames, v960]) agg54 rfl sz54 rfl (Cells.drop ((H.sees hw').item (i := 10) rfl).2.2 2 7)) rfl) ?_
   have H979 := H
   obtain ⟨x980, e981, hF⟩ := zD hF
   refine Mx.XL_call oS rfl rfl rfl (v := .string (bs x980)) (fun w' hw' => zU en51 rfl) (fun w' hw' => call_read (F_event_condText_s x949.When 0 v960 _ e981 _ _ _ ((H.sees hw').enter [] [9, 3] (by decide) rfl))) ?_
   have H := H979
   obtain ⟨x982, e983, hF⟩ := zD hF
   refine Mx.zX rfl rfl rfl (fun w' hw' => xO (s1 := x977) (s2 := x980) rfl rfl e983) ?_
   obtain ⟨x984, e985, hF⟩ := zD hF
   refine Mx.zX rfl rfl rfl (fun w' hw' => xO (s1 := x982) (s2 := [10]) rfl rfl e985) ?_
   obtain ⟨⟨x986, x987, x988⟩, e989, hF⟩ := zD hF
   refine Mx.XL_effC oS rfl rfl rfl (fun w' hw' => zU en50 rfl) (fun w' hw' => F_strings_Builder_WriteString_w g884 x984 b36 v881 v885 _ e989 _ _ _ ((H.sees hw').enter [7, 5] [6] (by decide) rfl)) ?_
   rintro w' _ w994 hw' ⟨v990, v991, rfl, G995⟩
   have H : Hd O _ w994 _ [.fz (.sl Rp.str v1 p0.Phases), .fz (.sl rMoveT v2 p0.Moves), .fz (.sl rRule v3 p0.Rules), .fz (.at 0 0 ((Fl.arr 7 Fl.str).f zJ)), .blk b9 [v1, v2, v3] 26, .fz (.oq v881 b36), .fz (.at b951 (o952 + g880.toNat * 9) [.string (bs x949.From), .string (bs x949.To), .int .i64 x949.When.Kind, .string (bs x949.When.Name), .string (bs x949.When.Other), .int .i64 x949.When.Op, .int .i64 x949.When.N, .int .i64 x949.When.Frames, v960]), .fz (.sl rCond v960 x949.When.Kids), .fz (.at b964 0 [.string (bs x949.From), .string (bs x949.To), .int .i64 x949.When.Kind, .string (bs x949.When.Name), .string (bs x949.When.Other), .int .i64 x949.When.Op, .int .i64 x949.When.N, .int .i64 x949.When.Frames, v960]), .fz (.oq v990 b36), .own (Rp.int .u8) v991 5 x988, .blk b36 [v990, v991] 111] := (H.sees hw').back [7, 5] [6] rfl G995
   refine ⟨_, rfl, H.only, ?_⟩
   refine Mx.XL_nil fun w996 hS => ?_
   have H := H.sees hS
   have H := H968.rejoin H
   refine (yR (zA (hK947 _ _ ?_)))
   have H : Hd O w w996 S [.fz (.sl Rp.str v1 p0.Phases), .fz (.sl rMoveT v2 p0.Moves), .fz (.sl rRule v3 p0.Rules), .fz (.at 0 0 ((Fl.arr 7 Fl.str).f zJ)), .blk b9 [v1, v2, v3] 26, .fz (.oq v881 b36), .fz (.oq v990 b36), .own (Rp.int .u8) v991 5 x988, .blk b36 [v990, v991] 111] := H.pick [0, 1, 2, 3, 4, 5, 9, 10, 11] (by decide)
   refine zB ?_
   obtain ⟨x997, e998, hF⟩ := zG hF
   refine zH (wC (a := g880) (b := 1) rfl rfl e998) ?_
   refine zM (.int .i64 x997) ?_
   exact (zF (zA (meet ⟨(n891, x997, x988, v990, v991), (zK rfl zL), ⟨H.pick [0, 1, 2, 3, 4, 8, 6, 7] (by decide), hF⟩, Nat.lt_succ_self _⟩)))
  have hF := zN c897 hF
  obtain rfl := someI hF
  exact (xW (yT (yT (xG (zA (meet ⟨(v881, v885), zL, H.pick [0, 1, 2, 3, 4, 5, 6, 7] (by decide)⟩))))))
 rintro ⟨v647, v651⟩ ρ w652 H
 have hF := hK653
 obtain ⟨g1214, hF, hK1217⟩ := zD hF
 refine yL [11, 51, 52, 53, 54, 55, 56, 57, 58, 59, 60, 61, 62, 63, 64, 65, 66, 67, 68] (fun (g : Value × Value) => []) (fun g wl => Hd O w wl S [.fz (.at 0 0 ((Fl.arr 7 Fl.str).f zJ)), .blk b36 [g.1, g.2] 111, .fz (.oq g.1 b36), .own (Rp.int .u8) g.2 5 g1214]) ?_ ?_
 ·skip
  refine zC fun K1218 hK1218 => ?_
  refine zB ?_
  refine zH (fa26_2 rfl) ?_
  refine zH (zT one24 rfl (Cells.get (Blk.cells (H.item (i := 4) rfl)) (i := 2) rfl)) ?_
  obtain ⟨x1219, e1220, hF⟩ := zG hF
  obtain ⟨a1221, c1222, q1223⟩ := SlF.len ((H.item (i := 2) rfl))
  refine zH (yQ (Do_len u24 q1223) (congrArg (Value.int .i64) e1220)) ?_
  refine zM (.int .i64 0) ?_
  refine (zF (zA (hK1218 _ _ ?_)))
  refine yJ ?_
  unfold F_event_Print_L3 at hF
  obtain ⟨B1430, n1431, eB1432, hF⟩ := yY hF
  refine xK [11, 54, 55, 56, 57, 58, 59, 60, 61, 62, 63, 64, 65, 66, 67, 68] (fun (g : Nat × Int × (List Int) × Value × Value) => [(54, .int .i64 g.2.1)]) (fun g wl => Hd O w wl S [.fz (.sl rRule v3 p0.Rules), .fz (.at 0 0 ((Fl.arr 7 Fl.str).f zJ)), .blk b36 [g.2.2.2.1, g.2.2.2.2] 111, .fz (.oq g.2.2.2.1 b36), .own (Rp.int .u8) g.2.2.2.2 5 g.2.2.1] ∧ loopN B1430 g.1 (g.2.1, g.2.2.1) = some g1214) (fun g => g.1) (n1431, 0, g650, v647, v651) (zK rfl zL) ⟨H.pick [2, 3, 5, 6, 7] (by decide), hF⟩ ?_
  clear H hF
  rintro ⟨n1431, g1424, g1428, v1425, v1429⟩ ρ w1434 ⟨H, hF⟩
  obtain ⟨n1435, rfl, hF⟩ := xE hF
  have hF := xC eB1432 hF
  refine zC fun K1436 hK1436 => ?_
  refine zB ?_
  obtain ⟨x1437, e1438, hF⟩ := zG hF
  refine zH (zS (xZ (a := g1424) (b := x1219) rfl rfl) e1438) ?_
  refine (zF (zA (hK1436 _ _ ?_)))
  refine zC fun K1440 hK1440 => ?_
  refine zW (b := x1437) rfl (fun c1441 => ?_) (fun c1441 => ?_)
  ·have hF := zO c1441 hF
   refine (yA (zA (hK1440 _ _ ?_)))
   refine zC fun K1486 hK1486 => ?_
   refine yJ ?_
   refine zC fun K1487 hK1487 => ?_
   refine zB ?_
   obtain ⟨x1488, e1489, hF⟩ := zD hF
   obtain ⟨b1490, o1491, c1492, cs1493, q1494, h1497, h1495, h1496, h1498⟩ := rd_at (H.item (i := 0) rfl) e1489
   obtain ⟨v1499, rfl, h1500⟩ := rRule_open h1497
   have H := H.fzs [.at b1490 (o1491 + g1424.toNat * 8) _, .sl rCond v1499 x1488.When.Kids] ⟨⟨h1495, h1496, h1498⟩, h1500, trivial⟩
   refine zH (Do_idx u24 sz106 q1494 rfl (yU e1489).1 (yU e1489).2.1 rfl rfl) ?_
   refine zH (yQ (yM (cs := [.string (bs x1488.Name), .int .i64 x1488.When.Kind, .string (bs x1488.When.Name), .string (bs x1488.When.Other), .int .i64 x1488.When.Op, .int .i64 x1488.When.N, .int .i64 x1488.When.Frames, v1499]) agg106 rfl sz106 rfl (H.item (i := 5) rfl).2.2) rfl) ?_
   refine yX rfl rfl (xB zero106 H) ?_
   rintro _ w1505 ⟨b1503, rfl, H⟩
   refine yN rfl (yH (vs := [.string (bs x1488.Name), .int .i64 x1488.When.Kind, .string (bs x1488.When.Name), .string (bs x1488.When.Other), .int .i64 x1488.When.Op, .int .i64 x1488.When.N, .int .i64 x1488.When.Frames, v1499]) H 7 rfl sz106 rfl rfl rfl ⟨rfl, rfl, rfl, rfl, rfl, rfl, rfl, (wE (H.item (i := 6) rfl)), trivial⟩ rfl) ?_
   rintro w1506 H
   refine (zF (zA (hK1487 _ _ ?_)))
   have H1507 := H
   have H := H.rebase
   have H1508 := H
   refine WP_mix0 H [0, 1, 2, 3, 4, 5, 6, 7, 8, 9] [.pure, .read, .pure, .pure, .pure, .read, .read, .pure, .pure, .eff] mixed (by kernel_rfl) (by kernel_rfl) (by kernel_rfl) rfl ?_
   refine Mx.zX rfl rfl rfl (fun w' hw' => fa106_0 rfl) ?_
   refine Mx.xM oS rfl rfl rfl (fun w' hw' => zT one9 rfl (Cells.get (Blk.cells ((H.sees hw').item (i := 7) rfl)) (i := 0) rfl)) ?_
   obtain ⟨x1509, e1510, hF⟩ := zD hF
   refine Mx.zX rfl rfl rfl (fun w' hw' => xO (s1 := [114, 117, 108, 101, 32]) (s2 := x1488.Name) rfl rfl e1510) ?_
   obtain ⟨x1511, e1512, hF⟩ := zD hF
   refine Mx.zX rfl rfl rfl (fun w' hw' => xO (s1 := x1509) (s2 := [32, 105, 102, 32]) rfl rfl e1512) ?_
   refine Mx.zX rfl rfl rfl (fun w' hw' => fa106_1 rfl) ?_
   refine Mx.xM oS rfl rfl rfl (fun w' hw' => yQ (yM (cs := [.int .i64 x1488.When.Kind, .string (bs x1488.When.Name), .string (bs x1488.When.Other), .int .i64 x1488.When.Op, .int .i64 x1488.When.N, .int .i64 x1488.When.Frames, v1499]) agg54 rfl sz54 rfl (Cells.drop (Blk.cells ((H.sees hw').item (i := 7) rfl)) 1 7)) rfl) ?_
   have H1513 := H
   obtain ⟨x1514, e1515, hF⟩ := zD hF
   refine Mx.XL_call oS rfl rfl rfl (v := .string (bs x1514)) (fun w' hw' => zU en51 rfl) (fun w' hw' => call_read (F_event_condText_s x1488.When 0 v1499 _ e1515 _ _ _ ((H.sees hw').enter [] [6, 1] (by decide) rfl))) ?_
   have H := H1513
   obtain ⟨x1516, e1517, hF⟩ := zD hF
   refine Mx.zX rfl rfl rfl (fun w' hw' => xO (s1 := x1511) (s2 := x1514) rfl rfl e1517) ?_
   obtain ⟨x1518, e1519, hF⟩ := zD hF
   refine Mx.zX rfl rfl rfl (fun w' hw' => xO (s1 := x1516) (s2 := [10]) rfl rfl e1519) ?_
   obtain ⟨⟨x1520, x1521, x1522⟩, e1523, hF⟩ := zD hF
   refine Mx.XL_effC oS rfl rfl rfl (fun w' hw' => zU en50 rfl) (fun w' hw' => F_strings_Builder_WriteString_w g1428 x1518 b36 v1425 v1429 _ e1523 _ _ _ ((H.sees hw').enter [4, 2] [3] (by decide) rfl)) ?_
   rintro w' _ w1528 hw' ⟨v1524, v1525, rfl, G1529⟩
   have H : Hd O _ w1528 _ [.fz (.sl rRule v3 p0.Rules), .fz (.at 0 0 ((Fl.arr 7 Fl.str).f zJ)), .fz (.oq v1425 b36), .fz (.at b1490 (o1491 + g1424.toNat * 8) [.string (bs x1488.Name), .int .i64 x1488.When.Kind, .string (bs x1488.When.Name), .string (bs x1488.When.Other), .int .i64 x1488.When.Op, .int .i64 x1488.When.N, .int .i64 x1488.When.Frames, v1499]), .fz (.sl rCond v1499 x1488.When.Kids), .blk b1503 [.string (bs x1488.Name), .int .i64 x1488.When.Kind, .string (bs x1488.When.Name), .string (bs x1488.When.Other), .int .i64 x1488.When.Op, .int .i64 x1488.When.N, .int .i64 x1488.When.Frames, v1499] 106, .fz (.oq v1524 b36), .own (Rp.int .u8) v1525 5 x1522, .blk b36 [v1524, v1525] 111] := (H.sees hw').back [4, 2] [3] rfl G1529
   refine ⟨_, rfl, H.only, ?_⟩
   refine Mx.XL_nil fun w1530 hS => ?_
   have H := H.sees hS
   have H := H1507.rejoin H
   refine (yR (zA (hK1486 _ _ ?_)))
   refine zB ?_
   obtain ⟨x1531, e1532, hF⟩ := zG hF
   refine zH (wC (a := g1424) (b := 1) rfl rfl e1532) ?_
   refine zM (.int .i64 x1531) ?_
   exact (zF (zA (meet ⟨(n1435, x1531, x1522, v1524, v1525), (zK rfl zL), ⟨H.pick [0, 1, 8, 6, 7] (by decide), hF⟩, Nat.lt_succ_self _⟩)))
  have hF := zN c1441 hF
  obtain rfl := someI hF
  exact (xW (yT (yT (xG (zA (meet ⟨(v1425, v1429), zL, H.pick [1, 2, 3, 4] (by decide)⟩))))))
 rintro ⟨v1211, v1215⟩ ρ w1216 H
 have hF := hK1217
 refine zC fun K1547 hK1547 => ?_
 refine zC fun K1548 hK1548 => ?_
 refine zB ?_
 obtain ⟨⟨x1549, x1550⟩, e1551, hF⟩ := zD hF
 refine zV rfl rfl (zU en52 rfl) (F_strings_Builder_Len_w g1214 b36 v1211 v1215 _ e1551 _ _ _ (H.enter [3, 1] [2] (by decide) rfl)) ?_
 rintro _ w1556 ⟨v1552, v1553, rfl, G1557⟩
 have H : Hd O _ w1556 _ [.fz (.at 0 0 ((Fl.arr 7 Fl.str).f zJ)), .fz (.oq v1211 b36), .fz (.oq v1552 b36), .own (Rp.int .u8) v1553 5 x1550, .blk b36 [v1552, v1553] 111] := H.back [3, 1] [2] rfl G1557
 refine ⟨_, rfl, ?_⟩
 obtain ⟨x1558, e1559, hF⟩ := zG hF
 refine zH (zS (Do_gtr (a := x1549) (b := 200000) rfl rfl) e1559) ?_
 refine (zF (zA (hK1548 _ _ ?_)))
 refine zW (b := x1558) rfl (fun c1560 => ?_) (fun c1560 => ?_)
 ·have hF := zO c1560 hF
  refine zC fun K1561 hK1561 => ?_
  refine zB ?_
  refine zI (.string (bs [])) ?_
  refine zI (.int .i64 3) ?_
  refine (zF (zA (hK1561 _ _ ?_)))
  obtain rfl := someI hF
  refine (zZ (zY (post2 (v1 := .string (bs [])) (v2 := .int .i64 3) rfl rfl rfl ?_)))
  exact ⟨rfl, H.pick [] (by decide)⟩
 have hF := zN c1560 hF
 refine (yA (zA (hK1547 _ _ ?_)))
 refine zC fun K1562 hK1562 => ?_
 refine zB ?_
 obtain ⟨x1563, e1564, hF⟩ := zD hF
 refine zV rfl rfl (zU en53 rfl) (E.X_bstring_w x1550 b36 v1552 v1553 _ e1564 _ _ _ (H.enter [3, 4] [2] (by decide) rfl)) ?_
 rintro _ w1565 ⟨rfl, G1566⟩
 have H : Hd O _ w1565 _ [.fz (.at 0 0 ((Fl.arr 7 Fl.str).f zJ)), .fz (.oq v1211 b36), .fz (.oq v1552 b36)] := H.back [3, 4] [2] rfl G1566
 refine ⟨_, rfl, ?_⟩
 refine zI (.string (bs x1563)) ?_
 refine zI (.int .i64 0) ?_
 refine (zF (zA (hK1562 _ _ ?_)))
 obtain rfl := someI hF
 refine (zZ (post2 (v1 := .string (bs x1563)) (v2 := .int .i64 0) rfl rfl rfl ?_))
 exact ⟨rfl, H.pick [] (by decide)⟩
set_option maxHeartbeats 4000000 in
theorem F_law6_reads_w (r : Bool) (hF : F_law6_reads = some r) (O S : List Nat) (w : World) (H : Hd O w w S [.fz (.at 0 0 ((Fl.arr 7 Fl.str).f zJ)), .fz (.gi 4)]) :
  Calls Tryz.prog 15 ([] : List Value).toArray w fun e w' => e = .returned (.bool r) ∧ Hd O w w' S [] := by
 unfold F_law6_reads at hF
 refine yB 26 Tryz.func15 rfl rfl rfl ?_
 refine zC fun K3 hK3 => ?_
 refine zB ?_
 refine zI (.bool false) ?_
 refine (zF (zA (hK3 _ _ ?_)))
 refine zC fun K4 hK4 => ?_
 refine zB ?_
 obtain ⟨⟨x5, x6, x7⟩, e8, hF⟩ := zD hF
 refine zV rfl rfl (zU en13 rfl) (F_event_Read_w [114, 117, 108, 101, 32, 97, 32, 105, 102, 32, 110, 111, 116, 32, 32, 40, 120, 32, 62, 49, 32, 111, 114, 32, 116, 114, 117, 101, 41] _ e8 _ _ _ (H.enter [] [0, 1] (by decide) rfl)) ?_
 rintro _ w15 ⟨v9, v10, v11, rfl, G16⟩
 have H := H.back1 [0, 1] rfl G16
 refine ⟨_, rfl, ?_⟩
 refine zM (.tuple #[.agg [v9, v10, v11].toArray, .int .i64 x6, .int .i64 x7]) ?_
 refine zH (wB (v := .agg [v9, v10, v11].toArray) rfl rfl) ?_
 refine zH (wB (v := .int .i64 x6) rfl rfl) ?_
 refine zH (wB (v := .int .i64 x7) rfl rfl) ?_
 refine yX rfl rfl (xB zero26 H) ?_
 rintro _ w19 ⟨b17, rfl, H⟩
 refine yN rfl (yH (vs := [v9, v10, v11]) H 5 rfl sz26 rfl rfl rfl ⟨(wE (H.item (i := 2) rfl)), (wE (H.item (i := 3) rfl)), (wE (H.item (i := 4) rfl)), trivial⟩ rfl) ?_
 rintro w20 H
 refine zI (.int .i64 x6) ?_
 refine zI (.int .i64 x7) ?_
 refine (zF (zA (hK4 _ _ ?_)))
 refine zC fun K21 hK21 => ?_
 refine zB ?_
 refine zH (yQ (yM (cs := [v9, v10, v11]) agg26 rfl sz26 rfl (Blk.cells (H.item (i := 5) rfl))) rfl) ?_
 have H22 := H
 obtain ⟨⟨x23, x24⟩, e25, hF⟩ := zD hF
 refine zV rfl rfl (zU en16 rfl) (F_event_Print_w x5 v9 v10 v11 _ e25 _ _ _ (H.enter [] [2, 3, 4, 0] (by decide) rfl)) ?_
 rintro _ w26 ⟨rfl, G27⟩
 have H := H22.step (G27.only : Only [] _ _)
 refine ⟨_, rfl, ?_⟩
 refine zM (.tuple #[.string (bs x23), .int .i64 x24]) ?_
 refine zH (wB (v := .string (bs x23)) rfl rfl) ?_
 refine zH (wB (v := .int .i64 x24) rfl rfl) ?_
 refine zI (.string (bs x23)) ?_
 refine zI (.int .i64 x24) ?_
 refine (zF (zA (hK21 _ _ ?_)))
 obtain ⟨g39, hF, hK41⟩ := zD hF
 refine yL [0, 16, 17, 18, 19, 20, 21, 22, 23, 24, 25] (fun (g : Unit) => [(0, .bool g39)]) (fun g wl => Hd O w wl S [.fz (.at 0 0 ((Fl.arr 7 Fl.str).f zJ)), .fz (.gi 4)]) ?_ ?_
 ·skip
  refine zB ?_
  refine zM (.int .i64 x7) ?_
  obtain ⟨x42, e43, hF⟩ := zG hF
  refine zH (zS (yP (a := x7) (b := 0) rfl rfl) e43) ?_
  obtain ⟨j44, hF, hK45⟩ := zD hF
  refine RL_cutS 4 [18, 19, 20, 21] [(21, .bool j44)] (fun wl => Hd O w wl S [.fz (.at 0 0 ((Fl.arr 7 Fl.str).f zJ)), .fz (.gi 4), .fz (.sl Rp.str v9 x5.Phases), .fz (.sl rMoveT v10 x5.Moves), .fz (.sl rRule v11 x5.Rules), .blk b17 [v9, v10, v11] 26]) ?_ ?_
  ·skip
   refine yK (b := x42) rfl rfl rfl (fun c47 => ?_) (fun c47 => ?_)
   ·have hF := zO c47 hF
    refine zM (.int .i64 x24) ?_
    obtain ⟨x48, e49, hF⟩ := zG hF
    refine zH (zS (yP (a := x24) (b := 0) rfl rfl) e49) ?_
    refine zH (yI (v := .bool x48) rfl rfl) ?_
    obtain rfl := someI hF
    exact zF (zA (meet ⟨(zK rfl zL), H.pick [0, 1, 2, 3, 4, 5] (by decide)⟩))
   have hF := zN c47 hF
   refine yD ?_
   refine yD ?_
   refine zH (yE (v := .bool false) rfl rfl) ?_
   obtain rfl := someI hF
   exact zF (zA (meet ⟨(zK rfl zL), H.pick [0, 1, 2, 3, 4, 5] (by decide)⟩))
  rintro ρ w46 H
  have hF := hK45
  refine yK (b := j44) rfl rfl rfl (fun c50 => ?_) (fun c50 => ?_)
  ·have hF := zO c50 hF
   refine zM (.string (bs x23)) ?_
   obtain ⟨x51, e52, hF⟩ := zG hF
   refine zH (zS (xR (s1 := x23) (s2 := [114, 117, 108, 101, 32, 97, 32, 105, 102, 32, 110, 111, 116, 32, 40, 120, 32, 62, 32, 49, 32, 111, 114, 32, 116, 114, 117, 101, 41, 10]) rfl rfl) e52) ?_
   refine zH (yI (v := .bool x51) rfl rfl) ?_
   refine zI (.bool x51) ?_
   obtain rfl := someI hF
   exact (zF (zA (meet ⟨(), (zK rfl zL), H.pick [0, 1] (by decide)⟩)))
  have hF := zN c50 hF
  refine yD ?_
  refine yD ?_
  refine zH (yE (v := .bool false) rfl rfl) ?_
  refine zI (.bool false) ?_
  obtain rfl := someI hF
  exact (zF (zA (meet ⟨(), (zK rfl zL), H.pick [0, 1] (by decide)⟩)))
 rintro _ ρ w40 H
 have hF := hK41
 obtain rfl := someI hF
 refine (zZ (post1 (v1 := .bool g39) rfl rfl ?_))
 exact ⟨rfl, H.pick [] (by decide)⟩
set_option maxHeartbeats 4000000 in
theorem F_law6_EventInwardMatchesSpec_w (p0 : Cond) (v1 : Value) (r : Bool) (hF : F_law6_EventInwardMatchesSpec p0 = some r) (O S : List Nat) (w : World) (H : Hd O w w S [.fz (.sl rCond v1 p0.Kids), .fz (.at 0 0 ((Fl.arr 7 Fl.str).f zJ)), .fz (.at 3 0 ((Fl.arr 20 (Fl.int .u64)).f zQ)), .fz (.gi 4)]) :
  Calls Tryz.prog 6 ([.agg [.int .i64 p0.Kind, .string (bs p0.Name), .string (bs p0.Other), .int .i64 p0.Op, .int .i64 p0.N, .int .i64 p0.Frames, v1].toArray] : List Value).toArray w fun e w' => e = .returned (.bool r) ∧ Hd O w w' S [] := by
 unfold F_law6_EventInwardMatchesSpec at hF
 refine yB 17 Tryz.func6 rfl rfl rfl ?_
 refine zC fun K6 hK6 => ?_
 refine zB ?_
 refine yX rfl rfl (Lx_box (cs := [.int .i64 p0.Kind, .string (bs p0.Name), .string (bs p0.Other), .int .i64 p0.Op, .int .i64 p0.N, .int .i64 p0.Frames, v1]) rfl H) ?_
 rintro _ w9 ⟨b7, rfl, H⟩
 refine zI (.bool false) ?_
 refine (zF (zA (hK6 _ _ ?_)))
 obtain ⟨g40, hF, hK42⟩ := zD hF
 refine yL [2, 3, 4, 5, 6, 7, 8, 9, 10, 11, 12, 13, 14, 15, 16] (fun (g : Unit) => [(2, .bool g40)]) (fun g wl => Hd O w wl S [.fz (.at 0 0 ((Fl.arr 7 Fl.str).f zJ)), .fz (.at 3 0 ((Fl.arr 20 (Fl.int .u64)).f zQ)), .fz (.gi 4)]) ?_ ?_
 ·skip
  have H43 := H
  have H := H.rebase
  have H44 := H
  refine WP_mix H [0, 5, 1, 2, 3, 4, 6, 7, 8, 9, 10, 11, 12, 13, 14] [.read, .new, .pure, .pure, .read, .read, .new, .pure, .pure, .read, .pure, .pure, .read, .pure, .pure] mixed (by kernel_rfl) (by kernel_rfl) (by kernel_rfl) (by decide) ?_
  refine Mx.xM oS rfl rfl rfl (fun w' hw' => yQ (yM (cs := [.int .i64 p0.Kind, .string (bs p0.Name), .string (bs p0.Other), .int .i64 p0.Op, .int .i64 p0.N, .int .i64 p0.Frames, v1]) agg54 rfl sz54 rfl (Blk.cells ((H.sees hw').item (i := 4) rfl))) rfl) ?_
  refine Mx.xM oS rfl rfl rfl (fun w' hw' => yQ (yM (cs := [.int .i64 p0.Kind, .string (bs p0.Name), .string (bs p0.Other), .int .i64 p0.Op, .int .i64 p0.N, .int .i64 p0.Frames, v1]) agg54 rfl sz54 rfl (Blk.cells ((H.sees hw').item (i := 4) rfl))) rfl) ?_
  obtain ⟨⟨x45, x46⟩, e47, hF⟩ := zD hF
  refine Mx.XL_newC oS rfl rfl rfl (fun w' hw' => zU en19 rfl) (fun w' hw' => F_event_Inward_w p0 v1 _ e47 _ _ _ ((H.sees hw').enter [] [0] (by decide) rfl)) ?_
  rintro w' _ w50 hw' ⟨v48, rfl, G51⟩
  have H := (H.sees hw').back1 [0] rfl G51
  refine ⟨_, rfl, (G51.only : Only [] _ _).below, ?_⟩
  refine Mx.zX rfl rfl rfl (fun w' hw' => wB (v := .agg [.int .i64 x45.Kind, .string (bs x45.Name), .string (bs x45.Other), .int .i64 x45.Op, .int .i64 x45.N, .int .i64 x45.Frames, v48].toArray) rfl rfl) ?_
  refine Mx.zX rfl rfl rfl (fun w' hw' => wB (v := .int .i64 x46) rfl rfl) ?_
  have H52 := H
  obtain ⟨x53, e54, hF⟩ := zD hF
  refine Mx.XL_call oS rfl rfl rfl (v := .string (bs x53)) (fun w' hw' => zU en18 rfl) (fun w' hw' => call_read (F_law6_cond_w x45 x46 v48 _ e54 _ _ _ ((H.sees hw').enter [] [5, 2] (by decide) rfl))) ?_
  have H := H52
  obtain ⟨⟨x55, x56⟩, e57, hF⟩ := zD hF
  refine Mx.XL_newC oS rfl rfl rfl (fun w' hw' => zU en20 rfl) (fun w' hw' => F_ref6_Inward_w p0 v1 _ e57 _ _ _ ((H.sees hw').enter [] [0] (by decide) rfl)) ?_
  rintro w' _ w60 hw' ⟨v58, rfl, G61⟩
  have H := (H.sees hw').back1 [0] rfl G61
  refine ⟨_, rfl, (G61.only : Only [] _ _).below, ?_⟩
  refine Mx.zX rfl rfl rfl (fun w' hw' => wB (v := .agg [.int .i64 x55.Kind, .string (bs x55.Name), .string (bs x55.Other), .int .i64 x55.Op, .int .i64 x55.N, .int .i64 x55.Frames, v58].toArray) rfl rfl) ?_
  refine Mx.zX rfl rfl rfl (fun w' hw' => wB (v := .int .i64 x56) rfl rfl) ?_
  have H62 := H
  obtain ⟨x63, e64, hF⟩ := zD hF
  refine Mx.XL_call oS rfl rfl rfl (v := .string (bs x63)) (fun w' hw' => zU en18 rfl) (fun w' hw' => call_read (F_law6_cond_w x55 x56 v58 _ e64 _ _ _ ((H.sees hw').enter [] [6, 2] (by decide) rfl))) ?_
  have H := H62
  obtain ⟨x65, e66, hF⟩ := zG hF
  refine Mx.zX rfl rfl rfl (fun w' hw' => zS (xR (s1 := x53) (s2 := x63) rfl rfl) e66) ?_
  refine Mx.XL_splitb (b := x65) rfl rfl rfl rfl (fun c67 => ?_) (fun c67 => ?_)
  ·have hF := zO c67 hF
   have H68 := H
   obtain ⟨x69, e70, hF⟩ := zD hF
   refine Mx.XL_call oS rfl rfl rfl (v := .bool x69) (fun w' hw' => zU en15 rfl) (fun w' hw' => call_read (F_law6_reads_w _ e70 _ _ _ ((H.sees hw').enter [] [1, 3] (by decide) rfl))) ?_
   have H := H68
   refine Mx.zX rfl rfl rfl (fun w' hw' => yI (v := .bool x69) rfl rfl) ?_
   refine Mx.zX rfl rfl rfl (fun w' hw' => xU (v := .bool x69) rfl) ?_
   refine Mx.XL_nil fun w71 hS => ?_
   have H := H.sees hS
   have H := H43.rejoin H
   obtain rfl := someI hF
   exact (zA (meet ⟨(), (zK rfl zL), H.pick [1, 2, 3] (by decide)⟩))
  have hF := zN c67 hF
  refine Mx.XL_offr oS rfl rfl rfl ?_
  refine Mx.zX rfl rfl rfl (fun w' hw' => yE (v := .bool false) rfl rfl) ?_
  refine Mx.zX rfl rfl rfl (fun w' hw' => xU (v := .bool false) rfl) ?_
  refine Mx.XL_nil fun w72 hS => ?_
  have H := H.sees hS
  have H := H43.rejoin H
  obtain rfl := someI hF
  exact (zA (meet ⟨(), (zK rfl zL), H.pick [1, 2, 3] (by decide)⟩))
 rintro _ ρ w41 H
 have hF := hK42
 obtain rfl := someI hF
 refine (zZ (post1 (v1 := .bool g40) rfl rfl ?_))
 exact ⟨rfl, H.pick [] (by decide)⟩
end Go.Proofs.YtnajnkghilemhaaGreatDoor.L
