/- Walks: what each function computes, for every argument; no condition but those that stand in the statements. -/
import Derived.Test.YtckmiljbaejijaaGreatDoorKV0
import Derived.Test.YtckmiljbaejijaaGreatDoorKV8
import Derived.Test.YtckmiljbaejijaaGreatDoorKV3
import Derived.Test.YtckmiljbaejijaaGreatDoorKV1
import Derived.Test.YtckmiljbaejijaaGreatDoorKV2
import Derived.Test.YtckmiljbaejijaaGreatDoorKV4
import Derived.Test.YtckmiljbaejijaaGreatDoorKV5
import Derived.Test.YtckmiljbaejijaaGreatDoorKV6
namespace Go.Proofs.YtckmiljbaejijaaGreatDoor.L
open Go.RowKit Go.OB Go.Lf
set_option maxHeartbeats 4000000 in
theorem F_event_joined_w (rfP : Cond → Int → Option Str) (rhP : S_event_condText rfP) (p0 : List Cond) (p1 : Str) (p2 : Int) (v1 : Value) (r : Str) (hF : F_event_joined rfP p0 p1 p2 = some r) (O S : List Nat) (w : World) (H : Hd O w w S [.fz (.sl rCond v1 p0), .fz (.at 0 0 ((Fl.arr 7 Fl.str).f zU))]) :
  Calls Tryz.prog 132 ([v1, .string (bs p1), .int .i64 p2] : List Value).toArray w fun e w' => e = .returned (.string (bs r)) ∧ Hd O w w' S [] := by
 unfold F_event_joined at hF
 refine zY 28 Tryz.func132 rfl rfl rfl ?_
 refine zC fun K4 hK4 => ?_
 refine zB ?_
 refine zI (.string (bs [])) ?_
 refine (zD (zA (hK4 _ _ ?_)))
 refine zC fun K5 hK5 => ?_
 refine zB ?_
 refine zI (.slice none 0 0) ?_
 refine (zD (zA (hK5 _ _ ?_)))
 obtain ⟨g180, hF, hK183⟩ := zG hF
 refine yL [7, 9, 10, 11, 12, 13, 14, 15, 16, 17, 18, 19, 20, 21, 22] (fun (g : Value) => [(7, g)]) (fun g wl => Hd O w wl S [.own Rp.str g 9 g180, .fz (.at 0 0 ((Fl.arr 7 Fl.str).f zU))]) ?_ ?_
 ·skip
  refine zC fun K184 hK184 => ?_
  refine zB ?_
  refine zK v1 ?_
  obtain ⟨x185, e186, hF⟩ := zF hF
  obtain ⟨a187, c188, q189⟩ := SlF.len ((H.item (i := 0) rfl))
  refine zH (yN (xM u68 q189) (congrArg (Value.int .i64) e186)) ?_
  refine zK (.int .i64 0) ?_
  refine (zD (zA (hK184 _ _ ?_)))
  refine yG ?_
  have H := own_nil H Rp.str 9
  unfold F_event_joined_L1 at hF
  obtain ⟨B355, n356, eB357, hF⟩ := yS hF
  refine xE [7, 9, 12, 13, 14, 15, 16, 17, 18, 19, 20, 21, 22] (fun (g : Nat × (List Str) × Int × Value) => [(7, g.2.2.2), (12, .int .i64 g.2.2.1)]) (fun g wl => Hd O w wl S [.own Rp.str g.2.2.2 9 g.2.1, .fz (.sl rCond v1 p0), .fz (.at 0 0 ((Fl.arr 7 Fl.str).f zU))] ∧ loopN B355 g.1 (g.2.1, g.2.2.1) = some g180) (fun g => g.1) (n356, [], 0, .slice none 0 0) (zJ rfl (zJ rfl zL)) ⟨H.pick [2, 0, 1] (by decide), hF⟩ ?_
  clear H hF
  rintro ⟨n356, g351, g353, v352⟩ ρ w359 ⟨H, hF⟩
  obtain ⟨n360, rfl, hF⟩ := yX hF
  have hF := yY eB357 hF
  refine zC fun K361 hK361 => ?_
  refine zB ?_
  obtain ⟨x362, e363, hF⟩ := zF hF
  refine zH (zM (xI (a := g353) (b := x185) rfl rfl) e363) ?_
  refine (zD (zA (hK361 _ _ ?_)))
  refine zC fun K365 hK365 => ?_
  refine yA (b := x362) rfl (fun c366 => ?_) (fun c366 => ?_)
  ·have hF := zQ c366 hF
   refine (zX (zA (hK365 _ _ ?_)))
   refine zC fun K401 hK401 => ?_
   refine yG ?_
   refine zC fun K402 hK402 => ?_
   refine zB ?_
   obtain ⟨x403, e404, hF⟩ := zG hF
   obtain ⟨b405, o406, c407, cs408, q409, h412, h410, h411, h413⟩ := rd_at (H.item (i := 1) rfl) e404
   obtain ⟨v414, rfl, h415⟩ := wI h412
   have H := H.fzs [.at b405 (o406 + g353.toNat * 7) _, .sl rCond v414 x403.Kids] ⟨⟨h410, h411, h413⟩, h415, trivial⟩
   refine zH (wC u68 sz70 q409 rfl (yP e404).1 (yP e404).2.1 rfl rfl) ?_
   refine zH (yN (yJ (cs := [.int .i64 x403.Kind, .string (bs x403.Name), .string (bs x403.Other), .int .i64 x403.Op, .int .i64 x403.N, .int .i64 x403.Frames, v414]) agg70 rfl sz70 rfl (H.item (i := 3) rfl).2.2) rfl) ?_
   refine yZ rfl rfl (xN zero70 H) ?_
   rintro _ w420 ⟨b418, rfl, H⟩
   refine xH rfl (xC (vs := [.int .i64 x403.Kind, .string (bs x403.Name), .string (bs x403.Other), .int .i64 x403.Op, .int .i64 x403.N, .int .i64 x403.Frames, v414]) H 5 rfl sz70 rfl rfl rfl ⟨rfl, rfl, rfl, rfl, rfl, rfl, (slf_one (H.item (i := 4) rfl)), trivial⟩ rfl) ?_
   rintro w421 H
   refine (zD (zA (hK402 _ _ ?_)))
   refine zB ?_
   refine zK v352 ?_
   refine zH (yN (yJ (cs := [.int .i64 x403.Kind, .string (bs x403.Name), .string (bs x403.Other), .int .i64 x403.Op, .int .i64 x403.N, .int .i64 x403.Frames, v414]) agg70 rfl sz70 rfl (Blk.cells (H.item (i := 5) rfl))) rfl) ?_
   refine zK (.int .i64 p2) ?_
   have H422 := H
   obtain ⟨x423, e424, hF⟩ := zG hF
   refine zZ rfl rfl (zT en69 rfl) (rhP x403 p2 v414 _ e424 _ _ _ (H.enter [] [4, 2] (by decide) rfl)) ?_
   rintro _ w425 ⟨rfl, G426⟩
   have H := H422.step (G426.only : Only [] _ _)
   refine ⟨_, rfl, ?_⟩
   obtain ⟨x427, e428, hF⟩ := zF hF
   subst e428
   refine yZ rfl rfl (Lx_bs (r := Rp.str) (xl := [x423]) (cs := [.string (bs x423)]) u22 el9 (by decide) (by decide) rfl (xU (vs := [.string (bs x423)]) (by decide) rfl rfl ⟨rfl, trivial⟩ rfl) H ⟨[.string (bs x423)], [], rfl, rfl, rfl⟩) ?_
   rintro v430 w431 H
   obtain ⟨x432, e433, hF⟩ := zG hF
   refine yZ rfl rfl (Lx_app H (i := 0) rfl u22 el9 rfl rfl (Sr.of_own (H.item (i := 6) rfl)) e433) ?_
   rintro v434 w435 H
   refine zI v434 ?_
   refine (zD (yT (zA (hK401 _ _ ?_))))
   refine zB ?_
   obtain ⟨x436, e437, hF⟩ := zF hF
   refine zH (xP (a := g353) (b := 1) rfl rfl e437) ?_
   refine zK (.int .i64 x436) ?_
   exact (zD (zA (meet ⟨(n360, x432, x436, v434), (zJ rfl (zJ rfl zL)), ⟨H.pick [0, 1, 2] (by decide), hF⟩, Nat.lt_succ_self _⟩)))
  have hF := zS c366 hF
  obtain rfl := someI hF
  exact (xJ (yO (yO (xB (zA (meet ⟨v352, (zJ rfl zL), H.pick [0, 2] (by decide)⟩))))))
 rintro v181 ρ w182 H
 have hF := hK183
 refine zC fun K438 hK438 => ?_
 refine zB ?_
 refine zK v181 ?_
 refine zK (.string (bs p1)) ?_
 obtain ⟨x439, e440, hF⟩ := zG hF
 refine zH (Do_cat (s1 := [32]) (s2 := p1) rfl rfl e440) ?_
 obtain ⟨x441, e442, hF⟩ := zG hF
 refine zH (Do_cat (s1 := x439) (s2 := [32]) rfl rfl e442) ?_
 have H443 := H
 have H := H.freeze (i := 0) rfl
 obtain ⟨x444, e445, hF⟩ := zG hF
 refine zZ rfl rfl (zT en188 rfl) (E.X_Join_w g180 x441 v181 _ e445 _ _ _ (H.enter [] [0] (by decide) rfl)) ?_
 rintro _ w446 ⟨rfl, G447⟩
 have H := H443.step (G447.only : Only [] _ _)
 refine ⟨_, rfl, ?_⟩
 refine zI (.string (bs x444)) ?_
 refine (zD (zA (hK438 _ _ ?_)))
 obtain rfl := someI hF
 refine (yB (post1 (v1 := .string (bs x444)) rfl rfl ?_))
 exact ⟨rfl, H.pick [] (by decide)⟩
set_option maxHeartbeats 4000000 in
theorem F_event_condText_1_w (rfP : Cond → Int → Option Str) (rhP : S_event_condText rfP) (c0 : Cond) (b1 : Nat) (v2 : Value) (r : Str) (hF : F_event_condText_1 rfP c0 = some r) (O S : List Nat) (w : World) (H : Hd O w w S [.blk b1 [.int .i64 c0.Kind, .string (bs c0.Name), .string (bs c0.Other), .int .i64 c0.Op, .int .i64 c0.N, .int .i64 c0.Frames, v2] 70, .fz (.sl rCond v2 c0.Kids), .fz (.at 0 0 ((Fl.arr 7 Fl.str).f zU))]) :
  Calls Tryz.prog 131 ([.pointer (some ⟨b1, 0, none⟩)] : List Value).toArray w fun e w' => e = .returned (.string (bs r)) ∧ Hd O w w' S [.blk b1 [.int .i64 c0.Kind, .string (bs c0.Name), .string (bs c0.Other), .int .i64 c0.Op, .int .i64 c0.N, .int .i64 c0.Frames, v2] 70] := by
 unfold F_event_condText_1 at hF
 refine zY 5 Tryz.func131 rfl rfl rfl ?_
 refine zC fun K6 hK6 => ?_
 refine zB ?_
 refine zI (.string (bs [])) ?_
 refine (zD (zA (hK6 _ _ ?_)))
 refine zC fun K7 hK7 => ?_
 refine zB ?_
 refine zH (fa70_6 rfl) ?_
 refine zH (zO one68 rfl (Cells.get (Blk.cells (H.item (i := 0) rfl)) (i := 6) rfl)) ?_
 have H8 := H
 obtain ⟨x9, e10, hF⟩ := zG hF
 refine zZ rfl rfl (zT en132 rfl) (F_event_joined_w rfP rhP c0.Kids [] 3 v2 _ e10 _ _ _ (H.enter [] [1, 2] (by decide) rfl)) ?_
 rintro _ w11 ⟨rfl, G12⟩
 have H := H8.step (G12.only : Only [] _ _)
 refine ⟨_, rfl, ?_⟩
 refine zI (.string (bs x9)) ?_
 refine (zD (zA (hK7 _ _ ?_)))
 obtain rfl := someI hF
 refine (yB (post1 (v1 := .string (bs x9)) rfl rfl ?_))
 exact ⟨rfl, H.pick [0] (by decide)⟩
set_option maxHeartbeats 4000000 in
theorem F_event_condText_B_w (rfP : Cond → Int → Option Str) (rhP : S_event_condText rfP) (p0 : Cond) (p1 : Int) (v1 : Value) (r : Str) (hF : F_event_condText_B rfP p0 p1 = some r) (O S : List Nat) (w : World) (H : Hd O w w S [.fz (.sl rCond v1 p0.Kids), .fz (.at 0 0 ((Fl.arr 7 Fl.str).f zU))]) :
  Calls Tryz.prog 69 ([.agg [.int .i64 p0.Kind, .string (bs p0.Name), .string (bs p0.Other), .int .i64 p0.Op, .int .i64 p0.N, .int .i64 p0.Frames, v1].toArray, .int .i64 p1] : List Value).toArray w fun e w' => e = .returned (.string (bs r)) ∧ Hd O w w' S [] := by
 unfold F_event_condText_B at hF
 refine zY 160 Tryz.func69 rfl rfl rfl ?_
 refine zC fun K4 hK4 => ?_
 refine zB ?_
 refine yZ rfl rfl (wF (cs := [.int .i64 p0.Kind, .string (bs p0.Name), .string (bs p0.Other), .int .i64 p0.Op, .int .i64 p0.N, .int .i64 p0.Frames, v1]) rfl H) ?_
 rintro _ w7 ⟨b5, rfl, H⟩
 refine zI (.string (bs [])) ?_
 refine (zD (zA (hK4 _ _ ?_)))
 refine zC fun K8 hK8 => ?_
 refine zB ?_
 refine zI (.func (.func 130) #[] #[]) ?_
 refine (zD (zA (hK8 _ _ ?_)))
 refine zC fun K9 hK9 => ?_
 refine zB ?_
 refine zH (Do_makeFunc rfl) ?_
 refine zI (.func (.func 131) #[] #[.pointer (some ⟨b5, 0, none⟩)]) ?_
 refine (zD (zA (hK9 _ _ ?_)))
 refine zC fun K10 hK10 => ?_
 refine zB ?_
 refine zI (.string (bs [])) ?_
 refine (zD (zA (hK10 _ _ ?_)))
 refine zC fun K111 hK111 => ?_
 refine zC fun K112 hK112 => ?_
 refine zB ?_
 refine zH (fa70_0 rfl) ?_
 refine zH (zO one3 rfl (Cells.get (Blk.cells (H.item (i := 2) rfl)) (i := 0) rfl)) ?_
 refine (zD (zA (hK112 _ _ ?_)))
 refine yG ?_
 refine zC fun K113 hK113 => ?_
 refine zB ?_
 obtain ⟨x114, e115, hF⟩ := zF hF
 refine zH (zM (yR (a := p0.Kind) (b := 9) rfl rfl) e115) ?_
 refine zI (.bool x114) ?_
 refine (zD (zA (hK113 _ _ ?_)))
 obtain ⟨c116, hF⟩ := xZ hF
 refine WP_ifF c116 ?_
 refine zC fun K117 hK117 => ?_
 refine zB ?_
 obtain ⟨x118, e119, hF⟩ := zF hF
 refine zH (zM (yR (a := p0.Kind) (b := 10) rfl rfl) e119) ?_
 refine zI (.bool x118) ?_
 refine (zD (zA (hK117 _ _ ?_)))
 refine yA (b := x118) rfl (fun c120 => ?_) (fun c120 => ?_)
 ·have hF := zQ c120 hF
  refine zC fun K135 hK135 => ?_
  refine zC fun K136 hK136 => ?_
  refine zB ?_
  refine zH (fa70_6 rfl) ?_
  refine zH (zO one68 rfl (Cells.get (Blk.cells (H.item (i := 2) rfl)) (i := 6) rfl)) ?_
  have H137 := H
  obtain ⟨x138, e139, hF⟩ := zG hF
  refine zZ rfl rfl (zT en132 rfl) (F_event_joined_w rfP rhP p0.Kids [111, 114] 1 v1 _ e139 _ _ _ (H.enter [] [0, 1] (by decide) rfl)) ?_
  rintro _ w140 ⟨rfl, G141⟩
  have H := H137.step (G141.only : Only [] _ _)
  refine ⟨_, rfl, ?_⟩
  refine zI (.string (bs x138)) ?_
  refine (zD (zA (hK136 _ _ ?_)))
  refine zC fun K142 hK142 => ?_
  refine zB ?_
  refine zK (.int .i64 p1) ?_
  obtain ⟨x143, e144, hF⟩ := zF hF
  refine zH (zM (Do_neq (a := p1) (b := 0) rfl rfl) e144) ?_
  refine (zD (zA (hK142 _ _ ?_)))
  obtain ⟨c145, hF⟩ := iteB_nf hF
  refine WP_ifT c145 ?_
  refine zB ?_
  refine zK (.string (bs x138)) ?_
  obtain ⟨x146, e147, hF⟩ := zG hF
  refine zH (Do_cat (s1 := [40]) (s2 := x138) rfl rfl e147) ?_
  obtain ⟨x148, e149, hF⟩ := zG hF
  refine zH (Do_cat (s1 := x146) (s2 := [41]) rfl rfl e149) ?_
  refine zI (.string (bs x148)) ?_
  refine (zD (zA (hK135 _ _ ?_)))
  refine zC fun K150 hK150 => ?_
  refine zB ?_
  refine zK (.string (bs x148)) ?_
  refine zI (.string (bs x148)) ?_
  refine (zD (zA (hK150 _ _ ?_)))
  obtain rfl := someI hF
  refine (yB (yE (zW (post1 (v1 := .string (bs x148)) rfl rfl ?_))))
  exact ⟨rfl, H.pick [] (by decide)⟩
 have hF := zS c120 hF
 refine zC fun K151 hK151 => ?_
 refine zB ?_
 obtain ⟨x152, e153, hF⟩ := zF hF
 refine zH (zM (yR (a := p0.Kind) (b := 1) rfl rfl) e153) ?_
 refine zI (.bool x152) ?_
 refine (zD (zA (hK151 _ _ ?_)))
 refine yA (b := x152) rfl (fun c154 => ?_) (fun c154 => ?_)
 ·have hF := zQ c154 hF
  refine zC fun K155 hK155 => ?_
  refine zB ?_
  refine zI (.string (bs [116, 114, 117, 101])) ?_
  refine (zD (zA (hK155 _ _ ?_)))
  obtain rfl := someI hF
  refine (yB (yE (zW (post1 (v1 := .string (bs [116, 114, 117, 101])) rfl rfl ?_))))
  exact ⟨rfl, H.pick [] (by decide)⟩
 have hF := zS c154 hF
 refine zC fun K156 hK156 => ?_
 refine zB ?_
 obtain ⟨x157, e158, hF⟩ := zF hF
 refine zH (zM (yR (a := p0.Kind) (b := 2) rfl rfl) e158) ?_
 refine zI (.bool x157) ?_
 refine (zD (zA (hK156 _ _ ?_)))
 obtain ⟨c159, hF⟩ := xZ hF
 refine WP_ifF c159 ?_
 refine zC fun K160 hK160 => ?_
 refine zB ?_
 obtain ⟨x161, e162, hF⟩ := zF hF
 refine zH (zM (yR (a := p0.Kind) (b := 3) rfl rfl) e162) ?_
 refine zI (.bool x161) ?_
 refine (zD (zA (hK160 _ _ ?_)))
 refine yA (b := x161) rfl (fun c163 => ?_) (fun c163 => ?_)
 ·have hF := zQ c163 hF
  refine zC fun K164 hK164 => ?_
  have H := H.freezeB (i := 2) rfl
  have H165 := H
  have H := H.rebase
  have H166 := H
  have h167 := H.firm (i := 1) rfl
  have h168 := H.firm (i := 2) rfl
  refine WP_mix0 H [0, 1, 2, 3, 4, 5, 6, 7, 8, 9, 10, 11, 12, 13, 14] [.pure, .pure, .pure, .pure, .pure, .pure, .pure, .pure, .pure, .pure, .pure, .read, .eff, .pure, .pure] mixed (by kernel_rfl) (by kernel_rfl) (by kernel_rfl) rfl ?_
  refine Mx.yD rfl rfl rfl (fun w' hw' => fa70_1 rfl) ?_
  refine Mx.yD rfl rfl rfl (fun w' hw' => zO one9 rfl (Cells.get (h168 w' hw').2.2 (i := 1) rfl)) ?_
  obtain ⟨x169, e170, hF⟩ := zG hF
  refine Mx.yD rfl rfl rfl (fun w' hw' => Do_cat (s1 := p0.Name) (s2 := [32]) rfl rfl e170) ?_
  refine Mx.yD rfl rfl rfl (fun w' hw' => fa70_3 rfl) ?_
  refine Mx.yD rfl rfl rfl (fun w' hw' => zO one3 rfl (Cells.get (h168 w' hw').2.2 (i := 3) rfl)) ?_
  obtain ⟨x171, e172, hF⟩ := zG hF
  refine Mx.yD rfl rfl rfl (fun w' hw' => Do_idxA (X := zU) u209 sz9 rfl rfl e172) ?_
  refine Mx.yD rfl rfl rfl (fun w' hw' => Do_load1 (v := .string (bs x171)) one9 rfl (Cells.ix (e := Fl.str) (x := zU) (h167 w' hw').2.2 e172)) ?_
  obtain ⟨x173, e174, hF⟩ := zG hF
  refine Mx.yD rfl rfl rfl (fun w' hw' => Do_cat (s1 := x169) (s2 := x171) rfl rfl e174) ?_
  obtain ⟨x175, e176, hF⟩ := zG hF
  refine Mx.yD rfl rfl rfl (fun w' hw' => Do_cat (s1 := x173) (s2 := [32]) rfl rfl e176) ?_
  refine Mx.yD rfl rfl rfl (fun w' hw' => xK (v := .func (.func 130) #[] #[]) rfl) ?_
  refine Mx.yD rfl rfl rfl (fun w' hw' => fa70_4 rfl) ?_
  refine Mx.xO oS rfl rfl rfl (fun w' hw' => zO one3 rfl (Cells.get ((H.sees hw').item (i := 2) rfl).2.2 (i := 4) rfl)) ?_
  have H177 := H
  obtain ⟨x178, e179, hF⟩ := zG hF
  refine Mx.XL_effC oS rfl rfl rfl (fun w' hw' => DoC_clo en130 rfl rfl) (fun w' hw' => E.X_Itoa_w p0.N _ e179 _ _ _ ((H.sees hw').enter [] [] (by decide) rfl)) ?_
  rintro w' _ w180 hw' ⟨rfl, G181⟩
  have H := (H177.sees hw').step (G181.only : Only [] _ _)
  refine ⟨_, rfl, H.only, ?_⟩
  obtain ⟨x182, e183, hF⟩ := zG hF
  refine Mx.yD rfl rfl rfl (fun w' hw' => Do_cat (s1 := x175) (s2 := x178) rfl rfl e183) ?_
  refine Mx.yD rfl rfl rfl (fun w' hw' => Do_assign (v := .string (bs x182)) rfl) ?_
  refine Mx.XL_nil fun w184 hS => ?_
  have H := H.sees hS
  have H := H165.rejoin H
  refine (zA (hK164 _ _ ?_))
  obtain rfl := someI hF
  refine (yB (yE (zW (post1 (v1 := .string (bs x182)) rfl rfl ?_))))
  exact ⟨rfl, H.pick [] (by decide)⟩
 have hF := zS c163 hF
 refine zC fun K185 hK185 => ?_
 refine zB ?_
 obtain ⟨x186, e187, hF⟩ := zF hF
 refine zH (zM (yR (a := p0.Kind) (b := 4) rfl rfl) e187) ?_
 refine zI (.bool x186) ?_
 refine (zD (zA (hK185 _ _ ?_)))
 obtain ⟨c188, hF⟩ := xZ hF
 refine WP_ifF c188 ?_
 refine zC fun K189 hK189 => ?_
 refine zB ?_
 obtain ⟨x190, e191, hF⟩ := zF hF
 refine zH (zM (yR (a := p0.Kind) (b := 5) rfl rfl) e191) ?_
 refine zI (.bool x190) ?_
 refine (zD (zA (hK189 _ _ ?_)))
 obtain ⟨c192, hF⟩ := xZ hF
 refine WP_ifF c192 ?_
 refine zC fun K193 hK193 => ?_
 refine zB ?_
 obtain ⟨x194, e195, hF⟩ := zF hF
 refine zH (zM (yR (a := p0.Kind) (b := 6) rfl rfl) e195) ?_
 refine zI (.bool x194) ?_
 refine (zD (zA (hK193 _ _ ?_)))
 obtain ⟨c196, hF⟩ := xZ hF
 refine WP_ifF c196 ?_
 refine zC fun K197 hK197 => ?_
 refine zB ?_
 obtain ⟨x198, e199, hF⟩ := zF hF
 refine zH (zM (yR (a := p0.Kind) (b := 7) rfl rfl) e199) ?_
 refine zI (.bool x198) ?_
 refine (zD (zA (hK197 _ _ ?_)))
 obtain ⟨c200, hF⟩ := xZ hF
 refine WP_ifF c200 ?_
 refine zC fun K201 hK201 => ?_
 refine zB ?_
 obtain ⟨x202, e203, hF⟩ := zF hF
 refine zH (zM (yR (a := p0.Kind) (b := 8) rfl rfl) e203) ?_
 refine zI (.bool x202) ?_
 refine (zD (zA (hK201 _ _ ?_)))
 obtain ⟨c204, hF⟩ := iteB_nf hF
 refine WP_ifT c204 ?_
 refine zC fun K205 hK205 => ?_
 refine zB ?_
 refine zK (.func (.func 131) #[] #[.pointer (some ⟨b5, 0, none⟩)]) ?_
 obtain ⟨x206, e207, hF⟩ := zG hF
 refine zZ rfl rfl (DoC_clo en131 rfl rfl) (F_event_condText_1_w rfP rhP p0 b5 v1 _ e207 _ _ _ (H.enter [2] [0, 1] (by decide) rfl)) ?_
 rintro _ w208 ⟨rfl, G209⟩
 have H : Hd O _ w208 _ [.fz (.sl rCond v1 p0.Kids), .fz (.at 0 0 ((Fl.arr 7 Fl.str).f zU)), .blk b5 [.int .i64 p0.Kind, .string (bs p0.Name), .string (bs p0.Other), .int .i64 p0.Op, .int .i64 p0.N, .int .i64 p0.Frames, v1] 70] := H.back [2] [0, 1] rfl G209
 refine ⟨_, rfl, ?_⟩
 obtain ⟨x210, e211, hF⟩ := zG hF
 refine zH (Do_cat (s1 := [110, 111, 116, 32]) (s2 := x206) rfl rfl e211) ?_
 refine zI (.string (bs x210)) ?_
 refine (zD (zA (hK205 _ _ ?_)))
 obtain rfl := someI hF
 refine (yB (yE (zW (post1 (v1 := .string (bs x210)) rfl rfl ?_))))
 exact ⟨rfl, H.pick [] (by decide)⟩
theorem F_event_condText_s : S_event_condText (F_event_condText) := by
 have h : ∀ n, S_event_condText (F_event_condText_R n) := by
  intro n
  induction n with
  | zero => intro p0 p1 v1 r hF; cases hF
  | succ n ih => intro p0 p1 v1 r hF; exact F_event_condText_B_w (F_event_condText_R n) ih p0 p1 v1 r hF
 exact h FU
set_option maxHeartbeats 4000000 in
theorem F_strings_Builder_WriteString_w (p0 : List Int) (p1 : Str) (b1 : Nat) (v2 : Value) (v3 : Value) (r : Int × Unit × (List Int)) (hF : F_strings_Builder_WriteString p0 p1 = some r) (O S : List Nat) (w : World) (H : Hd O w w S [.own (Rp.int .u8) v3 5 p0, .blk b1 [v2, v3] 129, .fz (.oq v2 b1)]) :
  Calls Tryz.prog 68 ([.pointer (some ⟨b1, 0, none⟩), .string (bs p1)] : List Value).toArray w fun e w' => ∃ u7 u8, e = .returned (.tuple #[.int .i64 r.1, .nilIface]) ∧ Hd O w w' S [.fz (.oq u7 b1), .own (Rp.int .u8) u8 5 r.2.2, .blk b1 [u7, u8] 129] := by
 unfold F_strings_Builder_WriteString at hF
 refine zY 19 Tryz.func68 rfl rfl rfl ?_
 refine zC fun K9 hK9 => ?_
 refine zB ?_
 refine zI (.int .i64 0) ?_
 refine zI .nilIface ?_
 refine (zD (zA (hK9 _ _ ?_)))
 refine zC fun K10 hK10 => ?_
 refine zB ?_
 refine zK (.pointer (some ⟨b1, 0, none⟩)) ?_
 obtain ⟨x11, e12, hF⟩ := zG hF
 refine zZ rfl rfl (zT en129 rfl) (E.X_bcheck_w p0 b1 v2 v3 _ e12 _ _ _ (H.enter [0, 1] [2] (by decide) rfl)) ?_
 rintro _ w17 ⟨v13, v14, rfl, G18⟩
 have H : Hd O _ w17 _ [.fz (.oq v2 b1), .fz (.oq v13 b1), .own (Rp.int .u8) v14 5 x11, .blk b1 [v13, v14] 129] := H.back [0, 1] [2] rfl G18
 refine ⟨_, rfl, ?_⟩
 refine (zD (zA (hK10 _ _ ?_)))
 refine zC fun K19 hK19 => ?_
 refine zB ?_
 refine zK (.pointer (some ⟨b1, 0, none⟩)) ?_
 refine zK (.pointer (some ⟨b1, 0, none⟩)) ?_
 refine zH (yM rfl) ?_
 refine zH (fa129_1 rfl) ?_
 refine zH (zO one61 rfl (Cells.get (Blk.cells (H.item (i := 3) rfl)) (i := 1) rfl)) ?_
 refine zK (.string (bs p1)) ?_
 obtain ⟨x20, e21, hF⟩ := zG hF
 refine yZ rfl rfl (Lx_appstr H (i := 2) rfl u61 u9 z8_5 rfl rfl e21) ?_
 rintro v22 w23 H
 refine zH (yM rfl) ?_
 refine zH (fa129_1 rfl) ?_
 refine xH rfl (wH H 3 rfl sz61 rfl (v := v22) rfl (own_one (H.item (i := 2) rfl)) rfl) ?_
 rintro w24 H
 refine (zD (zA (hK19 _ _ ?_)))
 refine zC fun K25 hK25 => ?_
 refine zB ?_
 refine zK (.string (bs p1)) ?_
 obtain ⟨x26, e27, hF⟩ := zF hF
 refine zH (yN (Do_slen (s1 := p1) u9 rfl) (congrArg (Value.int .i64) e27)) ?_
 refine zI (.int .i64 x26) ?_
 refine zI .nilIface ?_
 refine (zD (zA (hK25 _ _ ?_)))
 obtain rfl := someI hF
 refine (yB (post2 (v1 := .int .i64 x26) (v2 := .nilIface) rfl rfl rfl ?_))
 exact ⟨v13, v22, rfl, H.pick [1, 2, 3] (by decide)⟩
set_option maxHeartbeats 4000000 in
theorem F_strings_Builder_Len_w (p0 : List Int) (b1 : Nat) (v2 : Value) (v3 : Value) (r : Int × (List Int)) (hF : F_strings_Builder_Len p0 = some r) (O S : List Nat) (w : World) (H : Hd O w w S [.own (Rp.int .u8) v3 5 p0, .blk b1 [v2, v3] 129, .fz (.oq v2 b1)]) :
  Calls Tryz.prog 70 ([.pointer (some ⟨b1, 0, none⟩)] : List Value).toArray w fun e w' => ∃ u7 u8, e = .returned (.int .i64 r.1) ∧ Hd O w w' S [.fz (.oq u7 b1), .own (Rp.int .u8) u8 5 r.2, .blk b1 [u7, u8] 129] := by
 unfold F_strings_Builder_Len at hF
 refine zY 8 Tryz.func70 rfl rfl rfl ?_
 refine zC fun K9 hK9 => ?_
 refine zB ?_
 refine zI (.int .i64 0) ?_
 refine (zD (zA (hK9 _ _ ?_)))
 refine zC fun K10 hK10 => ?_
 refine zB ?_
 refine zK (.pointer (some ⟨b1, 0, none⟩)) ?_
 refine zH (yM rfl) ?_
 refine zH (fa129_1 rfl) ?_
 refine zH (zO one61 rfl (Cells.get (Blk.cells (H.item (i := 1) rfl)) (i := 1) rfl)) ?_
 obtain ⟨x11, e12, hF⟩ := zF hF
 obtain ⟨a13, c14, q15⟩ := Sr.len (Sr.of_own (H.item (i := 0) rfl))
 refine zH (yN (xM u61 q15) (congrArg (Value.int .i64) e12)) ?_
 refine zI (.int .i64 x11) ?_
 refine (zD (zA (hK10 _ _ ?_)))
 obtain rfl := someI hF
 refine (yB (post1 (v1 := .int .i64 x11) rfl rfl ?_))
 exact ⟨v2, v3, rfl, H.pick [2, 0, 1] (by decide)⟩
set_option maxHeartbeats 4000000 in
theorem F_event_Print_w (p0 : Rules) (v1 : Value) (v2 : Value) (v3 : Value) (r : Str × Int) (hF : F_event_Print p0 = some r) (O S : List Nat) (w : World) (H : Hd O w w S [.fz (.sl Rp.str v1 p0.Phases), .fz (.sl rMoveT v2 p0.Moves), .fz (.sl rRule v3 p0.Rules), .fz (.at 0 0 ((Fl.arr 7 Fl.str).f zU))]) :
  Calls Tryz.prog 21 ([.agg [v1, v2, v3].toArray] : List Value).toArray w fun e w' => e = .returned (.tuple #[.string (bs r.1), .int .i64 r.2]) ∧ Hd O w w' S [] := by
 unfold F_event_Print at hF
 refine zY 72 Tryz.func21 rfl rfl rfl ?_
 refine zC fun K8 hK8 => ?_
 refine zB ?_
 refine yZ rfl rfl (wF (cs := [v1, v2, v3]) rfl H) ?_
 rintro _ w11 ⟨b9, rfl, H⟩
 refine zI (.string (bs [])) ?_
 refine zI (.int .i64 0) ?_
 refine (zD (zA (hK8 _ _ ?_)))
 refine zC fun K22 hK22 => ?_
 refine zC fun K23 hK23 => ?_
 refine zB ?_
 refine zH (yN (yJ (cs := [v1, v2, v3]) agg26 rfl sz26 rfl (Blk.cells (H.item (i := 4) rfl))) rfl) ?_
 have H24 := H
 obtain ⟨x25, e26, hF⟩ := zG hF
 refine zZ rfl rfl (zT en31 rfl) (F_event_Check_w p0 v1 v2 v3 _ e26 _ _ _ (H.enter [] [0, 1, 2] (by decide) rfl)) ?_
 rintro _ w27 ⟨rfl, G28⟩
 have H := H24.step (G28.only : Only [] _ _)
 refine ⟨_, rfl, ?_⟩
 refine zI (.int .i64 x25) ?_
 refine (zD (zA (hK23 _ _ ?_)))
 refine zC fun K29 hK29 => ?_
 refine zB ?_
 refine zK (.int .i64 x25) ?_
 obtain ⟨x30, e31, hF⟩ := zF hF
 refine zH (zM (Do_neq (a := x25) (b := 0) rfl rfl) e31) ?_
 refine (zD (zA (hK29 _ _ ?_)))
 obtain ⟨c32, hF⟩ := xZ hF
 refine WP_ifF c32 ?_
 refine (zX (zA (hK22 _ _ ?_)))
 refine zC fun K33 hK33 => ?_
 refine zB ?_
 refine yZ rfl rfl (xN zero129 H) ?_
 rintro _ w36 ⟨b34, rfl, H⟩
 refine (zD (zA (hK33 _ _ ?_)))
 obtain ⟨j63, hF, hK62⟩ := zG hF
 refine yL [7, 17, 18, 19, 20, 21, 22, 23, 24, 25, 26, 27, 28] (fun (g : Unit) => []) (fun g wl => Hd O w wl S [.fz (.sl Rp.str v1 p0.Phases), .fz (.sl rMoveT v2 p0.Moves), .fz (.sl rRule v3 p0.Rules), .fz (.at 0 0 ((Fl.arr 7 Fl.str).f zU)), .blk b9 [v1, v2, v3] 26, .blk b34 [.pointer none, .slice none 0 0] 129]) ?_ ?_
 ·skip
  refine zC fun K64 hK64 => ?_
  refine zB ?_
  refine zH (fa26_0 rfl) ?_
  refine zH (zO one22 rfl (Cells.get (Blk.cells (H.item (i := 4) rfl)) (i := 0) rfl)) ?_
  obtain ⟨x65, e66, hF⟩ := zF hF
  obtain ⟨a67, c68, q69⟩ := SlF.len ((H.item (i := 0) rfl))
  refine zH (yN (xM u22 q69) (congrArg (Value.int .i64) e66)) ?_
  refine zK (.int .i64 0) ?_
  refine (zD (zA (hK64 _ _ ?_)))
  refine yG ?_
  unfold F_event_Print_L1 at hF
  obtain ⟨B82, n83, eB84, hF⟩ := yS hF
  refine xE [7, 20, 21, 22, 23, 24, 25, 26, 27, 28] (fun (g : Nat) => [(20, .int .i64 0)]) (fun g wl => Hd O w wl S [.fz (.sl Rp.str v1 p0.Phases), .fz (.sl rMoveT v2 p0.Moves), .fz (.sl rRule v3 p0.Rules), .fz (.at 0 0 ((Fl.arr 7 Fl.str).f zU)), .blk b9 [v1, v2, v3] 26, .blk b34 [.pointer none, .slice none 0 0] 129] ∧ loopN B82 g () = some j63) (fun g => g) n83 (zJ rfl zL) ⟨H.pick [0, 1, 2, 3, 4, 5] (by decide), hF⟩ ?_
  clear H hF
  rintro n83 ρ w86 ⟨H, hF⟩
  obtain ⟨n87, rfl, hF⟩ := yX hF
  have hF := yY eB84 hF
  refine zC fun K88 hK88 => ?_
  refine zB ?_
  obtain ⟨x89, e90, hF⟩ := zF hF
  refine zH (zM (xI (a := 0) (b := x65) rfl rfl) e90) ?_
  refine (zD (zA (hK88 _ _ ?_)))
  refine zC fun K92 hK92 => ?_
  obtain ⟨c93, hF⟩ := xZ hF
  refine WP_ifF c93 ?_
  obtain rfl := someI hF
  exact (xJ (yO (yO (xB (zA (meet ⟨(), zL, H.pick [0, 1, 2, 3, 4, 5] (by decide)⟩))))))
 rintro _ ρ w61 H
 have hF := hK62
 obtain ⟨j120, hF, hK119⟩ := zG hF
 refine yL [9, 29, 30, 31, 32, 33, 34, 35, 36, 37, 38, 39, 40, 41, 42, 43, 44, 45, 46, 47, 48, 49, 50] (fun (g : Unit) => []) (fun g wl => Hd O w wl S [.fz (.sl Rp.str v1 p0.Phases), .fz (.sl rMoveT v2 p0.Moves), .fz (.sl rRule v3 p0.Rules), .fz (.at 0 0 ((Fl.arr 7 Fl.str).f zU)), .blk b9 [v1, v2, v3] 26, .blk b34 [.pointer none, .slice none 0 0] 129]) ?_ ?_
 ·skip
  refine zC fun K121 hK121 => ?_
  refine zB ?_
  refine zH (fa26_1 rfl) ?_
  refine zH (zO one23 rfl (Cells.get (Blk.cells (H.item (i := 4) rfl)) (i := 1) rfl)) ?_
  obtain ⟨x122, e123, hF⟩ := zF hF
  obtain ⟨a124, c125, q126⟩ := SlF.len ((H.item (i := 1) rfl))
  refine zH (yN (xM u23 q126) (congrArg (Value.int .i64) e123)) ?_
  refine zK (.int .i64 0) ?_
  refine (zD (zA (hK121 _ _ ?_)))
  refine yG ?_
  unfold F_event_Print_L2 at hF
  obtain ⟨B139, n140, eB141, hF⟩ := yS hF
  refine xE [9, 32, 33, 34, 35, 36, 37, 38, 39, 40, 41, 42, 43, 44, 45, 46, 47, 48, 49, 50] (fun (g : Nat) => [(32, .int .i64 0)]) (fun g wl => Hd O w wl S [.fz (.sl Rp.str v1 p0.Phases), .fz (.sl rMoveT v2 p0.Moves), .fz (.sl rRule v3 p0.Rules), .fz (.at 0 0 ((Fl.arr 7 Fl.str).f zU)), .blk b9 [v1, v2, v3] 26, .blk b34 [.pointer none, .slice none 0 0] 129] ∧ loopN B139 g () = some j120) (fun g => g) n140 (zJ rfl zL) ⟨H.pick [0, 1, 2, 3, 4, 5] (by decide), hF⟩ ?_
  clear H hF
  rintro n140 ρ w143 ⟨H, hF⟩
  obtain ⟨n144, rfl, hF⟩ := yX hF
  have hF := yY eB141 hF
  refine zC fun K145 hK145 => ?_
  refine zB ?_
  obtain ⟨x146, e147, hF⟩ := zF hF
  refine zH (zM (xI (a := 0) (b := x122) rfl rfl) e147) ?_
  refine (zD (zA (hK145 _ _ ?_)))
  refine zC fun K149 hK149 => ?_
  obtain ⟨c150, hF⟩ := xZ hF
  refine WP_ifF c150 ?_
  obtain rfl := someI hF
  exact (xJ (yO (yO (xB (zA (meet ⟨(), zL, H.pick [0, 1, 2, 3, 4, 5] (by decide)⟩))))))
 rintro _ ρ w118 H
 have hF := hK119
 obtain ⟨g372, hF, hK375⟩ := zG hF
 refine yL [11, 51, 52, 53, 54, 55, 56, 57, 58, 59, 60, 61, 62, 63, 64, 65, 66, 67, 68] (fun (g : Value × Value) => []) (fun g wl => Hd O w wl S [.fz (.at 0 0 ((Fl.arr 7 Fl.str).f zU)), .blk b34 [g.1, g.2] 129, .fz (.oq g.1 b34), .own (Rp.int .u8) g.2 5 g372]) ?_ ?_
 ·skip
  refine zC fun K376 hK376 => ?_
  refine zB ?_
  refine zH (fa26_2 rfl) ?_
  refine zH (zO one24 rfl (Cells.get (Blk.cells (H.item (i := 4) rfl)) (i := 2) rfl)) ?_
  obtain ⟨x377, e378, hF⟩ := zF hF
  obtain ⟨a379, c380, q381⟩ := SlF.len ((H.item (i := 2) rfl))
  refine zH (yN (xM u24 q381) (congrArg (Value.int .i64) e378)) ?_
  refine zK (.int .i64 0) ?_
  refine (zD (zA (hK376 _ _ ?_)))
  refine yG ?_
  have H := H.fz (.oq (.pointer none) b34) (.inl rfl)
  have H := own_nil H (Rp.int .u8) 5
  unfold F_event_Print_L3 at hF
  obtain ⟨B594, n595, eB596, hF⟩ := yS hF
  refine xE [11, 54, 55, 56, 57, 58, 59, 60, 61, 62, 63, 64, 65, 66, 67, 68] (fun (g : Nat × Int × (List Int) × Value × Value) => [(54, .int .i64 g.2.1)]) (fun g wl => Hd O w wl S [.fz (.sl rRule v3 p0.Rules), .fz (.at 0 0 ((Fl.arr 7 Fl.str).f zU)), .blk b34 [g.2.2.2.1, g.2.2.2.2] 129, .fz (.oq g.2.2.2.1 b34), .own (Rp.int .u8) g.2.2.2.2 5 g.2.2.1] ∧ loopN B594 g.1 (g.2.1, g.2.2.1) = some g372) (fun g => g.1) (n595, 0, [], .pointer none, .slice none 0 0) (zJ rfl zL) ⟨H.pick [2, 3, 5, 6, 7] (by decide), hF⟩ ?_
  clear H hF
  rintro ⟨n595, g586, g590, v587, v591⟩ ρ w598 ⟨H, hF⟩
  obtain ⟨n599, rfl, hF⟩ := yX hF
  have hF := yY eB596 hF
  refine zC fun K600 hK600 => ?_
  refine zB ?_
  obtain ⟨x601, e602, hF⟩ := zF hF
  refine zH (zM (xI (a := g586) (b := x377) rfl rfl) e602) ?_
  refine (zD (zA (hK600 _ _ ?_)))
  refine zC fun K604 hK604 => ?_
  refine yA (b := x601) rfl (fun c605 => ?_) (fun c605 => ?_)
  ·have hF := zQ c605 hF
   refine (zX (zA (hK604 _ _ ?_)))
   refine zC fun K650 hK650 => ?_
   refine yG ?_
   refine zC fun K651 hK651 => ?_
   refine zB ?_
   obtain ⟨x652, e653, hF⟩ := zG hF
   obtain ⟨b654, o655, c656, cs657, q658, h661, h659, h660, h662⟩ := rd_at (H.item (i := 0) rfl) e653
   obtain ⟨v663, rfl, h664⟩ := rRule_open h661
   have H := H.fzs [.at b654 (o655 + g586.toNat * 8) _, .sl rCond v663 x652.When.Kids] ⟨⟨h659, h660, h662⟩, h664, trivial⟩
   refine zH (wC u24 sz95 q658 rfl (yP e653).1 (yP e653).2.1 rfl rfl) ?_
   refine zH (yN (yJ (cs := [.string (bs x652.Name), .int .i64 x652.When.Kind, .string (bs x652.When.Name), .string (bs x652.When.Other), .int .i64 x652.When.Op, .int .i64 x652.When.N, .int .i64 x652.When.Frames, v663]) agg95 rfl sz95 rfl (H.item (i := 5) rfl).2.2) rfl) ?_
   refine yZ rfl rfl (xN zero95 H) ?_
   rintro _ w669 ⟨b667, rfl, H⟩
   refine xH rfl (xC (vs := [.string (bs x652.Name), .int .i64 x652.When.Kind, .string (bs x652.When.Name), .string (bs x652.When.Other), .int .i64 x652.When.Op, .int .i64 x652.When.N, .int .i64 x652.When.Frames, v663]) H 7 rfl sz95 rfl rfl rfl ⟨rfl, rfl, rfl, rfl, rfl, rfl, rfl, (slf_one (H.item (i := 6) rfl)), trivial⟩ rfl) ?_
   rintro w670 H
   refine (zD (zA (hK651 _ _ ?_)))
   have H671 := H
   have H := H.rebase
   have H672 := H
   refine WP_mix0 H [0, 1, 2, 3, 4, 5, 6, 7, 8, 9] [.pure, .read, .pure, .pure, .pure, .read, .read, .pure, .pure, .eff] mixed (by kernel_rfl) (by kernel_rfl) (by kernel_rfl) rfl ?_
   refine Mx.yD rfl rfl rfl (fun w' hw' => fa95_0 rfl) ?_
   refine Mx.xO oS rfl rfl rfl (fun w' hw' => zO one9 rfl (Cells.get (Blk.cells ((H.sees hw').item (i := 7) rfl)) (i := 0) rfl)) ?_
   obtain ⟨x673, e674, hF⟩ := zG hF
   refine Mx.yD rfl rfl rfl (fun w' hw' => Do_cat (s1 := [114, 117, 108, 101, 32]) (s2 := x652.Name) rfl rfl e674) ?_
   obtain ⟨x675, e676, hF⟩ := zG hF
   refine Mx.yD rfl rfl rfl (fun w' hw' => Do_cat (s1 := x673) (s2 := [32, 105, 102, 32]) rfl rfl e676) ?_
   refine Mx.yD rfl rfl rfl (fun w' hw' => fa95_1 rfl) ?_
   refine Mx.xO oS rfl rfl rfl (fun w' hw' => yN (yJ (cs := [.int .i64 x652.When.Kind, .string (bs x652.When.Name), .string (bs x652.When.Other), .int .i64 x652.When.Op, .int .i64 x652.When.N, .int .i64 x652.When.Frames, v663]) agg70 rfl sz70 rfl (Cells.drop (Blk.cells ((H.sees hw').item (i := 7) rfl)) 1 7)) rfl) ?_
   have H677 := H
   obtain ⟨x678, e679, hF⟩ := zG hF
   refine Mx.XL_call oS rfl rfl rfl (v := .string (bs x678)) (fun w' hw' => zT en69 rfl) (fun w' hw' => call_read (F_event_condText_s x652.When 0 v663 _ e679 _ _ _ ((H.sees hw').enter [] [6, 1] (by decide) rfl))) ?_
   have H := H677
   obtain ⟨x680, e681, hF⟩ := zG hF
   refine Mx.yD rfl rfl rfl (fun w' hw' => Do_cat (s1 := x675) (s2 := x678) rfl rfl e681) ?_
   obtain ⟨x682, e683, hF⟩ := zG hF
   refine Mx.yD rfl rfl rfl (fun w' hw' => Do_cat (s1 := x680) (s2 := [10]) rfl rfl e683) ?_
   obtain ⟨⟨x684, x685, x686⟩, e687, hF⟩ := zG hF
   refine Mx.XL_effC oS rfl rfl rfl (fun w' hw' => zT en68 rfl) (fun w' hw' => F_strings_Builder_WriteString_w g590 x682 b34 v587 v591 _ e687 _ _ _ ((H.sees hw').enter [4, 2] [3] (by decide) rfl)) ?_
   rintro w' _ w692 hw' ⟨v688, v689, rfl, G693⟩
   have H : Hd O _ w692 _ [.fz (.sl rRule v3 p0.Rules), .fz (.at 0 0 ((Fl.arr 7 Fl.str).f zU)), .fz (.oq v587 b34), .fz (.at b654 (o655 + g586.toNat * 8) [.string (bs x652.Name), .int .i64 x652.When.Kind, .string (bs x652.When.Name), .string (bs x652.When.Other), .int .i64 x652.When.Op, .int .i64 x652.When.N, .int .i64 x652.When.Frames, v663]), .fz (.sl rCond v663 x652.When.Kids), .blk b667 [.string (bs x652.Name), .int .i64 x652.When.Kind, .string (bs x652.When.Name), .string (bs x652.When.Other), .int .i64 x652.When.Op, .int .i64 x652.When.N, .int .i64 x652.When.Frames, v663] 95, .fz (.oq v688 b34), .own (Rp.int .u8) v689 5 x686, .blk b34 [v688, v689] 129] := (H.sees hw').back [4, 2] [3] rfl G693
   refine ⟨_, rfl, H.only, ?_⟩
   refine Mx.XL_nil fun w694 hS => ?_
   have H := H.sees hS
   have H := H671.rejoin H
   refine (yT (zA (hK650 _ _ ?_)))
   refine zB ?_
   obtain ⟨x695, e696, hF⟩ := zF hF
   refine zH (xP (a := g586) (b := 1) rfl rfl e696) ?_
   refine zK (.int .i64 x695) ?_
   exact (zD (zA (meet ⟨(n599, x695, x686, v688, v689), (zJ rfl zL), ⟨H.pick [0, 1, 8, 6, 7] (by decide), hF⟩, Nat.lt_succ_self _⟩)))
  have hF := zS c605 hF
  obtain rfl := someI hF
  exact (xJ (yO (yO (xB (zA (meet ⟨(v587, v591), zL, H.pick [1, 2, 3, 4] (by decide)⟩))))))
 rintro ⟨v369, v373⟩ ρ w374 H
 have hF := hK375
 refine zC fun K710 hK710 => ?_
 refine zC fun K711 hK711 => ?_
 refine zB ?_
 obtain ⟨⟨x712, x713⟩, e714, hF⟩ := zG hF
 refine zZ rfl rfl (zT en70 rfl) (F_strings_Builder_Len_w g372 b34 v369 v373 _ e714 _ _ _ (H.enter [3, 1] [2] (by decide) rfl)) ?_
 rintro _ w719 ⟨v715, v716, rfl, G720⟩
 have H : Hd O _ w719 _ [.fz (.at 0 0 ((Fl.arr 7 Fl.str).f zU)), .fz (.oq v369 b34), .fz (.oq v715 b34), .own (Rp.int .u8) v716 5 x713, .blk b34 [v715, v716] 129] := H.back [3, 1] [2] rfl G720
 refine ⟨_, rfl, ?_⟩
 obtain ⟨x721, e722, hF⟩ := zF hF
 refine zH (zM (Do_gtr (a := x712) (b := 200000) rfl rfl) e722) ?_
 refine (zD (zA (hK711 _ _ ?_)))
 obtain ⟨c723, hF⟩ := xZ hF
 refine WP_ifF c723 ?_
 refine (zX (zA (hK710 _ _ ?_)))
 refine zC fun K724 hK724 => ?_
 refine zB ?_
 obtain ⟨x725, e726, hF⟩ := zG hF
 refine zZ rfl rfl (zT en71 rfl) (E.X_bstring_w x713 b34 v715 v716 _ e726 _ _ _ (H.enter [3, 4] [2] (by decide) rfl)) ?_
 rintro _ w727 ⟨rfl, G728⟩
 have H : Hd O _ w727 _ [.fz (.at 0 0 ((Fl.arr 7 Fl.str).f zU)), .fz (.oq v369 b34), .fz (.oq v715 b34)] := H.back [3, 4] [2] rfl G728
 refine ⟨_, rfl, ?_⟩
 refine zI (.string (bs x725)) ?_
 refine zI (.int .i64 0) ?_
 refine (zD (zA (hK724 _ _ ?_)))
 obtain rfl := someI hF
 refine (yB (post2 (v1 := .string (bs x725)) (v2 := .int .i64 0) rfl rfl rfl ?_))
 exact ⟨rfl, H.pick [] (by decide)⟩
set_option maxHeartbeats 4000000 in
theorem F_law6_reads_w (r : Bool) (hF : F_law6_reads = some r) (O S : List Nat) (w : World) (H : Hd O w w S [.fz (.at 0 0 ((Fl.arr 7 Fl.str).f zU)), .fz (.gi 4)]) :
  Calls Tryz.prog 20 ([] : List Value).toArray w fun e w' => e = .returned (.bool r) ∧ Hd O w w' S [] := by
 unfold F_law6_reads at hF
 refine zY 26 Tryz.func20 rfl rfl rfl ?_
 refine zC fun K3 hK3 => ?_
 refine zB ?_
 refine zI (.bool false) ?_
 refine (zD (zA (hK3 _ _ ?_)))
 refine zC fun K4 hK4 => ?_
 refine zB ?_
 obtain ⟨⟨x5, x6, x7⟩, e8, hF⟩ := zG hF
 refine zZ rfl rfl (zT en18 rfl) (F_event_Read_w [114, 117, 108, 101, 32, 97, 32, 105, 102, 32, 110, 111, 116, 32, 32, 40, 120, 32, 62, 49, 32, 111, 114, 32, 116, 114, 117, 101, 41] _ e8 _ _ _ (H.enter [] [0, 1] (by decide) rfl)) ?_
 rintro _ w15 ⟨v9, v10, v11, rfl, G16⟩
 have H := H.back1 [0, 1] rfl G16
 refine ⟨_, rfl, ?_⟩
 refine zK (.tuple #[.agg [v9, v10, v11].toArray, .int .i64 x6, .int .i64 x7]) ?_
 refine zH (xY (v := .agg [v9, v10, v11].toArray) rfl rfl) ?_
 refine zH (xY (v := .int .i64 x6) rfl rfl) ?_
 refine zH (xY (v := .int .i64 x7) rfl rfl) ?_
 refine yZ rfl rfl (xN zero26 H) ?_
 rintro _ w19 ⟨b17, rfl, H⟩
 refine xH rfl (xC (vs := [v9, v10, v11]) H 5 rfl sz26 rfl rfl rfl ⟨(slf_one (H.item (i := 2) rfl)), (slf_one (H.item (i := 3) rfl)), (slf_one (H.item (i := 4) rfl)), trivial⟩ rfl) ?_
 rintro w20 H
 refine zI (.int .i64 x6) ?_
 refine zI (.int .i64 x7) ?_
 refine (zD (zA (hK4 _ _ ?_)))
 refine zC fun K21 hK21 => ?_
 refine zB ?_
 refine zH (yN (yJ (cs := [v9, v10, v11]) agg26 rfl sz26 rfl (Blk.cells (H.item (i := 5) rfl))) rfl) ?_
 have H22 := H
 obtain ⟨⟨x23, x24⟩, e25, hF⟩ := zG hF
 refine zZ rfl rfl (zT en21 rfl) (F_event_Print_w x5 v9 v10 v11 _ e25 _ _ _ (H.enter [] [2, 3, 4, 0] (by decide) rfl)) ?_
 rintro _ w26 ⟨rfl, G27⟩
 have H := H22.step (G27.only : Only [] _ _)
 refine ⟨_, rfl, ?_⟩
 refine zK (.tuple #[.string (bs x23), .int .i64 x24]) ?_
 refine zH (xY (v := .string (bs x23)) rfl rfl) ?_
 refine zH (xY (v := .int .i64 x24) rfl rfl) ?_
 refine zI (.string (bs x23)) ?_
 refine zI (.int .i64 x24) ?_
 refine (zD (zA (hK21 _ _ ?_)))
 refine zC fun K39 hK39 => ?_
 refine zB ?_
 refine zK (.int .i64 x7) ?_
 obtain ⟨x40, e41, hF⟩ := zF hF
 refine zH (zM (yR (a := x7) (b := 0) rfl rfl) e41) ?_
 obtain ⟨j42, hF, hK43⟩ := zG hF
 refine RL_cutS 4 [18, 19, 20, 21] [(21, .bool j42)] (fun wl => Hd O w wl S [.fz (.at 0 0 ((Fl.arr 7 Fl.str).f zU)), .fz (.gi 4), .fz (.sl Rp.str v9 x5.Phases), .fz (.sl rMoveT v10 x5.Moves), .fz (.sl rRule v11 x5.Rules), .blk b17 [v9, v10, v11] 26]) ?_ ?_
 ·skip
  obtain ⟨c45, hF⟩ := iteB_nf hF
  refine RL_sp true c45 ?_
  refine zK (.int .i64 x24) ?_
  obtain ⟨x46, e47, hF⟩ := zF hF
  refine zH (zM (yR (a := x24) (b := 0) rfl rfl) e47) ?_
  refine zH (yI (v := .bool x46) rfl rfl) ?_
  obtain rfl := someI hF
  exact zD (zA (meet ⟨(zJ rfl zL), H.pick [0, 1, 2, 3, 4, 5] (by decide)⟩))
 rintro ρ w44 H
 have hF := hK43
 obtain ⟨c48, hF⟩ := iteB_nf hF
 refine RL_sp true c48 ?_
 refine zK (.string (bs x23)) ?_
 obtain ⟨x49, e50, hF⟩ := zF hF
 refine zH (zM (xW (s1 := x23) (s2 := [114, 117, 108, 101, 32, 97, 32, 105, 102, 32, 110, 111, 116, 32, 40, 120, 32, 62, 32, 49, 32, 111, 114, 32, 116, 114, 117, 101, 41, 10]) rfl rfl) e50) ?_
 refine zH (yI (v := .bool x49) rfl rfl) ?_
 refine zI (.bool x49) ?_
 refine (zD (zA (hK39 _ _ ?_)))
 obtain rfl := someI hF
 refine (yB (post1 (v1 := .bool x49) rfl rfl ?_))
 exact ⟨rfl, H.pick [] (by decide)⟩
set_option maxHeartbeats 4000000 in
theorem F_law6_EventCheckMatchesSpec_w (p0 : Cond) (p1 : Rules) (v1 : Value) (v3 : Value) (v4 : Value) (v5 : Value) (r : Bool) (hF : F_law6_EventCheckMatchesSpec p0 p1 = some r) (O S : List Nat) (w : World) (H : Hd O w w S [.fz (.sl rCond v1 p0.Kids), .fz (.sl Rp.str v3 p1.Phases), .fz (.sl rMoveT v4 p1.Moves), .fz (.sl rRule v5 p1.Rules), .fz (.at 0 0 ((Fl.arr 7 Fl.str).f zU)), .fz (.at 3 0 ((Fl.arr 20 (Fl.int .u64)).f zN)), .fz (.gi 4)]) :
  Calls Tryz.prog 7 ([.agg [.int .i64 p0.Kind, .string (bs p0.Name), .string (bs p0.Other), .int .i64 p0.Op, .int .i64 p0.N, .int .i64 p0.Frames, v1].toArray, .agg [v3, v4, v5].toArray] : List Value).toArray w fun e w' => e = .returned (.bool r) ∧ Hd O w w' S [] := by
 unfold F_law6_EventCheckMatchesSpec at hF
 refine zY 56 Tryz.func7 rfl rfl rfl ?_
 refine zC fun K12 hK12 => ?_
 refine zB ?_
 refine yZ rfl rfl (wF (cs := [.int .i64 p0.Kind, .string (bs p0.Name), .string (bs p0.Other), .int .i64 p0.Op, .int .i64 p0.N, .int .i64 p0.Frames, v1]) rfl H) ?_
 rintro _ w15 ⟨b13, rfl, H⟩
 refine yZ rfl rfl (wF (cs := [v3, v4, v5]) rfl H) ?_
 rintro _ w18 ⟨b16, rfl, H⟩
 refine zI (.bool false) ?_
 refine (zD (zA (hK12 _ _ ?_)))
 refine zC fun K69 hK69 => ?_
 obtain ⟨g115, hF, hK117⟩ := zG hF
 refine yL [9, 10, 11, 12, 13, 14, 15, 16, 17, 18, 19, 20, 21, 22, 23, 24, 25, 26, 27, 28, 29, 30, 31, 32, 33] (fun (g : Unit) => [(33, .bool g115)]) (fun g wl => Hd O w wl S [.fz (.sl Rp.str v3 p1.Phases), .fz (.sl rMoveT v4 p1.Moves), .fz (.sl rRule v5 p1.Rules), .fz (.at 0 0 ((Fl.arr 7 Fl.str).f zU)), .fz (.at 3 0 ((Fl.arr 20 (Fl.int .u64)).f zN)), .fz (.gi 4), .blk b16 [v3, v4, v5] 26]) ?_ ?_
 ·skip
  have H118 := H
  have H := H.rebase
  have H119 := H
  refine WP_mix H [0, 1, 2, 3, 4, 5, 6, 7, 8, 9, 10, 11, 12, 13, 18, 14, 15, 16, 17, 19, 20, 21, 22, 23, 24] [.read, .read, .read, .read, .pure, .pure, .read, .read, .read, .read, .pure, .pure, .pure, .read, .new, .pure, .pure, .read, .read, .new, .pure, .pure, .read, .pure, .pure] mixed (by kernel_rfl) (by kernel_rfl) (by kernel_rfl) (by decide) ?_
  refine Mx.xO oS rfl rfl rfl (fun w' hw' => yN (yJ (cs := [.int .i64 p0.Kind, .string (bs p0.Name), .string (bs p0.Other), .int .i64 p0.Op, .int .i64 p0.N, .int .i64 p0.Frames, v1]) agg70 rfl sz70 rfl (Blk.cells ((H.sees hw').item (i := 7) rfl))) rfl) ?_
  have H120 := H
  obtain ⟨x121, e122, hF⟩ := zG hF
  refine Mx.XL_call oS rfl rfl rfl (v := .int .i64 x121) (fun w' hw' => zT en29 rfl) (fun w' hw' => call_read (F_event_CheckCond_w p0 v1 _ e122 _ _ _ ((H.sees hw').enter [] [0] (by decide) rfl))) ?_
  have H := H120
  refine Mx.xO oS rfl rfl rfl (fun w' hw' => yN (yJ (cs := [.int .i64 p0.Kind, .string (bs p0.Name), .string (bs p0.Other), .int .i64 p0.Op, .int .i64 p0.N, .int .i64 p0.Frames, v1]) agg70 rfl sz70 rfl (Blk.cells ((H.sees hw').item (i := 7) rfl))) rfl) ?_
  have H123 := H
  obtain ⟨x124, e125, hF⟩ := zG hF
  refine Mx.XL_call oS rfl rfl rfl (v := .int .i64 x124) (fun w' hw' => zT en30 rfl) (fun w' hw' => call_read (F_ref6_CheckCond_w p0 v1 _ e125 _ _ _ ((H.sees hw').enter [] [0] (by decide) rfl))) ?_
  have H := H123
  obtain ⟨x126, e127, hF⟩ := zF hF
  refine Mx.yD rfl rfl rfl (fun w' hw' => zM (Do_neq (a := x121) (b := x124) rfl rfl) e127) ?_
  refine Mx.XL_splitb (b := x126) rfl rfl rfl rfl (fun c128 => ?_) (fun c128 => ?_)
  ·have hF := zQ c128 hF
   refine Mx.XL_offr oS rfl rfl rfl ?_
   refine Mx.XL_offr oS rfl rfl rfl ?_
   refine Mx.XL_offr oS rfl rfl rfl ?_
   refine Mx.XL_offr oS rfl rfl rfl ?_
   refine Mx.XL_offp rfl rfl rfl ?_
   refine Mx.yD rfl rfl rfl (fun w' hw' => yI (v := .bool true) rfl rfl) ?_
   refine Mx.yD rfl rfl rfl (fun w' hw' => xK (v := .bool true) rfl) ?_
   refine Mx.XL_offr oS rfl rfl rfl ?_
   refine Mx.XL_offr oS rfl rfl rfl ?_
   refine Mx.XL_offn oS rfl rfl rfl ?_
   refine Mx.XL_offp rfl rfl rfl ?_
   refine Mx.XL_offp rfl rfl rfl ?_
   refine Mx.XL_offr oS rfl rfl rfl ?_
   refine Mx.XL_offn oS rfl rfl rfl ?_
   refine Mx.XL_offp rfl rfl rfl ?_
   refine Mx.XL_offp rfl rfl rfl ?_
   refine Mx.XL_offr oS rfl rfl rfl ?_
   refine Mx.XL_offp rfl rfl rfl ?_
   refine Mx.yD rfl rfl rfl (fun w' hw' => yI (v := .bool true) rfl rfl) ?_
   refine Mx.XL_nil fun w129 hS => ?_
   have H := H.sees hS
   have H := H118.rejoin H
   obtain rfl := someI hF
   exact (zA (meet ⟨(), (zJ rfl zL), H.pick [1, 2, 3, 4, 5, 6, 8] (by decide)⟩))
  have hF := zS c128 hF
  refine Mx.xO oS rfl rfl rfl (fun w' hw' => yN (yJ (cs := [v3, v4, v5]) agg26 rfl sz26 rfl (Blk.cells ((H.sees hw').item (i := 8) rfl))) rfl) ?_
  have H130 := H
  obtain ⟨x131, e132, hF⟩ := zG hF
  refine Mx.XL_call oS rfl rfl rfl (v := .int .i64 x131) (fun w' hw' => zT en31 rfl) (fun w' hw' => call_read (F_event_Check_w p1 v3 v4 v5 _ e132 _ _ _ ((H.sees hw').enter [] [1, 2, 3] (by decide) rfl))) ?_
  have H := H130
  refine Mx.xO oS rfl rfl rfl (fun w' hw' => yN (yJ (cs := [v3, v4, v5]) agg26 rfl sz26 rfl (Blk.cells ((H.sees hw').item (i := 8) rfl))) rfl) ?_
  have H133 := H
  obtain ⟨x134, e135, hF⟩ := zG hF
  refine Mx.XL_call oS rfl rfl rfl (v := .int .i64 x134) (fun w' hw' => zT en32 rfl) (fun w' hw' => call_read (F_ref6_Check_w p1 v3 v4 v5 _ e135 _ _ _ ((H.sees hw').enter [] [1, 2, 3] (by decide) rfl))) ?_
  have H := H133
  obtain ⟨x136, e137, hF⟩ := zF hF
  refine Mx.yD rfl rfl rfl (fun w' hw' => zM (Do_neq (a := x131) (b := x134) rfl rfl) e137) ?_
  refine Mx.yD rfl rfl rfl (fun w' hw' => yF (v := .bool x136) rfl rfl) ?_
  refine Mx.XL_splitb (b := x136) rfl rfl rfl rfl (fun c138 => ?_) (fun c138 => ?_)
  ·have hF := zQ c138 hF
   refine Mx.XL_offr oS rfl rfl rfl ?_
   refine Mx.XL_offr oS rfl rfl rfl ?_
   refine Mx.XL_offn oS rfl rfl rfl ?_
   refine Mx.XL_offp rfl rfl rfl ?_
   refine Mx.XL_offp rfl rfl rfl ?_
   refine Mx.XL_offr oS rfl rfl rfl ?_
   refine Mx.XL_offn oS rfl rfl rfl ?_
   refine Mx.XL_offp rfl rfl rfl ?_
   refine Mx.XL_offp rfl rfl rfl ?_
   refine Mx.XL_offr oS rfl rfl rfl ?_
   refine Mx.XL_offp rfl rfl rfl ?_
   refine Mx.yD rfl rfl rfl (fun w' hw' => yI (v := .bool true) rfl rfl) ?_
   refine Mx.XL_nil fun w139 hS => ?_
   have H := H.sees hS
   have H := H118.rejoin H
   obtain rfl := someI hF
   exact (zA (meet ⟨(), (zJ rfl zL), H.pick [1, 2, 3, 4, 5, 6, 8] (by decide)⟩))
  have hF := zS c138 hF
  refine Mx.xO oS rfl rfl rfl (fun w' hw' => yN (yJ (cs := [v3, v4, v5]) agg26 rfl sz26 rfl (Blk.cells ((H.sees hw').item (i := 8) rfl))) rfl) ?_
  refine Mx.xO oS rfl rfl rfl (fun w' hw' => yN (yJ (cs := [v3, v4, v5]) agg26 rfl sz26 rfl (Blk.cells ((H.sees hw').item (i := 8) rfl))) rfl) ?_
  obtain ⟨⟨x140, x141⟩, e142, hF⟩ := zG hF
  refine Mx.XL_newC oS rfl rfl rfl (fun w' hw' => zT en34 rfl) (fun w' hw' => F_event_Tracks_w p1 v3 v4 v5 _ e142 _ _ _ ((H.sees hw').enter [] [1, 2, 3] (by decide) rfl)) ?_
  rintro w' _ w145 hw' ⟨v143, rfl, G146⟩
  have H := (H.sees hw').back1 [1, 2, 3] rfl G146
  refine ⟨_, rfl, (G146.only : Only [] _ _).below, ?_⟩
  refine Mx.yD rfl rfl rfl (fun w' hw' => xY (v := v143) rfl rfl) ?_
  refine Mx.yD rfl rfl rfl (fun w' hw' => xY (v := .int .i64 x141) rfl rfl) ?_
  have H147 := H
  have H := H.freeze (i := 9) rfl
  obtain ⟨x148, e149, hF⟩ := zG hF
  refine Mx.XL_call oS rfl rfl rfl (v := .string (bs x148)) (fun w' hw' => zT en33 rfl) (fun w' hw' => call_read (F_law6_texts_w x140 x141 v143 _ e149 _ _ _ ((H.sees hw').enter [] [9, 5] (by decide) rfl))) ?_
  have H := H147
  obtain ⟨⟨x150, x151⟩, e152, hF⟩ := zG hF
  refine Mx.XL_newC oS rfl rfl rfl (fun w' hw' => zT en35 rfl) (fun w' hw' => F_ref6_Tracks_w p1 v3 v4 v5 _ e152 _ _ _ ((H.sees hw').enter [] [1, 2, 3] (by decide) rfl)) ?_
  rintro w' _ w155 hw' ⟨v153, rfl, G156⟩
  have H := (H.sees hw').back1 [1, 2, 3] rfl G156
  refine ⟨_, rfl, (G156.only : Only [] _ _).below, ?_⟩
  refine Mx.yD rfl rfl rfl (fun w' hw' => xY (v := v153) rfl rfl) ?_
  refine Mx.yD rfl rfl rfl (fun w' hw' => xY (v := .int .i64 x151) rfl rfl) ?_
  have H157 := H
  obtain ⟨x158, e159, hF⟩ := zG hF
  refine Mx.XL_call oS rfl rfl rfl (v := .string (bs x158)) (fun w' hw' => zT en33 rfl) (fun w' hw' => call_read (F_law6_texts_w x150 x151 v153 _ e159 _ _ _ ((H.sees hw').enter [] [10, 5] (by decide) rfl))) ?_
  have H := H157
  obtain ⟨x160, e161, hF⟩ := zF hF
  refine Mx.yD rfl rfl rfl (fun w' hw' => zM (Do_neqs (s1 := x148) (s2 := x158) rfl rfl) e161) ?_
  refine Mx.yD rfl rfl rfl (fun w' hw' => yF (v := .bool x160) rfl rfl) ?_
  refine Mx.XL_nil fun w162 hS => ?_
  have H := H.sees hS
  have H := H118.rejoin H
  obtain rfl := someI hF
  exact (zA (meet ⟨(), (zJ rfl zL), H.pick [1, 2, 3, 4, 5, 6, 8] (by decide)⟩))
 rintro _ ρ w116 H
 have hF := hK117
 refine yA (b := g115) rfl (fun c163 => ?_) (fun c163 => ?_)
 ·have hF := zQ c163 hF
  refine zC fun K164 hK164 => ?_
  refine zB ?_
  refine zI (.bool false) ?_
  refine (zD (zA (hK164 _ _ ?_)))
  obtain rfl := someI hF
  refine (yB (zW (post1 (v1 := .bool false) rfl rfl ?_)))
  exact ⟨rfl, H.pick [] (by decide)⟩
 have hF := zS c163 hF
 refine (zX (zA (hK69 _ _ ?_)))
 refine zC fun K165 hK165 => ?_
 refine zB ?_
 refine zH (yN (yJ (cs := [v3, v4, v5]) agg26 rfl sz26 rfl (Blk.cells (H.item (i := 6) rfl))) rfl) ?_
 obtain ⟨⟨x166, x167⟩, e168, hF⟩ := zG hF
 refine zZ rfl rfl (zT en36 rfl) (F_event_Depths_w p1 v3 v4 v5 _ e168 _ _ _ (H.enter [] [0, 1, 2] (by decide) rfl)) ?_
 rintro _ w171 ⟨v169, rfl, G172⟩
 have H := H.back1 [0, 1, 2] rfl G172
 refine ⟨_, rfl, ?_⟩
 refine zK (.tuple #[v169, .int .i64 x167]) ?_
 refine zH (xY (v := v169) rfl rfl) ?_
 refine zH (xY (v := .int .i64 x167) rfl rfl) ?_
 refine zI v169 ?_
 refine zI (.int .i64 x167) ?_
 refine (zD (zA (hK165 _ _ ?_)))
 refine zC fun K173 hK173 => ?_
 refine zB ?_
 refine zH (yN (yJ (cs := [v3, v4, v5]) agg26 rfl sz26 rfl (Blk.cells (H.item (i := 6) rfl))) rfl) ?_
 obtain ⟨⟨x174, x175⟩, e176, hF⟩ := zG hF
 refine zZ rfl rfl (zT en37 rfl) (F_ref6_Depths_w p1 v3 v4 v5 _ e176 _ _ _ (H.enter [] [0, 1, 2] (by decide) rfl)) ?_
 rintro _ w179 ⟨v177, rfl, G180⟩
 have H := H.back1 [0, 1, 2] rfl G180
 refine ⟨_, rfl, ?_⟩
 refine zK (.tuple #[v177, .int .i64 x175]) ?_
 refine zH (xY (v := v177) rfl rfl) ?_
 refine zH (xY (v := .int .i64 x175) rfl rfl) ?_
 refine zI v177 ?_
 refine zI (.int .i64 x175) ?_
 refine (zD (zA (hK173 _ _ ?_)))
 obtain ⟨g209, hF, hK211⟩ := zG hF
 refine yL [4, 44, 45, 46, 47, 48, 49, 50, 51, 52, 53, 54, 55] (fun (g : Unit) => [(4, .bool g209)]) (fun g wl => Hd O w wl S [.fz (.at 0 0 ((Fl.arr 7 Fl.str).f zU)), .fz (.at 3 0 ((Fl.arr 20 (Fl.int .u64)).f zN)), .fz (.gi 4)]) ?_ ?_
 ·skip
  refine zB ?_
  refine zK v169 ?_
  have H := H.freeze (i := 7) rfl
  obtain ⟨x212, e213, hF⟩ := zF hF
  subst e213
  refine yZ rfl rfl (Lx_bs (r := (Rp.sl (Rp.int .i64))) (xl := [x166]) (cs := [v169]) u28 el38 (by decide) (by decide) rfl (fillB_ones rfl rfl ⟨(slf_one (H.item (i := 7) rfl)), trivial⟩) H ⟨[v169], [], rfl, ⟨_, rfl, (H.item (i := 7) rfl)⟩, rfl⟩) ?_
  rintro v215 w216 H
  refine zK (.int .i64 x167) ?_
  have H217 := H
  have H := H.freeze (i := 9) rfl
  obtain ⟨x218, e219, hF⟩ := zG hF
  refine zZ rfl rfl (zT en38 rfl) (F_law6_lists_w ([x166] : List (List Int)) x167 v215 _ e219 _ _ _ (H.enter [] [9, 4] (by decide) rfl)) ?_
  rintro _ w220 ⟨rfl, G221⟩
  have H := H217.step (G221.only : Only [] _ _)
  refine ⟨_, rfl, ?_⟩
  refine zK v177 ?_
  have H := H.freeze (i := 8) rfl
  obtain ⟨x222, e223, hF⟩ := zF hF
  subst e223
  refine yZ rfl rfl (Lx_bs (r := (Rp.sl (Rp.int .i64))) (xl := [x174]) (cs := [v177]) u28 el38 (by decide) (by decide) rfl (fillB_ones rfl rfl ⟨(slf_one (H.item (i := 8) rfl)), trivial⟩) H ⟨[v177], [], rfl, ⟨_, rfl, (H.item (i := 8) rfl)⟩, rfl⟩) ?_
  rintro v225 w226 H
  refine zK (.int .i64 x175) ?_
  have H227 := H
  have H := H.freeze (i := 10) rfl
  obtain ⟨x228, e229, hF⟩ := zG hF
  refine zZ rfl rfl (zT en38 rfl) (F_law6_lists_w ([x174] : List (List Int)) x175 v225 _ e229 _ _ _ (H.enter [] [10, 4] (by decide) rfl)) ?_
  rintro _ w230 ⟨rfl, G231⟩
  have H := H227.step (G231.only : Only [] _ _)
  refine ⟨_, rfl, ?_⟩
  obtain ⟨x232, e233, hF⟩ := zF hF
  refine zH (zM (xW (s1 := x218) (s2 := x228) rfl rfl) e233) ?_
  refine yK (b := x232) rfl rfl rfl (fun c234 => ?_) (fun c234 => ?_)
  ·have hF := zQ c234 hF
   have H235 := H
   obtain ⟨x236, e237, hF⟩ := zG hF
   refine zZ rfl rfl (zT en20 rfl) (F_law6_reads_w _ e237 _ _ _ (H.enter [] [3, 5] (by decide) rfl)) ?_
   rintro _ w238 ⟨rfl, G239⟩
   have H := H235.step (G239.only : Only [] _ _)
   refine ⟨_, rfl, ?_⟩
   refine zH (yI (v := .bool x236) rfl rfl) ?_
   refine zI (.bool x236) ?_
   obtain rfl := someI hF
   exact (zD (zA (meet ⟨(), (zJ rfl zL), H.pick [3, 4, 5] (by decide)⟩)))
  have hF := zS c234 hF
  refine yC ?_
  refine zH (yF (v := .bool false) rfl rfl) ?_
  refine zI (.bool false) ?_
  obtain rfl := someI hF
  exact (zD (zA (meet ⟨(), (zJ rfl zL), H.pick [3, 4, 5] (by decide)⟩)))
 rintro _ ρ w210 H
 have hF := hK211
 obtain rfl := someI hF
 refine (yB (post1 (v1 := .bool g209) rfl rfl ?_))
 exact ⟨rfl, H.pick [] (by decide)⟩
end Go.Proofs.YtckmiljbaejijaaGreatDoor.L
