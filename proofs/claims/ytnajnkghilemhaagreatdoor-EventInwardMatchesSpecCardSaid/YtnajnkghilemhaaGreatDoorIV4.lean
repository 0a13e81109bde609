/- Walks: what each function computes, for every argument; no condition but those that stand in the statements. -/
import Derived.Test.YtnajnkghilemhaaGreatDoorIV0
import Derived.Test.YtnajnkghilemhaaGreatDoorIV3
namespace Go.Proofs.YtnajnkghilemhaaGreatDoor.L
open Go.RowKit Go.OB Go.Lf
set_option maxHeartbeats 4000000 in
set_option maxRecDepth 100000 in
theorem F_ref6_inward_B_w (rfJ : Cond → Bool → Option Cond) (rhJ : S_ref6_inward rfJ) (p0 : Cond) (p1 : Bool) (v1 : Value) (r : Cond) (hF : F_ref6_inward_B rfJ p0 p1 = some r) (O S : List Nat) (w : World) (H : Hd O w w S [.fz (.sl rCond v1 p0.Kids)]) :
  Calls Tryz.prog 59 ([.agg [.int .i64 p0.Kind, .string (bs p0.Name), .string (bs p0.Other), .int .i64 p0.Op, .int .i64 p0.N, .int .i64 p0.Frames, v1].toArray, .bool p1] : List Value).toArray w fun e w' => ∃ u3, e = .returned (.agg [.int .i64 r.Kind, .string (bs r.Name), .string (bs r.Other), .int .i64 r.Op, .int .i64 r.N, .int .i64 r.Frames, u3].toArray) ∧ Hd O w w' S [.fz (.sl rCond u3 r.Kids)] := by
 unfold F_ref6_inward_B at hF
 refine yB 94 Tryz.func59 rfl rfl rfl ?_
 refine zC fun K4 hK4 => ?_
 refine zB ?_
 refine yX rfl rfl (Lx_box (cs := [.int .i64 p0.Kind, .string (bs p0.Name), .string (bs p0.Other), .int .i64 p0.Op, .int .i64 p0.N, .int .i64 p0.Frames, v1]) rfl H) ?_
 rintro _ w7 ⟨b5, rfl, H⟩
 refine yX rfl rfl (xB zero54 H) ?_
 rintro _ w10 ⟨b8, rfl, H⟩
 refine (zF (zA (hK4 _ _ ?_)))
 refine zC fun K40 hK40 => ?_
 refine zC fun K41 hK41 => ?_
 refine zB ?_
 refine zH (fa54_0 rfl) ?_
 refine zH (zT one3 rfl (Cells.get (Blk.cells (H.item (i := 1) rfl)) (i := 0) rfl)) ?_
 obtain ⟨x42, e43, hF⟩ := zG hF
 refine zH (zS (yP (a := p0.Kind) (b := 8) rfl rfl) e43) ?_
 refine (zF (zA (hK41 _ _ ?_)))
 refine zW (b := x42) rfl (fun c44 => ?_) (fun c44 => ?_)
 ·have hF := zO c44 hF
  refine zC fun K45 hK45 => ?_
  refine zB ?_
  refine zH (fa54_6 rfl) ?_
  refine zH (zT one52 rfl (Cells.get (Blk.cells (H.item (i := 1) rfl)) (i := 6) rfl)) ?_
  obtain ⟨x46, e47, hF⟩ := zD hF
  obtain ⟨b48, o49, c50, cs51, q52, h55, h53, h54, h56⟩ := rd_at (H.item (i := 0) rfl) e47
  obtain ⟨v57, rfl, h58⟩ := xX h55
  have H := H.fzs [.at b48 (o49 + (0 : Int).toNat * 7) _, .sl rCond v57 x46.Kids] ⟨⟨h53, h54, h56⟩, h58, trivial⟩
  refine zH (Do_idx u52 sz54 q52 rfl (yU e47).1 (yU e47).2.1 rfl rfl) ?_
  refine zH (yQ (yM (cs := [.int .i64 x46.Kind, .string (bs x46.Name), .string (bs x46.Other), .int .i64 x46.Op, .int .i64 x46.N, .int .i64 x46.Frames, v57]) agg54 rfl sz54 rfl (H.item (i := 3) rfl).2.2) rfl) ?_
  refine zM (.bool p1) ?_
  obtain ⟨x61, e62, hF⟩ := zG hF
  refine zH (zS (xY (p := p1) rfl) e62) ?_
  obtain ⟨x63, e64, hF⟩ := zD hF
  refine zV rfl rfl (zU en59 rfl) (rhJ x46 x61 v57 _ e64 _ _ _ (H.enter [] [4] (by decide) rfl)) ?_
  rintro _ w67 ⟨v65, rfl, G68⟩
  have H := H.back1 [4] rfl G68
  refine ⟨_, rfl, ?_⟩
  refine yN rfl (yH (vs := [.int .i64 x63.Kind, .string (bs x63.Name), .string (bs x63.Other), .int .i64 x63.Op, .int .i64 x63.N, .int .i64 x63.Frames, v65]) H 2 rfl sz54 rfl rfl rfl ⟨rfl, rfl, rfl, rfl, rfl, rfl, (wE (H.item (i := 5) rfl)), trivial⟩ rfl) ?_
  rintro w69 H
  refine (zF (zA (hK45 _ _ ?_)))
  obtain rfl := someI hF
  refine (zZ (zY (postc  rfl rfl (yC agg54 sz54 rfl (Blk.cells (H.item (i := 2) rfl))) ?_)))
  exact ⟨v65, rfl, H.pick [5] (by decide)⟩
 have hF := zN c44 hF
 refine (yA (zA (hK40 _ _ ?_)))
 refine zC fun K70 hK70 => ?_
 refine zB ?_
 refine zH (yQ (yM (cs := [.int .i64 p0.Kind, .string (bs p0.Name), .string (bs p0.Other), .int .i64 p0.Op, .int .i64 p0.N, .int .i64 p0.Frames, v1]) agg54 rfl sz54 rfl (Blk.cells (H.item (i := 1) rfl))) rfl) ?_
 refine yX rfl rfl (xB zero54 H) ?_
 rintro _ w73 ⟨b71, rfl, H⟩
 refine yN rfl (yH (vs := [.int .i64 p0.Kind, .string (bs p0.Name), .string (bs p0.Other), .int .i64 p0.Op, .int .i64 p0.N, .int .i64 p0.Frames, v1]) H 3 rfl sz54 rfl rfl rfl ⟨rfl, rfl, rfl, rfl, rfl, rfl, (wE (H.item (i := 0) rfl)), trivial⟩ rfl) ?_
 rintro w74 H
 refine (zF (zA (hK70 _ _ ?_)))
 refine zC fun K75 hK75 => ?_
 refine zB ?_
 refine zM (.bool p1) ?_
 refine zI (.bool p1) ?_
 refine (zF (zA (hK75 _ _ ?_)))
 obtain ⟨g99, hF, hK101⟩ := zD hF
 refine yL [6, 20, 21, 22, 23, 24, 25, 26, 27] (fun (g : Unit) => [(6, .bool g99)]) (fun g wl => Hd O w wl S [.fz (.sl rCond v1 p0.Kids), .blk b5 [.int .i64 p0.Kind, .string (bs p0.Name), .string (bs p0.Other), .int .i64 p0.Op, .int .i64 p0.N, .int .i64 p0.Frames, v1] 54, .blk b8 [.int .i64 0, .string (bs []), .string (bs []), .int .i64 0, .int .i64 0, .int .i64 0, .slice none 0 0] 54, .blk b71 [.int .i64 p0.Kind, .string (bs p0.Name), .string (bs p0.Other), .int .i64 p0.Op, .int .i64 p0.N, .int .i64 p0.Frames, v1] 54]) ?_ ?_
 ·skip
  refine zC fun K102 hK102 => ?_
  refine zB ?_
  refine zH (fa54_0 rfl) ?_
  refine zH (zT one3 rfl (Cells.get (Blk.cells (H.item (i := 1) rfl)) (i := 0) rfl)) ?_
  refine (zF (zA (hK102 _ _ ?_)))
  refine yJ ?_
  obtain ⟨g121, hF, hK123⟩ := zD hF
  refine yL [22, 23, 24, 25, 26, 27] (fun (g : Unit) => [(22, .bool g121)]) (fun g wl => Hd O w wl S [.fz (.sl rCond v1 p0.Kids), .blk b5 [.int .i64 p0.Kind, .string (bs p0.Name), .string (bs p0.Other), .int .i64 p0.Op, .int .i64 p0.N, .int .i64 p0.Frames, v1] 54, .blk b8 [.int .i64 0, .string (bs []), .string (bs []), .int .i64 0, .int .i64 0, .int .i64 0, .slice none 0 0] 54, .blk b71 [.int .i64 p0.Kind, .string (bs p0.Name), .string (bs p0.Other), .int .i64 p0.Op, .int .i64 p0.N, .int .i64 p0.Frames, v1] 54]) ?_ ?_
  ·skip
   refine zC fun K124 hK124 => ?_
   refine zB ?_
   obtain ⟨x125, e126, hF⟩ := zG hF
   refine zH (zS (yP (a := p0.Kind) (b := 6) rfl rfl) e126) ?_
   refine zI (.bool x125) ?_
   refine (zF (zA (hK124 _ _ ?_)))
   refine zW (b := x125) rfl (fun c127 => ?_) (fun c127 => ?_)
   ·have hF := zO c127 hF
    obtain rfl := someI hF
    exact (yA (zA (meet ⟨(), (zK rfl zL), H.pick [0, 1, 2, 3] (by decide)⟩)))
   have hF := zN c127 hF
   refine zC fun K128 hK128 => ?_
   refine zB ?_
   obtain ⟨x129, e130, hF⟩ := zG hF
   refine zH (zS (yP (a := p0.Kind) (b := 7) rfl rfl) e130) ?_
   refine zI (.bool x129) ?_
   refine (zF (zA (hK128 _ _ ?_)))
   refine zW (b := x129) rfl (fun c131 => ?_) (fun c131 => ?_)
   ·have hF := zO c131 hF
    obtain rfl := someI hF
    exact (yA (zA (meet ⟨(), (zK rfl zL), H.pick [0, 1, 2, 3] (by decide)⟩)))
   have hF := zN c131 hF
   refine zC fun K132 hK132 => ?_
   refine zB ?_
   obtain ⟨x133, e134, hF⟩ := zG hF
   refine zH (zS (yP (a := p0.Kind) (b := 5) rfl rfl) e134) ?_
   refine zI (.bool x133) ?_
   refine (zF (zA (hK132 _ _ ?_)))
   refine zW (b := x133) rfl (fun c135 => ?_) (fun c135 => ?_)
   ·have hF := zO c135 hF
    obtain rfl := someI hF
    exact (yA (zA (meet ⟨(), (zK rfl zL), H.pick [0, 1, 2, 3] (by decide)⟩)))
   have hF := zN c135 hF
   refine zC fun K136 hK136 => ?_
   refine zB ?_
   obtain ⟨x137, e138, hF⟩ := zG hF
   refine zH (zS (yP (a := p0.Kind) (b := 14) rfl rfl) e138) ?_
   refine zI (.bool x137) ?_
   refine (zF (zA (hK136 _ _ ?_)))
   refine zW (b := x137) rfl (fun c139 => ?_) (fun c139 => ?_)
   ·have hF := zO c139 hF
    obtain rfl := someI hF
    exact (yA (zA (meet ⟨(), (zK rfl zL), H.pick [0, 1, 2, 3] (by decide)⟩)))
   have hF := zN c139 hF
   refine zB ?_
   obtain ⟨x140, e141, hF⟩ := zG hF
   refine zH (zS (yP (a := p0.Kind) (b := 15) rfl rfl) e141) ?_
   refine zI (.bool x140) ?_
   obtain rfl := someI hF
   exact (zF (zA (meet ⟨(), (zK rfl zL), H.pick [0, 1, 2, 3] (by decide)⟩)))
  rintro _ ρ w122 H
  have hF := hK123
  refine zW (b := g121) rfl (fun c142 => ?_) (fun c142 => ?_)
  ·have hF := zO c142 hF
   refine zB ?_
   refine zI (.bool false) ?_
   obtain rfl := someI hF
   exact (zF (yR (zA (meet ⟨(), (zK rfl zL), H.pick [0, 1, 2, 3] (by decide)⟩))))
  have hF := zN c142 hF
  obtain rfl := someI hF
  exact (yA (yR (zA (meet ⟨(), (zK rfl zL), H.pick [0, 1, 2, 3] (by decide)⟩))))
 rintro _ ρ w100 H
 have hF := hK101
 refine zC fun K143 hK143 => ?_
 refine zB ?_
 refine zH (fa54_6 rfl) ?_
 refine yN rfl (xA H 3 rfl sz52 rfl (v := .slice none 0 0) rfl rfl rfl) ?_
 rintro w144 H
 refine (zF (zA (hK143 _ _ ?_)))
 obtain ⟨g340, hF, hK343⟩ := zD hF
 refine yL [7, 29, 30, 31, 32, 33, 34, 35, 36, 37, 38, 39, 40, 41, 42, 43, 44, 45, 46, 47] (fun (g : Value) => []) (fun g wl => Hd O w wl S [.fz (.sl rCond v1 p0.Kids), .blk b5 [.int .i64 p0.Kind, .string (bs p0.Name), .string (bs p0.Other), .int .i64 p0.Op, .int .i64 p0.N, .int .i64 p0.Frames, v1] 54, .blk b8 [.int .i64 0, .string (bs []), .string (bs []), .int .i64 0, .int .i64 0, .int .i64 0, .slice none 0 0] 54, .blk b71 [.int .i64 p0.Kind, .string (bs p0.Name), .string (bs p0.Other), .int .i64 p0.Op, .int .i64 p0.N, .int .i64 p0.Frames, g] 54, .own rCond g 54 g340]) ?_ ?_
 ·skip
  refine zC fun K344 hK344 => ?_
  refine zB ?_
  refine zI (.int .i64 0) ?_
  refine (zF (zA (hK344 _ _ ?_)))
  refine yJ ?_
  have H := own_nil H rCond 54
  unfold F_ref6_inward_B_L1 at hF
  obtain ⟨B536, n537, eB538, hF⟩ := yY hF
  refine xK [7, 29, 30, 31, 32, 33, 34, 35, 36, 37, 38, 39, 40, 41, 42, 43, 44, 45, 46, 47] (fun (g : Nat × Int × (List Cond) × Value) => [(7, .int .i64 g.2.1)]) (fun g wl => Hd O w wl S [.fz (.sl rCond v1 p0.Kids), .blk b5 [.int .i64 p0.Kind, .string (bs p0.Name), .string (bs p0.Other), .int .i64 p0.Op, .int .i64 p0.N, .int .i64 p0.Frames, v1] 54, .blk b8 [.int .i64 0, .string (bs []), .string (bs []), .int .i64 0, .int .i64 0, .int .i64 0, .slice none 0 0] 54, .blk b71 [.int .i64 p0.Kind, .string (bs p0.Name), .string (bs p0.Other), .int .i64 p0.Op, .int .i64 p0.N, .int .i64 p0.Frames, g.2.2.2] 54, .own rCond g.2.2.2 54 g.2.2.1] ∧ loopN B536 g.1 (g.2.1, g.2.2.1) = some g340) (fun g => g.1) (n537, 0, [], .slice none 0 0) (zK rfl zL) ⟨H.pick [0, 1, 2, 3, 4] (by decide), hF⟩ ?_
  clear H hF
  rintro ⟨n537, g531, g533, v534⟩ ρ w540 ⟨H, hF⟩
  obtain ⟨n541, rfl, hF⟩ := xE hF
  have hF := xC eB538 hF
  refine zC fun K551 hK551 => ?_
  refine zC fun K552 hK552 => ?_
  refine zB ?_
  refine zM (.int .i64 g531) ?_
  refine zH (fa54_6 rfl) ?_
  refine zH (zT one52 rfl (Cells.get (Blk.cells (H.item (i := 1) rfl)) (i := 6) rfl)) ?_
  obtain ⟨x553, e554, hF⟩ := zG hF
  obtain ⟨a555, c556, q557⟩ := SlF.len ((H.item (i := 0) rfl))
  refine zH (yQ (Do_len u52 q557) (congrArg (Value.int .i64) e554)) ?_
  obtain ⟨x558, e559, hF⟩ := zG hF
  refine zH (zS (xZ (a := g531) (b := x553) rfl rfl) e559) ?_
  refine (zF (zA (hK552 _ _ ?_)))
  refine zW (b := x558) rfl (fun c560 => ?_) (fun c560 => ?_)
  ·have hF := zO c560 hF
   refine (yA (zA (hK551 _ _ ?_)))
   refine zC fun K595 hK595 => ?_
   refine yJ ?_
   have H596 := H
   have H := H.rebase
   have H597 := H
   refine WP_mix0 H [0, 1, 2, 3, 4, 5, 6, 7, 8, 9, 10, 11, 12] [.pure, .read, .pure, .read, .pure, .pure, .read, .pure, .new, .new, .eff, .pure, .eff] mixed (by kernel_rfl) (by kernel_rfl) (by kernel_rfl) rfl ?_
   refine Mx.zX rfl rfl rfl (fun w' hw' => fa54_6 rfl) ?_
   refine Mx.xM oS rfl rfl rfl (fun w' hw' => zT one52 rfl (Cells.get (Blk.cells ((H.sees hw').item (i := 3) rfl)) (i := 6) rfl)) ?_
   refine Mx.zX rfl rfl rfl (fun w' hw' => fa54_6 rfl) ?_
   refine Mx.xM oS rfl rfl rfl (fun w' hw' => zT one52 rfl (Cells.get (Blk.cells ((H.sees hw').item (i := 1) rfl)) (i := 6) rfl)) ?_
   refine Mx.zX rfl rfl rfl (fun w' hw' => xI (v := .int .i64 g531) rfl) ?_
   obtain ⟨x598, e599, hF⟩ := zD hF
   obtain ⟨b600, o601, c602, cs603, q604, h607, h605, h606, h608⟩ := rd_at (H.item (i := 0) rfl) e599
   obtain ⟨v609, rfl, h610⟩ := xX h607
   have H := H.fzs [.at b600 (o601 + g531.toNat * 7) _, .sl rCond v609 x598.Kids] ⟨⟨h605, h606, h608⟩, h610, trivial⟩
   refine Mx.zX rfl rfl rfl (fun w' hw' => Do_idx u52 sz54 q604 rfl (yU e599).1 (yU e599).2.1 rfl rfl) ?_
   refine Mx.xM oS rfl rfl rfl (fun w' hw' => yQ (yM (cs := [.int .i64 x598.Kind, .string (bs x598.Name), .string (bs x598.Other), .int .i64 x598.Op, .int .i64 x598.N, .int .i64 x598.Frames, v609]) agg54 rfl sz54 rfl ((H.sees hw').item (i := 5) rfl).2.2) rfl) ?_
   refine Mx.zX rfl rfl rfl (fun w' hw' => xI (v := .bool g99) rfl) ?_
   obtain ⟨x613, e614, hF⟩ := zD hF
   refine Mx.XL_newC oS rfl rfl rfl (fun w' hw' => zU en59 rfl) (fun w' hw' => rhJ x598 g99 v609 _ e614 _ _ _ ((H.sees hw').enter [] [6] (by decide) rfl)) ?_
   rintro w' _ w617 hw' ⟨v615, rfl, G618⟩
   have H := (H.sees hw').back1 [6] rfl G618
   refine ⟨_, rfl, (G618.only : Only [] _ _).below, ?_⟩
   obtain ⟨x619, e620, hF⟩ := zG hF
   subst e620
   refine Mx.XL_exN oS rfl rfl rfl (fun w' hw' => Ls_of (Lx_bs (r := rCond) (xl := [x613]) (cs := [.int .i64 x613.Kind, .string (bs x613.Name), .string (bs x613.Other), .int .i64 x613.Op, .int .i64 x613.N, .int .i64 x613.Frames, v615]) u52 el54 (by decide) (by decide) rfl (xJ (vs := [.agg [.int .i64 x613.Kind, .string (bs x613.Name), .string (bs x613.Other), .int .i64 x613.Op, .int .i64 x613.N, .int .i64 x613.Frames, v615].toArray]) (by decide) rfl rfl ⟨rfl, trivial⟩ rfl) (H.sees hw') ⟨[.int .i64 x613.Kind, .string (bs x613.Name), .string (bs x613.Other), .int .i64 x613.Op, .int .i64 x613.N, .int .i64 x613.Frames, v615], [], rfl, (rCond_mk (x := x613) ((H.sees hw').item (i := 7) rfl)), rfl⟩) (Ys_bs (cs := [.int .i64 x613.Kind, .string (bs x613.Name), .string (bs x613.Other), .int .i64 x613.Op, .int .i64 x613.N, .int .i64 x613.Frames, v615]) u52 el54 (by decide) (by decide) (xJ (vs := [.agg [.int .i64 x613.Kind, .string (bs x613.Name), .string (bs x613.Other), .int .i64 x613.Op, .int .i64 x613.N, .int .i64 x613.Frames, v615].toArray]) (by decide) rfl rfl ⟨rfl, trivial⟩ rfl))) ?_
   rintro w' v622 w623 hw' H
   obtain ⟨x624, e625, hF⟩ := zD hF
   refine Mx.XL_ex oS rfl rfl rfl (fun w' hw' => Lx_app (H.sees hw') (i := 4) rfl u52 el54 rfl rfl (Sr.of_own ((H.sees hw').item (i := 8) rfl)) e625) ?_
   rintro w' v626 w627 hw' H
   refine ⟨H.only, ?_⟩
   refine Mx.zX rfl rfl rfl (fun w' hw' => fa54_6 rfl) ?_
   refine Mx.XL_exU oS rfl rfl (fun w' hw' => xA (H.sees hw') 3 rfl sz52 rfl (v := v626) rfl (own_one ((H.sees hw').item (i := 4) rfl)) rfl) ?_
   rintro w' w628 hw' H
   refine ⟨H.only, ?_⟩
   refine Mx.XL_nil fun w629 hS => ?_
   have H := H.sees hS
   have H := H596.rejoin H
   refine (yR (zA (hK595 _ _ ?_)))
   refine zB ?_
   refine zM (.int .i64 g531) ?_
   obtain ⟨x630, e631, hF⟩ := zG hF
   refine zH (wC (a := g531) (b := 1) rfl rfl e631) ?_
   refine zI (.int .i64 x630) ?_
   exact (zF (zA (meet ⟨(n541, x630, x624, v626), (zK rfl zL), ⟨H.pick [0, 1, 2, 3, 4] (by decide), hF⟩, Nat.lt_succ_self _⟩)))
  have hF := zN c560 hF
  obtain rfl := someI hF
  exact (xW (yT (yT (xG (zA (meet ⟨v534, zL, H.pick [0, 1, 2, 3, 4] (by decide)⟩))))))
 rintro v341 ρ w342 H
 have hF := hK343
 refine zC fun K638 hK638 => ?_
 refine zC fun K639 hK639 => ?_
 refine zB ?_
 refine zM (.bool p1) ?_
 obtain ⟨x640, e641, hF⟩ := zG hF
 refine zH (zS (xY (p := p1) rfl) e641) ?_
 refine (zF (zA (hK639 _ _ ?_)))
 refine zW (b := x640) rfl (fun c642 => ?_) (fun c642 => ?_)
 ·have hF := zO c642 hF
  refine zC fun K643 hK643 => ?_
  refine zB ?_
  refine zH (yQ (yM (cs := [.int .i64 p0.Kind, .string (bs p0.Name), .string (bs p0.Other), .int .i64 p0.Op, .int .i64 p0.N, .int .i64 p0.Frames, v341]) agg54 rfl sz54 rfl (Blk.cells (H.item (i := 3) rfl))) rfl) ?_
  refine yN rfl (yH (vs := [.int .i64 p0.Kind, .string (bs p0.Name), .string (bs p0.Other), .int .i64 p0.Op, .int .i64 p0.N, .int .i64 p0.Frames, v341]) H 2 rfl sz54 rfl rfl rfl ⟨rfl, rfl, rfl, rfl, rfl, rfl, (own_one (H.item (i := 4) rfl)), trivial⟩ rfl) ?_
  rintro w644 H
  refine (zF (zA (hK643 _ _ ?_)))
  have H := H.freeze (i := 4) rfl
  obtain rfl := someI hF
  refine (zZ (zY (postc  rfl rfl (yC agg54 sz54 rfl (Blk.cells (H.item (i := 2) rfl))) ?_)))
  exact ⟨v341, rfl, H.pick [4] (by decide)⟩
 have hF := zN c642 hF
 refine (yA (zA (hK638 _ _ ?_)))
 obtain ⟨k724, ek725, hF⟩ := joinO_some hF
 refine yL [51, 52, 53, 54, 55, 56, 57, 58, 59, 60, 61, 62, 63, 64, 65, 66, 67, 68, 69, 70, 71, 72, 73, 74, 75, 76, 77, 78, 79, 80, 81, 82, 83, 84, 85, 86, 87, 88, 89, 90, 91, 92] (fun (g : Int × Int × Int) => []) (fun g wl => Hd O w wl S [.blk b8 [.int .i64 0, .string (bs []), .string (bs []), .int .i64 0, .int .i64 0, .int .i64 0, .slice none 0 0] 54, .blk b71 [.int .i64 g.1, .string (bs p0.Name), .string (bs p0.Other), .int .i64 g.2.1, .int .i64 g.2.2, .int .i64 p0.Frames, v341] 54, .own rCond v341 54 g340] ∧ k724 (g.1, g.2.1, g.2.2) = some r) ?_ ?_
 ·skip
  refine zC fun K726 hK726 => ?_
  refine zB ?_
  refine zH (fa54_0 rfl) ?_
  refine zH (zT one3 rfl (Cells.get (Blk.cells (H.item (i := 1) rfl)) (i := 0) rfl)) ?_
  refine (zF (zA (hK726 _ _ ?_)))
  refine yJ ?_
  obtain ⟨g733, hF, hK735⟩ := zD hF
  refine yL [56, 57, 58] (fun (g : Unit) => [(56, .bool g733)]) (fun g wl => Hd O w wl S [.fz (.sl rCond v1 p0.Kids), .blk b5 [.int .i64 p0.Kind, .string (bs p0.Name), .string (bs p0.Other), .int .i64 p0.Op, .int .i64 p0.N, .int .i64 p0.Frames, v1] 54, .blk b8 [.int .i64 0, .string (bs []), .string (bs []), .int .i64 0, .int .i64 0, .int .i64 0, .slice none 0 0] 54, .blk b71 [.int .i64 p0.Kind, .string (bs p0.Name), .string (bs p0.Other), .int .i64 p0.Op, .int .i64 p0.N, .int .i64 p0.Frames, v341] 54, .own rCond v341 54 g340]) ?_ ?_
  ·skip
   refine zC fun K736 hK736 => ?_
   refine zB ?_
   obtain ⟨x737, e738, hF⟩ := zG hF
   refine zH (zS (yP (a := p0.Kind) (b := 1) rfl rfl) e738) ?_
   refine zI (.bool x737) ?_
   refine (zF (zA (hK736 _ _ ?_)))
   refine zW (b := x737) rfl (fun c739 => ?_) (fun c739 => ?_)
   ·have hF := zO c739 hF
    obtain rfl := someI hF
    exact (yA (zA (meet ⟨(), (zK rfl zL), H.pick [0, 1, 2, 3, 4] (by decide)⟩)))
   have hF := zN c739 hF
   refine zB ?_
   obtain ⟨x740, e741, hF⟩ := zG hF
   refine zH (zS (yP (a := p0.Kind) (b := 2) rfl rfl) e741) ?_
   refine zI (.bool x740) ?_
   obtain rfl := someI hF
   exact (zF (zA (meet ⟨(), (zK rfl zL), H.pick [0, 1, 2, 3, 4] (by decide)⟩)))
  rintro _ ρ w734 H
  have hF := hK735
  refine zW (b := g733) rfl (fun c742 => ?_) (fun c742 => ?_)
  ·have hF := zO c742 hF
   refine zB ?_
   refine zH (fa54_0 rfl) ?_
   refine zH (zT one3 rfl (Cells.get (Blk.cells (H.item (i := 1) rfl)) (i := 0) rfl)) ?_
   obtain ⟨x743, e744, hF⟩ := zG hF
   refine zH (Do_sub (a := 3) (b := p0.Kind) rfl rfl e744) ?_
   refine zH (fa54_0 rfl) ?_
   refine yN rfl (xA H 3 rfl sz3 rfl (v := .int .i64 x743) rfl rfl rfl) ?_
   rintro w745 H
   exact (zF (yR (zA (meet ⟨(x743, p0.Op, p0.N), zL, ⟨H.pick [2, 3, 4] (by decide), hF⟩⟩))))
  have hF := zN c742 hF
  obtain ⟨g752, hF, hK754⟩ := zD hF
  refine yL [63, 64, 65] (fun (g : Unit) => [(63, .bool g752)]) (fun g wl => Hd O w wl S [.fz (.sl rCond v1 p0.Kids), .blk b5 [.int .i64 p0.Kind, .string (bs p0.Name), .string (bs p0.Other), .int .i64 p0.Op, .int .i64 p0.N, .int .i64 p0.Frames, v1] 54, .blk b8 [.int .i64 0, .string (bs []), .string (bs []), .int .i64 0, .int .i64 0, .int .i64 0, .slice none 0 0] 54, .blk b71 [.int .i64 p0.Kind, .string (bs p0.Name), .string (bs p0.Other), .int .i64 p0.Op, .int .i64 p0.N, .int .i64 p0.Frames, v341] 54, .own rCond v341 54 g340]) ?_ ?_
  ·skip
   refine zC fun K755 hK755 => ?_
   refine zB ?_
   obtain ⟨x756, e757, hF⟩ := zG hF
   refine zH (zS (yP (a := p0.Kind) (b := 3) rfl rfl) e757) ?_
   refine zI (.bool x756) ?_
   refine (zF (zA (hK755 _ _ ?_)))
   refine zW (b := x756) rfl (fun c758 => ?_) (fun c758 => ?_)
   ·have hF := zO c758 hF
    obtain rfl := someI hF
    exact (yA (zA (meet ⟨(), (zK rfl zL), H.pick [0, 1, 2, 3, 4] (by decide)⟩)))
   have hF := zN c758 hF
   refine zB ?_
   obtain ⟨x759, e760, hF⟩ := zG hF
   refine zH (zS (yP (a := p0.Kind) (b := 4) rfl rfl) e760) ?_
   refine zI (.bool x759) ?_
   obtain rfl := someI hF
   exact (zF (zA (meet ⟨(), (zK rfl zL), H.pick [0, 1, 2, 3, 4] (by decide)⟩)))
  rintro _ ρ w753 H
  have hF := hK754
  refine zW (b := g752) rfl (fun c761 => ?_) (fun c761 => ?_)
  ·have hF := zO c761 hF
   refine zB ?_
   refine zH (fa54_3 rfl) ?_
   refine zH (zT one3 rfl (Cells.get (Blk.cells (H.item (i := 1) rfl)) (i := 3) rfl)) ?_
   have H762 := H
   obtain ⟨x763, e764, hF⟩ := zD hF
   refine zV rfl rfl (zU en115 rfl) (F_ref6_contrary_w p0.Op _ e764 _ _ _ (H.enter [] [] (by decide) rfl)) ?_
   rintro _ w765 ⟨rfl, G766⟩
   have H := H762.step (G766.only : Only [] _ _)
   refine ⟨_, rfl, ?_⟩
   refine zH (fa54_3 rfl) ?_
   refine yN rfl (xA H 3 rfl sz3 rfl (v := .int .i64 x763) rfl rfl rfl) ?_
   rintro w767 H
   exact (zF (yR (zA (meet ⟨(p0.Kind, x763, p0.N), zL, ⟨H.pick [2, 3, 4] (by decide), hF⟩⟩))))
  have hF := zN c761 hF
  obtain ⟨g774, hF, hK776⟩ := zD hF
  refine yL [70, 71, 72] (fun (g : Unit) => [(70, .bool g774)]) (fun g wl => Hd O w wl S [.fz (.sl rCond v1 p0.Kids), .blk b5 [.int .i64 p0.Kind, .string (bs p0.Name), .string (bs p0.Other), .int .i64 p0.Op, .int .i64 p0.N, .int .i64 p0.Frames, v1] 54, .blk b8 [.int .i64 0, .string (bs []), .string (bs []), .int .i64 0, .int .i64 0, .int .i64 0, .slice none 0 0] 54, .blk b71 [.int .i64 p0.Kind, .string (bs p0.Name), .string (bs p0.Other), .int .i64 p0.Op, .int .i64 p0.N, .int .i64 p0.Frames, v341] 54, .own rCond v341 54 g340]) ?_ ?_
  ·skip
   refine zC fun K777 hK777 => ?_
   refine zB ?_
   obtain ⟨x778, e779, hF⟩ := zG hF
   refine zH (zS (yP (a := p0.Kind) (b := 9) rfl rfl) e779) ?_
   refine zI (.bool x778) ?_
   refine (zF (zA (hK777 _ _ ?_)))
   refine zW (b := x778) rfl (fun c780 => ?_) (fun c780 => ?_)
   ·have hF := zO c780 hF
    obtain rfl := someI hF
    exact (yA (zA (meet ⟨(), (zK rfl zL), H.pick [0, 1, 2, 3, 4] (by decide)⟩)))
   have hF := zN c780 hF
   refine zB ?_
   obtain ⟨x781, e782, hF⟩ := zG hF
   refine zH (zS (yP (a := p0.Kind) (b := 10) rfl rfl) e782) ?_
   refine zI (.bool x781) ?_
   obtain rfl := someI hF
   exact (zF (zA (meet ⟨(), (zK rfl zL), H.pick [0, 1, 2, 3, 4] (by decide)⟩)))
  rintro _ ρ w775 H
  have hF := hK776
  refine zW (b := g774) rfl (fun c783 => ?_) (fun c783 => ?_)
  ·have hF := zO c783 hF
   refine zB ?_
   refine zH (fa54_0 rfl) ?_
   refine zH (zT one3 rfl (Cells.get (Blk.cells (H.item (i := 1) rfl)) (i := 0) rfl)) ?_
   obtain ⟨x784, e785, hF⟩ := zG hF
   refine zH (Do_sub (a := 19) (b := p0.Kind) rfl rfl e785) ?_
   refine zH (fa54_0 rfl) ?_
   refine yN rfl (xA H 3 rfl sz3 rfl (v := .int .i64 x784) rfl rfl rfl) ?_
   rintro w786 H
   exact (zF (yR (zA (meet ⟨(x784, p0.Op, p0.N), zL, ⟨H.pick [2, 3, 4] (by decide), hF⟩⟩))))
  have hF := zN c783 hF
  obtain ⟨g793, hF, hK795⟩ := zD hF
  refine yL [77, 78, 79] (fun (g : Unit) => [(77, .bool g793)]) (fun g wl => Hd O w wl S [.fz (.sl rCond v1 p0.Kids), .blk b5 [.int .i64 p0.Kind, .string (bs p0.Name), .string (bs p0.Other), .int .i64 p0.Op, .int .i64 p0.N, .int .i64 p0.Frames, v1] 54, .blk b8 [.int .i64 0, .string (bs []), .string (bs []), .int .i64 0, .int .i64 0, .int .i64 0, .slice none 0 0] 54, .blk b71 [.int .i64 p0.Kind, .string (bs p0.Name), .string (bs p0.Other), .int .i64 p0.Op, .int .i64 p0.N, .int .i64 p0.Frames, v341] 54, .own rCond v341 54 g340]) ?_ ?_
  ·skip
   refine zC fun K796 hK796 => ?_
   refine zB ?_
   obtain ⟨x797, e798, hF⟩ := zG hF
   refine zH (zS (yP (a := p0.Kind) (b := 11) rfl rfl) e798) ?_
   refine zI (.bool x797) ?_
   refine (zF (zA (hK796 _ _ ?_)))
   refine zW (b := x797) rfl (fun c799 => ?_) (fun c799 => ?_)
   ·have hF := zO c799 hF
    obtain rfl := someI hF
    exact (yA (zA (meet ⟨(), (zK rfl zL), H.pick [0, 1, 2, 3, 4] (by decide)⟩)))
   have hF := zN c799 hF
   refine zB ?_
   obtain ⟨x800, e801, hF⟩ := zG hF
   refine zH (zS (yP (a := p0.Kind) (b := 12) rfl rfl) e801) ?_
   refine zI (.bool x800) ?_
   obtain rfl := someI hF
   exact (zF (zA (meet ⟨(), (zK rfl zL), H.pick [0, 1, 2, 3, 4] (by decide)⟩)))
  rintro _ ρ w794 H
  have hF := hK795
  refine zW (b := g793) rfl (fun c802 => ?_) (fun c802 => ?_)
  ·have hF := zO c802 hF
   refine zB ?_
   refine zH (fa54_0 rfl) ?_
   refine zH (zT one3 rfl (Cells.get (Blk.cells (H.item (i := 1) rfl)) (i := 0) rfl)) ?_
   obtain ⟨x803, e804, hF⟩ := zG hF
   refine zH (Do_sub (a := 23) (b := p0.Kind) rfl rfl e804) ?_
   refine zH (fa54_0 rfl) ?_
   refine yN rfl (xA H 3 rfl sz3 rfl (v := .int .i64 x803) rfl rfl rfl) ?_
   rintro w805 H
   exact (zF (yR (zA (meet ⟨(x803, p0.Op, p0.N), zL, ⟨H.pick [2, 3, 4] (by decide), hF⟩⟩))))
  have hF := zN c802 hF
  refine zC fun K806 hK806 => ?_
  refine zB ?_
  obtain ⟨x807, e808, hF⟩ := zG hF
  refine zH (zS (yP (a := p0.Kind) (b := 13) rfl rfl) e808) ?_
  refine zI (.bool x807) ?_
  refine (zF (zA (hK806 _ _ ?_)))
  refine zW (b := x807) rfl (fun c809 => ?_) (fun c809 => ?_)
  ·have hF := zO c809 hF
   refine zB ?_
   refine zH (fa54_5 rfl) ?_
   refine zH (zT one3 rfl (Cells.get (Blk.cells (H.item (i := 1) rfl)) (i := 5) rfl)) ?_
   obtain ⟨x810, e811, hF⟩ := zG hF
   refine zH (wC (a := p0.Frames) (b := 1) rfl rfl e811) ?_
   refine zH (fa54_4 rfl) ?_
   refine zH (zT one3 rfl (Cells.get (Blk.cells (H.item (i := 1) rfl)) (i := 4) rfl)) ?_
   obtain ⟨x812, e813, hF⟩ := zG hF
   refine zH (Do_sub (a := x810) (b := p0.N) rfl rfl e813) ?_
   refine zH (fa54_4 rfl) ?_
   refine yN rfl (xA H 3 rfl sz3 rfl (v := .int .i64 x812) rfl rfl rfl) ?_
   rintro w814 H
   exact (zF (yR (zA (meet ⟨(p0.Kind, p0.Op, x812), zL, ⟨H.pick [2, 3, 4] (by decide), hF⟩⟩))))
  have hF := zN c809 hF
  refine zC fun K815 hK815 => ?_
  refine zB ?_
  refine zH (yQ (yM (cs := [.int .i64 p0.Kind, .string (bs p0.Name), .string (bs p0.Other), .int .i64 p0.Op, .int .i64 p0.N, .int .i64 p0.Frames, v341]) agg54 rfl sz54 rfl (Blk.cells (H.item (i := 3) rfl))) rfl) ?_
  have H := H.freeze (i := 4) rfl
  obtain ⟨x816, e817, hF⟩ := zG hF
  subst e817
  refine yX rfl rfl (Lx_bs (r := rCond) (xl := [Cond.mk p0.Kind p0.Name p0.Other p0.Op p0.N p0.Frames g340]) (cs := [.int .i64 p0.Kind, .string (bs p0.Name), .string (bs p0.Other), .int .i64 p0.Op, .int .i64 p0.N, .int .i64 p0.Frames, v341]) u52 el54 (by decide) (by decide) rfl (xJ (vs := [.agg [.int .i64 p0.Kind, .string (bs p0.Name), .string (bs p0.Other), .int .i64 p0.Op, .int .i64 p0.N, .int .i64 p0.Frames, v341].toArray]) (by decide) rfl rfl ⟨rfl, trivial⟩ rfl) H ⟨[.int .i64 p0.Kind, .string (bs p0.Name), .string (bs p0.Other), .int .i64 p0.Op, .int .i64 p0.N, .int .i64 p0.Frames, v341], [], rfl, (rCond_mk (x := Cond.mk p0.Kind p0.Name p0.Other p0.Op p0.N p0.Frames g340) (H.item (i := 4) rfl)), rfl⟩) ?_
  rintro v819 w820 H
  obtain ⟨a821, c822, q823⟩ : ∃ a c, v819 = .slice a _ c := Sr.len (Sr.of_own (H.item (i := 5) rfl))
  refine zH (xH (cs := [.int .i64 8, .string (bs []), .string (bs []), .int .i64 0, .int .i64 0, .int .i64 0, v819]) (by rw [q823]; exact bt54_0_6 _ a821 _ c822)) ?_
  refine yN rfl (yH (vs := [.int .i64 8, .string (bs []), .string (bs []), .int .i64 0, .int .i64 0, .int .i64 0, v819]) H 2 rfl sz54 rfl rfl rfl ⟨rfl, rfl, rfl, rfl, rfl, rfl, (own_one (H.item (i := 5) rfl)), trivial⟩ rfl) ?_
  rintro w824 H
  refine (zF (zA (hK815 _ _ ?_)))
  have H := H.freeze (i := 5) rfl
  obtain rfl := someI hF
  refine (zZ (yF (zY (postc  rfl rfl (yC agg54 sz54 rfl (Blk.cells (H.item (i := 2) rfl))) ?_))))
  exact ⟨v819, rfl, H.pick [5] (by decide)⟩
 rintro ⟨g720, g721, g722⟩ ρ w723 ⟨H, hF⟩
 have hF := join_body ek725 hF
 refine zC fun K825 hK825 => ?_
 refine zB ?_
 refine zH (yQ (yM (cs := [.int .i64 g720, .string (bs p0.Name), .string (bs p0.Other), .int .i64 g721, .int .i64 g722, .int .i64 p0.Frames, v341]) agg54 rfl sz54 rfl (Blk.cells (H.item (i := 1) rfl))) rfl) ?_
 refine yN rfl (yH (vs := [.int .i64 g720, .string (bs p0.Name), .string (bs p0.Other), .int .i64 g721, .int .i64 g722, .int .i64 p0.Frames, v341]) H 0 rfl sz54 rfl rfl rfl ⟨rfl, rfl, rfl, rfl, rfl, rfl, (own_one (H.item (i := 2) rfl)), trivial⟩ rfl) ?_
 rintro w826 H
 refine (zF (zA (hK825 _ _ ?_)))
 have H := H.freeze (i := 2) rfl
 obtain rfl := someI hF
 refine (zZ (postc  rfl rfl (yC agg54 sz54 rfl (Blk.cells (H.item (i := 0) rfl))) ?_))
 exact ⟨v341, rfl, H.pick [2] (by decide)⟩
theorem F_ref6_inward_s : S_ref6_inward (F_ref6_inward) := by
 have h : ∀ n, S_ref6_inward (F_ref6_inward_R n) := by
  intro n
  induction n with
  | zero => intro p0 p1 v1 r hF; cases hF
  | succ n ih => intro p0 p1 v1 r hF; exact F_ref6_inward_B_w (F_ref6_inward_R n) ih p0 p1 v1 r hF
 exact h FU
set_option maxHeartbeats 4000000 in
theorem F_ref6_Inward_w (p0 : Cond) (v1 : Value) (r : Cond × Int) (hF : F_ref6_Inward p0 = some r) (O S : List Nat) (w : World) (H : Hd O w w S [.fz (.sl rCond v1 p0.Kids)]) :
  Calls Tryz.prog 20 ([.agg [.int .i64 p0.Kind, .string (bs p0.Name), .string (bs p0.Other), .int .i64 p0.Op, .int .i64 p0.N, .int .i64 p0.Frames, v1].toArray] : List Value).toArray w fun e w' => ∃ u3, e = .returned (.tuple #[.agg [.int .i64 r.1.Kind, .string (bs r.1.Name), .string (bs r.1.Other), .int .i64 r.1.Op, .int .i64 r.1.N, .int .i64 r.1.Frames, u3].toArray, .int .i64 r.2]) ∧ Hd O w w' S [.fz (.sl rCond u3 r.1.Kids)] := by
 unfold F_ref6_Inward at hF
 refine yB 19 Tryz.func20 rfl rfl rfl ?_
 refine zC fun K4 hK4 => ?_
 refine zB ?_
 refine yX rfl rfl (Lx_box (cs := [.int .i64 p0.Kind, .string (bs p0.Name), .string (bs p0.Other), .int .i64 p0.Op, .int .i64 p0.N, .int .i64 p0.Frames, v1]) rfl H) ?_
 rintro _ w7 ⟨b5, rfl, H⟩
 refine yX rfl rfl (xB zero54 H) ?_
 rintro _ w10 ⟨b8, rfl, H⟩
 refine zI (.int .i64 0) ?_
 refine (zF (zA (hK4 _ _ ?_)))
 refine zC fun K23 hK23 => ?_
 refine zC fun K24 hK24 => ?_
 refine zB ?_
 refine zH (yQ (yM (cs := [.int .i64 p0.Kind, .string (bs p0.Name), .string (bs p0.Other), .int .i64 p0.Op, .int .i64 p0.N, .int .i64 p0.Frames, v1]) agg54 rfl sz54 rfl (Blk.cells (H.item (i := 1) rfl))) rfl) ?_
 have H25 := H
 obtain ⟨x26, e27, hF⟩ := zD hF
 refine zV rfl rfl (zU en58 rfl) (F_ref6_CheckCond_w p0 v1 _ e27 _ _ _ (H.enter [] [0] (by decide) rfl)) ?_
 rintro _ w28 ⟨rfl, G29⟩
 have H := H25.step (G29.only : Only [] _ _)
 refine ⟨_, rfl, ?_⟩
 refine zI (.int .i64 x26) ?_
 refine (zF (zA (hK24 _ _ ?_)))
 refine zC fun K30 hK30 => ?_
 refine zB ?_
 refine zM (.int .i64 x26) ?_
 obtain ⟨x31, e32, hF⟩ := zG hF
 refine zH (zS (Do_neq (a := x26) (b := 0) rfl rfl) e32) ?_
 refine (zF (zA (hK30 _ _ ?_)))
 refine zW (b := x31) rfl (fun c33 => ?_) (fun c33 => ?_)
 ·have hF := zO c33 hF
  refine zC fun K34 hK34 => ?_
  refine zB ?_
  refine zH (xH (cs := [.int .i64 0, .string (bs []), .string (bs []), .int .i64 0, .int .i64 0, .int .i64 0, .slice none 0 0]) bz54) ?_
  refine zM (.int .i64 x26) ?_
  refine yN rfl (yH (vs := [.int .i64 0, .string (bs []), .string (bs []), .int .i64 0, .int .i64 0, .int .i64 0, .slice none 0 0]) H 2 rfl sz54 rfl rfl rfl ⟨rfl, rfl, rfl, rfl, rfl, rfl, rfl, trivial⟩ rfl) ?_
  rintro w35 H
  refine zI (.int .i64 x26) ?_
  refine (zF (zA (hK34 _ _ ?_)))
  have H := H.fz (.sl rCond (.slice none 0 0) []) SlF.nil
  obtain rfl := someI hF
  refine (zZ (zY (postc1 (v1 := .int .i64 x26) rfl rfl (yC agg54 sz54 rfl (Blk.cells (H.item (i := 2) rfl))) rfl ?_)))
  exact ⟨.slice none 0 0, rfl, H.pick [3] (by decide)⟩
 have hF := zN c33 hF
 refine (yA (zA (hK23 _ _ ?_)))
 refine zC fun K37 hK37 => ?_
 refine zB ?_
 refine zH (yQ (yM (cs := [.int .i64 p0.Kind, .string (bs p0.Name), .string (bs p0.Other), .int .i64 p0.Op, .int .i64 p0.N, .int .i64 p0.Frames, v1]) agg54 rfl sz54 rfl (Blk.cells (H.item (i := 1) rfl))) rfl) ?_
 obtain ⟨x38, e39, hF⟩ := zD hF
 refine zV rfl rfl (zU en59 rfl) (F_ref6_inward_s p0 false v1 _ e39 _ _ _ (H.enter [] [0] (by decide) rfl)) ?_
 rintro _ w42 ⟨v40, rfl, G43⟩
 have H := H.back1 [0] rfl G43
 refine ⟨_, rfl, ?_⟩
 refine yX rfl rfl (xB zero54 H) ?_
 rintro _ w46 ⟨b44, rfl, H⟩
 refine yN rfl (yH (vs := [.int .i64 x38.Kind, .string (bs x38.Name), .string (bs x38.Other), .int .i64 x38.Op, .int .i64 x38.N, .int .i64 x38.Frames, v40]) H 4 rfl sz54 rfl rfl rfl ⟨rfl, rfl, rfl, rfl, rfl, rfl, (wE (H.item (i := 3) rfl)), trivial⟩ rfl) ?_
 rintro w47 H
 refine (zF (zA (hK37 _ _ ?_)))
 refine zC fun K59 hK59 => ?_
 refine zC fun K60 hK60 => ?_
 refine zB ?_
 refine zH (yQ (yM (cs := [.int .i64 x38.Kind, .string (bs x38.Name), .string (bs x38.Other), .int .i64 x38.Op, .int .i64 x38.N, .int .i64 x38.Frames, v40]) agg54 rfl sz54 rfl (Blk.cells (H.item (i := 4) rfl))) rfl) ?_
 have H61 := H
 obtain ⟨x62, e63, hF⟩ := zD hF
 refine zV rfl rfl (zU en58 rfl) (F_ref6_CheckCond_w x38 v40 _ e63 _ _ _ (H.enter [] [3] (by decide) rfl)) ?_
 rintro _ w64 ⟨rfl, G65⟩
 have H := H61.step (G65.only : Only [] _ _)
 refine ⟨_, rfl, ?_⟩
 obtain ⟨x66, e67, hF⟩ := zG hF
 refine zH (zS (Do_neq (a := x62) (b := 0) rfl rfl) e67) ?_
 refine (zF (zA (hK60 _ _ ?_)))
 refine zW (b := x66) rfl (fun c68 => ?_) (fun c68 => ?_)
 ·have hF := zO c68 hF
  refine zC fun K69 hK69 => ?_
  refine zB ?_
  refine zH (xH (cs := [.int .i64 0, .string (bs []), .string (bs []), .int .i64 0, .int .i64 0, .int .i64 0, .slice none 0 0]) bz54) ?_
  refine yN rfl (yH (vs := [.int .i64 0, .string (bs []), .string (bs []), .int .i64 0, .int .i64 0, .int .i64 0, .slice none 0 0]) H 2 rfl sz54 rfl rfl rfl ⟨rfl, rfl, rfl, rfl, rfl, rfl, rfl, trivial⟩ rfl) ?_
  rintro w70 H
  refine zI (.int .i64 3) ?_
  refine (zF (zA (hK69 _ _ ?_)))
  have H := H.fz (.sl rCond (.slice none 0 0) []) SlF.nil
  obtain rfl := someI hF
  refine (zZ (zY (postc1 (v1 := .int .i64 3) rfl rfl (yC agg54 sz54 rfl (Blk.cells (H.item (i := 2) rfl))) rfl ?_)))
  exact ⟨.slice none 0 0, rfl, H.pick [5] (by decide)⟩
 have hF := zN c68 hF
 refine (yA (zA (hK59 _ _ ?_)))
 refine zC fun K72 hK72 => ?_
 refine zB ?_
 refine zH (yQ (yM (cs := [.int .i64 x38.Kind, .string (bs x38.Name), .string (bs x38.Other), .int .i64 x38.Op, .int .i64 x38.N, .int .i64 x38.Frames, v40]) agg54 rfl sz54 rfl (Blk.cells (H.item (i := 4) rfl))) rfl) ?_
 refine yN rfl (yH (vs := [.int .i64 x38.Kind, .string (bs x38.Name), .string (bs x38.Other), .int .i64 x38.Op, .int .i64 x38.N, .int .i64 x38.Frames, v40]) H 2 rfl sz54 rfl rfl rfl ⟨rfl, rfl, rfl, rfl, rfl, rfl, (wE (H.item (i := 3) rfl)), trivial⟩ rfl) ?_
 rintro w73 H
 refine zI (.int .i64 0) ?_
 refine (zF (zA (hK72 _ _ ?_)))
 obtain rfl := someI hF
 refine (zZ (postc1 (v1 := .int .i64 0) rfl rfl (yC agg54 sz54 rfl (Blk.cells (H.item (i := 2) rfl))) rfl ?_))
 exact ⟨v40, rfl, H.pick [3] (by decide)⟩
set_option maxHeartbeats 4000000 in
theorem F_event_reader_fail_w (p0 : Option EventReader) (p1 : Int) (v1 : Option Addr) (r : Unit) (hF : F_event_reader_fail p0 p1 = some r) (O S : List Nat) (w : World) (H : Hd O w w S [.fz (.pt rEventReader v1 p0)]) :
  Calls Tryz.prog 92 ([.pointer v1, .int .i64 p1] : List Value).toArray w fun e w' => e = .returned (.tuple #[]) ∧ Hd O w w' S [] := by
 unfold F_event_reader_fail at hF
 refine yB 12 Tryz.func92 rfl rfl rfl ?_
 cases hF
set_option maxHeartbeats 4000000 in
theorem F_internal_stringslite_IndexByte_w (p0 : Str) (p1 : Int) (r : Int) (hF : F_internal_stringslite_IndexByte p0 p1 = some r) (O S : List Nat) (w : World) (H : Hd O w w S []) :
  Calls Tryz.prog 202 ([.string (bs p0), .int .u8 p1] : List Value).toArray w fun e w' => e = .returned (.int .i64 r) ∧ Hd O w w' S [] := by
 unfold F_internal_stringslite_IndexByte at hF
 refine yB 8 Tryz.func202 rfl rfl rfl ?_
 refine zC fun K1 hK1 => ?_
 refine zB ?_
 refine zI (.int .i64 0) ?_
 refine (zF (zA (hK1 _ _ ?_)))
 refine zC fun K2 hK2 => ?_
 refine zB ?_
 refine zM (.string (bs p0)) ?_
 refine zM (.int .u8 p1) ?_
 obtain ⟨x3, e4, hF⟩ := zD hF
 refine zH (E.X_IndexByte_do e4 rfl) ?_
 refine zI (.int .i64 x3) ?_
 refine (zF (zA (hK2 _ _ ?_)))
 obtain rfl := someI hF
 refine (zZ (post1 (v1 := .int .i64 x3) rfl rfl ?_))
 exact ⟨rfl, H.pick [] (by decide)⟩
set_option maxHeartbeats 4000000 in
theorem F_strings_IndexByte_w (p0 : Str) (p1 : Int) (r : Int) (hF : F_strings_IndexByte p0 p1 = some r) (O S : List Nat) (w : World) (H : Hd O w w S []) :
  Calls Tryz.prog 174 ([.string (bs p0), .int .u8 p1] : List Value).toArray w fun e w' => e = .returned (.int .i64 r) ∧ Hd O w w' S [] := by
 unfold F_strings_IndexByte at hF
 refine yB 8 Tryz.func174 rfl rfl rfl ?_
 refine zC fun K1 hK1 => ?_
 refine zB ?_
 refine zI (.int .i64 0) ?_
 refine (zF (zA (hK1 _ _ ?_)))
 refine zC fun K2 hK2 => ?_
 refine zB ?_
 refine zM (.string (bs p0)) ?_
 refine zM (.int .u8 p1) ?_
 have H3 := H
 obtain ⟨x4, e5, hF⟩ := zD hF
 refine zV rfl rfl (zU en202 rfl) (F_internal_stringslite_IndexByte_w p0 p1 _ e5 _ _ _ (H.enter [] [] (by decide) rfl)) ?_
 rintro _ w6 ⟨rfl, G7⟩
 have H := H3.step (G7.only : Only [] _ _)
 refine ⟨_, rfl, ?_⟩
 refine zI (.int .i64 x4) ?_
 refine (zF (zA (hK2 _ _ ?_)))
 obtain rfl := someI hF
 refine (zZ (post1 (v1 := .int .i64 x4) rfl rfl ?_))
 exact ⟨rfl, H.pick [] (by decide)⟩
set_option maxHeartbeats 4000000 in
set_option maxRecDepth 100000 in
theorem F_event_reader_blanks_w (p0 : EventReader) (b1 : Nat) (v2 : Value) (v3 : Value) (v4 : Value) (r : EventReader) (hF : F_event_reader_blanks p0 = some r) (O S : List Nat) (w : World) (H : Hd O w w S [.own Rp.str v2 9 p0.r.Phases, .own rMoveT v3 102 p0.r.Moves, .own rRule v4 106 p0.r.Rules, .blk b1 [.string (bs p0.text), .int .i64 p0.at_, .int .i64 p0.now.kind, .int .i64 p0.now.at_, .int .i64 p0.now.n, .string (bs p0.now.text), v2, v3, v4] 88]) :
  Calls Tryz.prog 137 ([.pointer (some ⟨b1, 0, none⟩)] : List Value).toArray w fun e w' => ∃ u9 u10 u11, e = .returned (.tuple #[]) ∧ Hd O w w' S [.own Rp.str u9 9 r.r.Phases, .own rMoveT u10 102 r.r.Moves, .own rRule u11 106 r.r.Rules, .blk b1 [.string (bs r.text), .int .i64 r.at_, .int .i64 r.now.kind, .int .i64 r.now.at_, .int .i64 r.now.n, .string (bs r.now.text), u9, u10, u11] 88] := by
 unfold F_event_reader_blanks at hF
 refine yB 66 Tryz.func137 rfl rfl rfl ?_
 refine yJ ?_
 unfold F_event_reader_blanks_L1 at hF
 obtain ⟨B166, n167, eB168, hF⟩ := yY hF
 refine xK [2, 3, 4, 5, 6, 7, 8, 9, 10, 11, 12, 13, 14, 15, 16, 17, 18, 19, 20, 21, 22, 23, 24, 25, 26, 27, 28, 29, 30, 31, 32, 33, 34, 35, 36, 37, 38, 39, 40, 41, 42, 43, 44, 45, 46, 47, 48, 49, 50, 51, 52, 53, 54, 55, 56, 57, 58, 59, 60, 61, 62, 63, 64, 65] (fun (g : Nat × Int) => []) (fun g wl => Hd O w wl S [.own Rp.str v2 9 p0.r.Phases, .own rMoveT v3 102 p0.r.Moves, .own rRule v4 106 p0.r.Rules, .blk b1 [.string (bs p0.text), .int .i64 g.2, .int .i64 p0.now.kind, .int .i64 p0.now.at_, .int .i64 p0.now.n, .string (bs p0.now.text), v2, v3, v4] 88] ∧ loopN B166 g.1 g.2 = some r) (fun g => g.1) (n167, p0.at_) zL ⟨H.pick [0, 1, 2, 3] (by decide), hF⟩ ?_
 clear H hF
 rintro ⟨n167, g165⟩ ρ w170 ⟨H, hF⟩
 obtain ⟨n171, rfl, hF⟩ := xE hF
 have hF := xC eB168 hF
 refine zC fun K181 hK181 => ?_
 refine zC fun K182 hK182 => ?_
 have H183 := H
 have H := H.rebase
 have H184 := H
 refine WP_mix0 H [0, 1, 2, 3, 4, 5, 6, 7, 8, 9] [.pure, .pure, .pure, .read, .pure, .pure, .pure, .read, .pure, .pure] mixed (by kernel_rfl) (by kernel_rfl) (by kernel_rfl) rfl ?_
 refine Mx.zX rfl rfl rfl (fun w' hw' => xI (v := .pointer (some ⟨b1, 0, none⟩)) rfl) ?_
 refine Mx.zX rfl rfl rfl (fun w' hw' => yG rfl) ?_
 refine Mx.zX rfl rfl rfl (fun w' hw' => fa88_1 rfl) ?_
 refine Mx.xM oS rfl rfl rfl (fun w' hw' => zT one3 rfl (Cells.get (Blk.cells ((H.sees hw').item (i := 3) rfl)) (i := 1) rfl)) ?_
 refine Mx.zX rfl rfl rfl (fun w' hw' => xI (v := .pointer (some ⟨b1, 0, none⟩)) rfl) ?_
 refine Mx.zX rfl rfl rfl (fun w' hw' => yG rfl) ?_
 refine Mx.zX rfl rfl rfl (fun w' hw' => fa88_0 rfl) ?_
 refine Mx.xM oS rfl rfl rfl (fun w' hw' => zT one9 rfl (Cells.get (Blk.cells ((H.sees hw').item (i := 3) rfl)) (i := 0) rfl)) ?_
 obtain ⟨x185, e186, hF⟩ := zG hF
 refine Mx.zX rfl rfl rfl (fun w' hw' => yQ (Do_slen (s1 := p0.text) u9 rfl) (congrArg (Value.int .i64) e186)) ?_
 obtain ⟨x187, e188, hF⟩ := zG hF
 refine Mx.zX rfl rfl rfl (fun w' hw' => zS (xZ (a := g165) (b := x185) rfl rfl) e188) ?_
 refine Mx.XL_nil fun w189 hS => ?_
 have H := H.sees hS
 have H := H183.rejoin H
 refine (zA (hK182 _ _ ?_))
 refine zW (b := x187) rfl (fun c190 => ?_) (fun c190 => ?_)
 ·have hF := zO c190 hF
  refine (yA (zA (hK181 _ _ ?_)))
  refine yJ ?_
  refine zC fun K191 hK191 => ?_
  have H192 := H
  have H := H.rebase
  have H193 := H
  refine WP_mix0 H [0, 1, 2, 3, 4, 5, 6, 7, 8] [.pure, .pure, .pure, .read, .pure, .pure, .pure, .read, .pure] mixed (by kernel_rfl) (by kernel_rfl) (by kernel_rfl) rfl ?_
  refine Mx.zX rfl rfl rfl (fun w' hw' => xI (v := .pointer (some ⟨b1, 0, none⟩)) rfl) ?_
  refine Mx.zX rfl rfl rfl (fun w' hw' => yG rfl) ?_
  refine Mx.zX rfl rfl rfl (fun w' hw' => fa88_0 rfl) ?_
  refine Mx.xM oS rfl rfl rfl (fun w' hw' => zT one9 rfl (Cells.get (Blk.cells ((H.sees hw').item (i := 3) rfl)) (i := 0) rfl)) ?_
  refine Mx.zX rfl rfl rfl (fun w' hw' => xI (v := .pointer (some ⟨b1, 0, none⟩)) rfl) ?_
  refine Mx.zX rfl rfl rfl (fun w' hw' => yG rfl) ?_
  refine Mx.zX rfl rfl rfl (fun w' hw' => fa88_1 rfl) ?_
  refine Mx.xM oS rfl rfl rfl (fun w' hw' => zT one3 rfl (Cells.get (Blk.cells ((H.sees hw').item (i := 3) rfl)) (i := 1) rfl)) ?_
  obtain ⟨x194, e195, hF⟩ := zD hF
  refine Mx.zX rfl rfl rfl (fun w' hw' => Do_sidx (s1 := p0.text) (q := g165) u9 rfl rfl e195) ?_
  refine Mx.XL_nil fun w196 hS => ?_
  have H := H.sees hS
  have H := H192.rejoin H
  refine (zA (hK191 _ _ ?_))
  refine yJ ?_
  obtain ⟨g211, hF, hK213⟩ := zD hF
  refine yL [22, 23, 24, 25, 26] (fun (g : Unit) => [(22, .bool g211)]) (fun g wl => Hd O w wl S [.own Rp.str v2 9 p0.r.Phases, .own rMoveT v3 102 p0.r.Moves, .own rRule v4 106 p0.r.Rules, .blk b1 [.string (bs p0.text), .int .i64 g165, .int .i64 p0.now.kind, .int .i64 p0.now.at_, .int .i64 p0.now.n, .string (bs p0.now.text), v2, v3, v4] 88]) ?_ ?_
  ·skip
   refine zC fun K214 hK214 => ?_
   refine zB ?_
   obtain ⟨x215, e216, hF⟩ := zG hF
   refine zH (zS (yP (a := x194) (b := 32) rfl rfl) e216) ?_
   refine zI (.bool x215) ?_
   refine (zF (zA (hK214 _ _ ?_)))
   refine zW (b := x215) rfl (fun c217 => ?_) (fun c217 => ?_)
   ·have hF := zO c217 hF
    obtain rfl := someI hF
    exact (yA (zA (meet ⟨(), (zK rfl zL), H.pick [0, 1, 2, 3] (by decide)⟩)))
   have hF := zN c217 hF
   refine zC fun K218 hK218 => ?_
   refine zB ?_
   obtain ⟨x219, e220, hF⟩ := zG hF
   refine zH (zS (yP (a := x194) (b := 9) rfl rfl) e220) ?_
   refine zI (.bool x219) ?_
   refine (zF (zA (hK218 _ _ ?_)))
   refine zW (b := x219) rfl (fun c221 => ?_) (fun c221 => ?_)
   ·have hF := zO c221 hF
    obtain rfl := someI hF
    exact (yA (zA (meet ⟨(), (zK rfl zL), H.pick [0, 1, 2, 3] (by decide)⟩)))
   have hF := zN c221 hF
   refine zC fun K222 hK222 => ?_
   refine zB ?_
   obtain ⟨x223, e224, hF⟩ := zG hF
   refine zH (zS (yP (a := x194) (b := 10) rfl rfl) e224) ?_
   refine zI (.bool x223) ?_
   refine (zF (zA (hK222 _ _ ?_)))
   refine zW (b := x223) rfl (fun c225 => ?_) (fun c225 => ?_)
   ·have hF := zO c225 hF
    obtain rfl := someI hF
    exact (yA (zA (meet ⟨(), (zK rfl zL), H.pick [0, 1, 2, 3] (by decide)⟩)))
   have hF := zN c225 hF
   refine zB ?_
   obtain ⟨x226, e227, hF⟩ := zG hF
   refine zH (zS (yP (a := x194) (b := 13) rfl rfl) e227) ?_
   refine zI (.bool x226) ?_
   obtain rfl := someI hF
   exact (zF (zA (meet ⟨(), (zK rfl zL), H.pick [0, 1, 2, 3] (by decide)⟩)))
  rintro _ ρ w212 H
  have hF := hK213
  refine zW (b := g211) rfl (fun c228 => ?_) (fun c228 => ?_)
  ·have hF := zO c228 hF
   refine zB ?_
   refine zM (.pointer (some ⟨b1, 0, none⟩)) ?_
   refine zH (yG rfl) ?_
   refine zH (fa88_1 rfl) ?_
   refine zH (zT one3 rfl (Cells.get (Blk.cells (H.item (i := 3) rfl)) (i := 1) rfl)) ?_
   obtain ⟨x229, e230, hF⟩ := zG hF
   refine zH (wC (a := g165) (b := 1) rfl rfl e230) ?_
   refine zH (yG rfl) ?_
   refine zH (fa88_1 rfl) ?_
   refine yN rfl (xA H 3 rfl sz3 rfl (v := .int .i64 x229) rfl rfl rfl) ?_
   rintro w231 H
   exact (zF (yR (yR (zA (meet ⟨(n171, x229), zL, ⟨H.pick [0, 1, 2, 3] (by decide), hF⟩, Nat.lt_succ_self _⟩)))))
  have hF := zN c228 hF
  refine zC fun K232 hK232 => ?_
  refine zB ?_
  obtain ⟨x233, e234, hF⟩ := zG hF
  refine zH (zS (yP (a := x194) (b := 35) rfl rfl) e234) ?_
  refine zI (.bool x233) ?_
  refine (zF (zA (hK232 _ _ ?_)))
  refine zW (b := x233) rfl (fun c235 => ?_) (fun c235 => ?_)
  ·have hF := zO c235 hF
   refine zC fun K236 hK236 => ?_
   have H237 := H
   have H := H.rebase
   have H238 := H
   refine WP_mix0 H [0, 1, 2, 3, 4, 5, 6, 7, 8, 9, 10] [.pure, .pure, .pure, .read, .pure, .pure, .pure, .read, .pure, .fcall, .pure] mixed (by kernel_rfl) (by kernel_rfl) (by kernel_rfl) rfl ?_
   refine Mx.zX rfl rfl rfl (fun w' hw' => xI (v := .pointer (some ⟨b1, 0, none⟩)) rfl) ?_
   refine Mx.zX rfl rfl rfl (fun w' hw' => yG rfl) ?_
   refine Mx.zX rfl rfl rfl (fun w' hw' => fa88_0 rfl) ?_
   refine Mx.xM oS rfl rfl rfl (fun w' hw' => zT one9 rfl (Cells.get (Blk.cells ((H.sees hw').item (i := 3) rfl)) (i := 0) rfl)) ?_
   refine Mx.zX rfl rfl rfl (fun w' hw' => xI (v := .pointer (some ⟨b1, 0, none⟩)) rfl) ?_
   refine Mx.zX rfl rfl rfl (fun w' hw' => yG rfl) ?_
   refine Mx.zX rfl rfl rfl (fun w' hw' => fa88_1 rfl) ?_
   refine Mx.xM oS rfl rfl rfl (fun w' hw' => zT one3 rfl (Cells.get (Blk.cells ((H.sees hw').item (i := 3) rfl)) (i := 1) rfl)) ?_
   obtain ⟨x239, e240, hF⟩ := zD hF
   refine Mx.zX rfl rfl rfl (fun w' hw' => Do_cut_l (s1 := p0.text) u9 rfl rfl e240) ?_
   have H241 := H
   obtain ⟨x242, e243, hF⟩ := zD hF
   refine Mx.XL_fcall oS rfl rfl rfl (v := .int .i64 x242) (fun w' hw' => zU en174 rfl) (fun w' hw' => call_read (F_strings_IndexByte_w x239 10 _ e243 _ _ _ (Hd.fresh0 w'))) ?_
   have H := H241
   refine Mx.zX rfl rfl rfl (fun w' hw' => xU (v := .int .i64 x242) rfl) ?_
   refine Mx.XL_nil fun w244 hS => ?_
   have H := H.sees hS
   have H := H237.rejoin H
   refine (zA (hK236 _ _ ?_))
   obtain ⟨g256, hF, hK258⟩ := zD hF
   refine yL [2, 46, 47, 48, 49, 50, 51, 52, 53, 54, 55, 56, 57] (fun (g : Unit) => [(2, .int .i64 g256)]) (fun g wl => Hd O w wl S [.own Rp.str v2 9 p0.r.Phases, .own rMoveT v3 102 p0.r.Moves, .own rRule v4 106 p0.r.Rules, .blk b1 [.string (bs p0.text), .int .i64 g165, .int .i64 p0.now.kind, .int .i64 p0.now.at_, .int .i64 p0.now.n, .string (bs p0.now.text), v2, v3, v4] 88]) ?_ ?_
   ·skip
    refine zC fun K259 hK259 => ?_
    refine zB ?_
    refine zM (.int .i64 x242) ?_
    obtain ⟨x260, e261, hF⟩ := zG hF
    refine zH (zS (xZ (a := x242) (b := 0) rfl rfl) e261) ?_
    refine (zF (zA (hK259 _ _ ?_)))
    refine zW (b := x260) rfl (fun c262 => ?_) (fun c262 => ?_)
    ·have hF := zO c262 hF
     have H263 := H
     have H := H.rebase
     have H264 := H
     refine WP_mix0 H [0, 1, 2, 3, 4, 5, 6, 7, 8, 9, 10] [.pure, .pure, .pure, .read, .pure, .pure, .pure, .pure, .read, .pure, .pure] mixed (by kernel_rfl) (by kernel_rfl) (by kernel_rfl) rfl ?_
     refine Mx.zX rfl rfl rfl (fun w' hw' => xI (v := .pointer (some ⟨b1, 0, none⟩)) rfl) ?_
     refine Mx.zX rfl rfl rfl (fun w' hw' => yG rfl) ?_
     refine Mx.zX rfl rfl rfl (fun w' hw' => fa88_0 rfl) ?_
     refine Mx.xM oS rfl rfl rfl (fun w' hw' => zT one9 rfl (Cells.get (Blk.cells ((H.sees hw').item (i := 3) rfl)) (i := 0) rfl)) ?_
     obtain ⟨x265, e266, hF⟩ := zG hF
     refine Mx.zX rfl rfl rfl (fun w' hw' => yQ (Do_slen (s1 := p0.text) u9 rfl) (congrArg (Value.int .i64) e266)) ?_
     refine Mx.zX rfl rfl rfl (fun w' hw' => xI (v := .pointer (some ⟨b1, 0, none⟩)) rfl) ?_
     refine Mx.zX rfl rfl rfl (fun w' hw' => yG rfl) ?_
     refine Mx.zX rfl rfl rfl (fun w' hw' => fa88_1 rfl) ?_
     refine Mx.xM oS rfl rfl rfl (fun w' hw' => zT one3 rfl (Cells.get (Blk.cells ((H.sees hw').item (i := 3) rfl)) (i := 1) rfl)) ?_
     obtain ⟨x267, e268, hF⟩ := zG hF
     refine Mx.zX rfl rfl rfl (fun w' hw' => Do_sub (a := x265) (b := g165) rfl rfl e268) ?_
     refine Mx.zX rfl rfl rfl (fun w' hw' => xU (v := .int .i64 x267) rfl) ?_
     refine Mx.XL_nil fun w269 hS => ?_
     have H := H.sees hS
     have H := H263.rejoin H
     obtain rfl := someI hF
     exact (zA (meet ⟨(), (zK rfl zL), H.pick [0, 1, 2, 3] (by decide)⟩))
    have hF := zN c262 hF
    obtain rfl := someI hF
    exact (yA (zA (meet ⟨(), (zK rfl zL), H.pick [0, 1, 2, 3] (by decide)⟩)))
   rintro _ ρ w257 H
   have hF := hK258
   refine zB ?_
   refine zM (.pointer (some ⟨b1, 0, none⟩)) ?_
   refine zH (yG rfl) ?_
   refine zH (fa88_1 rfl) ?_
   refine zH (zT one3 rfl (Cells.get (Blk.cells (H.item (i := 3) rfl)) (i := 1) rfl)) ?_
   refine zM (.int .i64 g256) ?_
   obtain ⟨x270, e271, hF⟩ := zG hF
   refine zH (wC (a := g165) (b := g256) rfl rfl e271) ?_
   refine zH (yG rfl) ?_
   refine zH (fa88_1 rfl) ?_
   refine yN rfl (xA H 3 rfl sz3 rfl (v := .int .i64 x270) rfl rfl rfl) ?_
   rintro w272 H
   exact (zF (yR (yR (zA (meet ⟨(n171, x270), zL, ⟨H.pick [0, 1, 2, 3] (by decide), hF⟩, Nat.lt_succ_self _⟩)))))
  have hF := zN c235 hF
  obtain rfl := someI hF
  refine (zZ (yF (yF (zY (yF (post0 rfl ?_))))))
  exact ⟨v2, v3, v4, rfl, H.pick [0, 1, 2, 3] (by decide)⟩
 have hF := zN c190 hF
 obtain rfl := someI hF
 refine (xW (yT (yT (xG (post0n rfl ?_)))))
 exact ⟨v2, v3, v4, rfl, H.pick [0, 1, 2, 3] (by decide)⟩
set_option maxHeartbeats 4000000 in
theorem F_internal_stringslite_HasPrefix_w (p0 : Str) (p1 : Str) (r : Bool) (hF : F_internal_stringslite_HasPrefix p0 p1 = some r) (O S : List Nat) (w : World) (H : Hd O w w S []) :
  Calls Tryz.prog 177 ([.string (bs p0), .string (bs p1)] : List Value).toArray w fun e w' => e = .returned (.bool r) ∧ Hd O w w' S [] := by
 unfold F_internal_stringslite_HasPrefix at hF
 refine yB 18 Tryz.func177 rfl rfl rfl ?_
 refine zC fun K1 hK1 => ?_
 refine zB ?_
 refine zI (.bool false) ?_
 refine (zF (zA (hK1 _ _ ?_)))
 obtain ⟨g15, hF, hK17⟩ := zD hF
 refine yL [4, 5, 6, 7, 8, 9, 10, 11, 12, 13, 14, 15, 16, 17] (fun (g : Unit) => [(4, .bool g15)]) (fun g wl => Hd O w wl S []) ?_ ?_
 ·skip
  refine zB ?_
  refine zM (.string (bs p0)) ?_
  obtain ⟨x18, e19, hF⟩ := zG hF
  refine zH (yQ (Do_slen (s1 := p0) u9 rfl) (congrArg (Value.int .i64) e19)) ?_
  refine zM (.string (bs p1)) ?_
  obtain ⟨x20, e21, hF⟩ := zG hF
  refine zH (yQ (Do_slen (s1 := p1) u9 rfl) (congrArg (Value.int .i64) e21)) ?_
  obtain ⟨x22, e23, hF⟩ := zG hF
  refine zH (zS (Do_geq (a := x18) (b := x20) rfl rfl) e23) ?_
  refine yK (b := x22) rfl rfl rfl (fun c24 => ?_) (fun c24 => ?_)
  ·have hF := zO c24 hF
   refine zM (.string (bs p0)) ?_
   refine zM (.string (bs p1)) ?_
   obtain ⟨x25, e26, hF⟩ := zG hF
   refine zH (yQ (Do_slen (s1 := p1) u9 rfl) (congrArg (Value.int .i64) e26)) ?_
   obtain ⟨x27, e28, hF⟩ := zD hF
   refine zH (Do_cut_h (s1 := p0) u9 rfl rfl e28) ?_
   refine zM (.string (bs p1)) ?_
   obtain ⟨x29, e30, hF⟩ := zG hF
   refine zH (zS (xR (s1 := x27) (s2 := p1) rfl rfl) e30) ?_
   refine zH (yI (v := .bool x29) rfl rfl) ?_
   refine zI (.bool x29) ?_
   obtain rfl := someI hF
   exact (zF (zA (meet ⟨(), (zK rfl zL), H.pick [] (by decide)⟩)))
  have hF := zN c24 hF
  refine yD ?_
  refine yD ?_
  refine yD ?_
  refine yD ?_
  refine yD ?_
  refine yD ?_
  refine zH (yE (v := .bool false) rfl rfl) ?_
  refine zI (.bool false) ?_
  obtain rfl := someI hF
  exact (zF (zA (meet ⟨(), (zK rfl zL), H.pick [] (by decide)⟩)))
 rintro _ ρ w16 H
 have hF := hK17
 obtain rfl := someI hF
 refine (zZ (post1 (v1 := .bool g15) rfl rfl ?_))
 exact ⟨rfl, H.pick [] (by decide)⟩
set_option maxHeartbeats 4000000 in
theorem F_internal_stringslite_TrimPrefix_w (p0 : Str) (p1 : Str) (r : Str) (hF : F_internal_stringslite_TrimPrefix p0 p1 = some r) (O S : List Nat) (w : World) (H : Hd O w w S []) :
  Calls Tryz.prog 205 ([.string (bs p0), .string (bs p1)] : List Value).toArray w fun e w' => e = .returned (.string (bs r)) ∧ Hd O w w' S [] := by
 unfold F_internal_stringslite_TrimPrefix at hF
 refine yB 13 Tryz.func205 rfl rfl rfl ?_
 refine zC fun K1 hK1 => ?_
 refine zB ?_
 refine zI (.string (bs [])) ?_
 refine (zF (zA (hK1 _ _ ?_)))
 refine zC fun K14 hK14 => ?_
 refine zC fun K15 hK15 => ?_
 refine zB ?_
 refine zM (.string (bs p0)) ?_
 refine zM (.string (bs p1)) ?_
 have H16 := H
 obtain ⟨x17, e18, hF⟩ := zD hF
 refine zV rfl rfl (zU en177 rfl) (F_internal_stringslite_HasPrefix_w p0 p1 _ e18 _ _ _ (H.enter [] [] (by decide) rfl)) ?_
 rintro _ w19 ⟨rfl, G20⟩
 have H := H16.step (G20.only : Only [] _ _)
 refine ⟨_, rfl, ?_⟩
 refine (zF (zA (hK15 _ _ ?_)))
 refine zW (b := x17) rfl (fun c21 => ?_) (fun c21 => ?_)
 ·have hF := zO c21 hF
  refine zC fun K22 hK22 => ?_
  refine zB ?_
  refine zM (.string (bs p0)) ?_
  refine zM (.string (bs p1)) ?_
  obtain ⟨x23, e24, hF⟩ := zG hF
  refine zH (yQ (Do_slen (s1 := p1) u9 rfl) (congrArg (Value.int .i64) e24)) ?_
  obtain ⟨x25, e26, hF⟩ := zD hF
  refine zH (Do_cut_l (s1 := p0) u9 rfl rfl e26) ?_
  refine zI (.string (bs x25)) ?_
  refine (zF (zA (hK22 _ _ ?_)))
  obtain rfl := someI hF
  refine (zZ (zY (post1 (v1 := .string (bs x25)) rfl rfl ?_)))
  exact ⟨rfl, H.pick [] (by decide)⟩
 have hF := zN c21 hF
 refine (yA (zA (hK14 _ _ ?_)))
 refine zC fun K27 hK27 => ?_
 refine zB ?_
 refine zM (.string (bs p0)) ?_
 refine zI (.string (bs p0)) ?_
 refine (zF (zA (hK27 _ _ ?_)))
 obtain rfl := someI hF
 refine (zZ (post1 (v1 := .string (bs p0)) rfl rfl ?_))
 exact ⟨rfl, H.pick [] (by decide)⟩
set_option maxHeartbeats 4000000 in
theorem F_strings_TrimPrefix_w (p0 : Str) (p1 : Str) (r : Str) (hF : F_strings_TrimPrefix p0 p1 = some r) (O S : List Nat) (w : World) (H : Hd O w w S []) :
  Calls Tryz.prog 176 ([.string (bs p0), .string (bs p1)] : List Value).toArray w fun e w' => e = .returned (.string (bs r)) ∧ Hd O w w' S [] := by
 unfold F_strings_TrimPrefix at hF
 refine yB 8 Tryz.func176 rfl rfl rfl ?_
 refine zC fun K1 hK1 => ?_
 refine zB ?_
 refine zI (.string (bs [])) ?_
 refine (zF (zA (hK1 _ _ ?_)))
 refine zC fun K2 hK2 => ?_
 refine zB ?_
 refine zM (.string (bs p0)) ?_
 refine zM (.string (bs p1)) ?_
 have H3 := H
 obtain ⟨x4, e5, hF⟩ := zD hF
 refine zV rfl rfl (zU en205 rfl) (F_internal_stringslite_TrimPrefix_w p0 p1 _ e5 _ _ _ (H.enter [] [] (by decide) rfl)) ?_
 rintro _ w6 ⟨rfl, G7⟩
 have H := H3.step (G7.only : Only [] _ _)
 refine ⟨_, rfl, ?_⟩
 refine zI (.string (bs x4)) ?_
 refine (zF (zA (hK2 _ _ ?_)))
 obtain rfl := someI hF
 refine (zZ (post1 (v1 := .string (bs x4)) rfl rfl ?_))
 exact ⟨rfl, H.pick [] (by decide)⟩
set_option maxHeartbeats 4000000 in
set_option maxRecDepth 100000 in
theorem F_event_reader_run_w (p0 : EventReader) (b1 : Nat) (v2 : Value) (v3 : Value) (v4 : Value) (r : EventReader) (hF : F_event_reader_run p0 = some r) (O S : List Nat) (w : World) (H : Hd O w w S [.own Rp.str v2 9 p0.r.Phases, .own rMoveT v3 102 p0.r.Moves, .own rRule v4 106 p0.r.Rules, .blk b1 [.string (bs p0.text), .int .i64 p0.at_, .int .i64 p0.now.kind, .int .i64 p0.now.at_, .int .i64 p0.now.n, .string (bs p0.now.text), v2, v3, v4] 88, .fz (.gi 4)]) :
  Calls Tryz.prog 138 ([.pointer (some ⟨b1, 0, none⟩)] : List Value).toArray w fun e w' => ∃ u10 u11 u12, e = .returned (.tuple #[]) ∧ Hd O w w' S [.own Rp.str u10 9 r.r.Phases, .own rMoveT u11 102 r.r.Moves, .own rRule u12 106 r.r.Rules, .blk b1 [.string (bs r.text), .int .i64 r.at_, .int .i64 r.now.kind, .int .i64 r.now.at_, .int .i64 r.now.n, .string (bs r.now.text), u10, u11, u12] 88] := by
 unfold F_event_reader_run at hF
 refine yB 55 Tryz.func138 rfl rfl rfl ?_
 refine zC fun K13 hK13 => ?_
 refine zB ?_
 refine zM (.pointer (some ⟨b1, 0, none⟩)) ?_
 refine zH (yG rfl) ?_
 refine zH (fa88_2 rfl) ?_
 refine zH (fa86_3 rfl) ?_
 refine zH (zT one9 rfl (Cells.get (Blk.cells (H.item (i := 3) rfl)) (i := 5) rfl)) ?_
 refine zI (.string (bs p0.now.text)) ?_
 refine (zF (zA (hK13 _ _ ?_)))
 refine zC fun K14 hK14 => ?_
 refine zB ?_
 refine zM (.string (bs p0.now.text)) ?_
 obtain ⟨⟨x15, x16⟩, e17, hF⟩ := zD hF
 refine zV rfl rfl (zU en175 rfl) (E.X_Atoi_w p0.now.text _ e17 _ _ _ (H.enter [] [4] (by decide) rfl)) ?_
 rintro _ w20 ⟨v18, rfl, G21⟩
 have H := H.back1 [4] rfl G21
 refine ⟨_, rfl, ?_⟩
 refine zM (.tuple #[.int .i64 x15, v18]) ?_
 refine zH (wB (v := .int .i64 x15) rfl rfl) ?_
 refine zH (wB (v := v18) rfl rfl) ?_
 refine zI (.int .i64 x15) ?_
 refine zI v18 ?_
 refine (zF (zA (hK14 _ _ ?_)))
 refine yJ ?_
 refine zC fun K22 hK22 => ?_
 refine zB ?_
 refine zM (.string (bs p0.now.text)) ?_
 have H23 := H
 obtain ⟨x24, e25, hF⟩ := zD hF
 refine zV rfl rfl (zU en119 rfl) (F_event_isWord_w p0.now.text _ e25 _ _ _ (H.enter [] [] (by decide) rfl)) ?_
 rintro _ w26 ⟨rfl, G27⟩
 have H := H23.step (G27.only : Only [] _ _)
 refine ⟨_, rfl, ?_⟩
 refine zI (.bool x24) ?_
 refine (zF (zA (hK22 _ _ ?_)))
 refine zW (b := x24) rfl (fun c28 => ?_) (fun c28 => ?_)
 ·have hF := zO c28 hF
  refine zB ?_
  refine zM (.pointer (some ⟨b1, 0, none⟩)) ?_
  refine zH (yG rfl) ?_
  refine zH (fa88_2 rfl) ?_
  refine zH (fa86_0 rfl) ?_
  refine yN rfl (xA H 3 rfl sz3 rfl (v := .int .i64 1) rfl rfl rfl) ?_
  rintro w29 H
  obtain rfl := someI hF
  refine (zF (yR (post0n rfl ?_)))
  exact ⟨v2, v3, v4, rfl, H.pick [0, 1, 2, 3] (by decide)⟩
 have hF := zN c28 hF
 refine zC fun K30 hK30 => ?_
 refine zB ?_
 refine zM (.string (bs p0.now.text)) ?_
 have H31 := H
 obtain ⟨x32, e33, hF⟩ := zD hF
 refine zV rfl rfl (zU en68 rfl) (F_event_isName_w p0.now.text _ e33 _ _ _ (H.enter [] [] (by decide) rfl)) ?_
 rintro _ w34 ⟨rfl, G35⟩
 have H := H31.step (G35.only : Only [] _ _)
 refine ⟨_, rfl, ?_⟩
 refine zI (.bool x32) ?_
 refine (zF (zA (hK30 _ _ ?_)))
 refine zW (b := x32) rfl (fun c36 => ?_) (fun c36 => ?_)
 ·have hF := zO c36 hF
  refine zB ?_
  refine zM (.pointer (some ⟨b1, 0, none⟩)) ?_
  refine zH (yG rfl) ?_
  refine zH (fa88_2 rfl) ?_
  refine zH (fa86_0 rfl) ?_
  refine yN rfl (xA H 3 rfl sz3 rfl (v := .int .i64 2) rfl rfl rfl) ?_
  rintro w37 H
  obtain rfl := someI hF
  refine (zF (yR (post0n rfl ?_)))
  exact ⟨v2, v3, v4, rfl, H.pick [0, 1, 2, 3] (by decide)⟩
 have hF := zN c36 hF
 obtain ⟨g61, hF, hK63⟩ := zD hF
 refine yL [31, 32, 33, 34, 35, 36, 37, 38, 39, 40, 41, 42, 43, 44, 45] (fun (g : Unit) => [(31, .bool g61)]) (fun g wl => Hd O w wl S [.own Rp.str v2 9 p0.r.Phases, .own rMoveT v3 102 p0.r.Moves, .own rRule v4 106 p0.r.Rules, .blk b1 [.string (bs p0.text), .int .i64 p0.at_, .int .i64 p0.now.kind, .int .i64 p0.now.at_, .int .i64 p0.now.n, .string (bs p0.now.text), v2, v3, v4] 88, .fz (.gi 4)]) ?_ ?_
 ·skip
  refine zB ?_
  refine zM v18 ?_
  obtain ⟨x64, e65, hF⟩ := zG hF
  refine zH (zS (Do_eqlif ui113 (H.item (i := 5) rfl) rfl) e65) ?_
  obtain ⟨j66, hF, hK67⟩ := zD hF
  refine RL_cutS 6 [34, 35, 36, 37, 38, 39] [(39, .bool j66)] (fun wl => Hd O w wl S [.own Rp.str v2 9 p0.r.Phases, .own rMoveT v3 102 p0.r.Moves, .own rRule v4 106 p0.r.Rules, .blk b1 [.string (bs p0.text), .int .i64 p0.at_, .int .i64 p0.now.kind, .int .i64 p0.now.at_, .int .i64 p0.now.n, .string (bs p0.now.text), v2, v3, v4] 88, .fz (.gi 4), .fz (.ic v18 x16)]) ?_ ?_
  ·skip
   refine yK (b := x64) rfl rfl rfl (fun c69 => ?_) (fun c69 => ?_)
   ·have hF := zO c69 hF
    refine zM (.int .i64 x15) ?_
    have H70 := H
    obtain ⟨x71, e72, hF⟩ := zD hF
    refine zV rfl rfl (zU en102 rfl) (E.X_Itoa_w x15 _ e72 _ _ _ (H.enter [] [] (by decide) rfl)) ?_
    rintro _ w73 ⟨rfl, G74⟩
    have H := H70.step (G74.only : Only [] _ _)
    refine ⟨_, rfl, ?_⟩
    refine zM (.string (bs p0.now.text)) ?_
    obtain ⟨x75, e76, hF⟩ := zG hF
    refine zH (zS (xR (s1 := x71) (s2 := p0.now.text) rfl rfl) e76) ?_
    refine zH (yI (v := .bool x75) rfl rfl) ?_
    obtain rfl := someI hF
    exact zF (zA (meet ⟨(zK rfl zL), H.pick [0, 1, 2, 3, 4, 5] (by decide)⟩))
   have hF := zN c69 hF
   refine yD ?_
   refine yD ?_
   refine yD ?_
   refine yD ?_
   refine zH (yE (v := .bool false) rfl rfl) ?_
   obtain rfl := someI hF
   exact zF (zA (meet ⟨(zK rfl zL), H.pick [0, 1, 2, 3, 4, 5] (by decide)⟩))
  rintro ρ w68 H
  have hF := hK67
  refine yK (b := j66) rfl rfl rfl (fun c77 => ?_) (fun c77 => ?_)
  ·have hF := zO c77 hF
   refine zM (.string (bs p0.now.text)) ?_
   have H78 := H
   obtain ⟨x79, e80, hF⟩ := zD hF
   refine zV rfl rfl (zU en176 rfl) (F_strings_TrimPrefix_w p0.now.text [45] _ e80 _ _ _ (H.enter [] [] (by decide) rfl)) ?_
   rintro _ w81 ⟨rfl, G82⟩
   have H := H78.step (G82.only : Only [] _ _)
   refine ⟨_, rfl, ?_⟩
   obtain ⟨x83, e84, hF⟩ := zG hF
   refine zH (yQ (Do_slen (s1 := x79) u9 rfl) (congrArg (Value.int .i64) e84)) ?_
   obtain ⟨x85, e86, hF⟩ := zG hF
   refine zH (zS (Do_leq (a := x83) (b := 16) rfl rfl) e86) ?_
   refine zH (yI (v := .bool x85) rfl rfl) ?_
   refine zI (.bool x85) ?_
   obtain rfl := someI hF
   exact (zF (zA (meet ⟨(), (zK rfl zL), H.pick [0, 1, 2, 3, 4] (by decide)⟩)))
  have hF := zN c77 hF
  refine yD ?_
  refine yD ?_
  refine yD ?_
  refine yD ?_
  refine zH (yE (v := .bool false) rfl rfl) ?_
  refine zI (.bool false) ?_
  obtain rfl := someI hF
  exact (zF (zA (meet ⟨(), (zK rfl zL), H.pick [0, 1, 2, 3, 4] (by decide)⟩)))
 rintro _ ρ w62 H
 have hF := hK63
 refine zW (b := g61) rfl (fun c87 => ?_) (fun c87 => ?_)
 ·have hF := zO c87 hF
  refine zB ?_
  refine zM (.pointer (some ⟨b1, 0, none⟩)) ?_
  refine zM (.pointer (some ⟨b1, 0, none⟩)) ?_
  refine zM (.int .i64 x15) ?_
  refine zH (yG rfl) ?_
  refine zH (fa88_2 rfl) ?_
  refine zH (fa86_0 rfl) ?_
  refine yN rfl (xA H 3 rfl sz3 rfl (v := .int .i64 3) rfl rfl rfl) ?_
  rintro w88 H
  refine zH (yG rfl) ?_
  refine zH (fa88_2 rfl) ?_
  refine zH (fa86_2 rfl) ?_
  refine yN rfl (xA H 3 rfl sz3 rfl (v := .int .i64 x15) rfl rfl rfl) ?_
  rintro w89 H
  obtain rfl := someI hF
  refine (zF (yR (post0n rfl ?_)))
  exact ⟨v2, v3, v4, rfl, H.pick [0, 1, 2, 3] (by decide)⟩
 have hF := zN c87 hF
 refine zB ?_
 refine zM (.pointer (some ⟨b1, 0, none⟩)) ?_
 have H90 := H
 have H := H.freezeB (i := 3) rfl
 have H := H.freeze (i := 0) rfl
 have H := H.freeze (i := 1) rfl
 have H := H.freeze (i := 2) rfl
 have H := H.fz (.pt rEventReader (some ⟨b1, 0, none⟩) (some p0)) ⟨_, _, _, rfl, (H.item (i := 3) rfl).1, (H.item (i := 3) rfl).2.1, (xN (x := p0) (H.item (i := 0) rfl) (H.item (i := 1) rfl) (H.item (i := 2) rfl)), (H.item (i := 3) rfl).2.2⟩
 obtain ⟨_, e92, hF⟩ := zD hF
 refine zV rfl rfl (zU en92 rfl) (F_event_reader_fail_w (some p0) 6 (some ⟨b1, 0, none⟩) _ e92 _ _ _ (H.enter [] [5] (by decide) rfl)) ?_
 rintro _ w93 ⟨rfl, G94⟩
 have H := H90.step (G94.only : Only [] _ _)
 refine ⟨_, rfl, ?_⟩
 obtain rfl := someI hF
 refine (zF (yR (post0n rfl ?_)))
 exact ⟨v2, v3, v4, rfl, H.pick [0, 1, 2, 3] (by decide)⟩
set_option maxHeartbeats 4000000 in
theorem F_strings_HasPrefix_w (p0 : Str) (p1 : Str) (r : Bool) (hF : F_strings_HasPrefix p0 p1 = some r) (O S : List Nat) (w : World) (H : Hd O w w S []) :
  Calls Tryz.prog 139 ([.string (bs p0), .string (bs p1)] : List Value).toArray w fun e w' => e = .returned (.bool r) ∧ Hd O w w' S [] := by
 unfold F_strings_HasPrefix at hF
 refine yB 8 Tryz.func139 rfl rfl rfl ?_
 refine zC fun K1 hK1 => ?_
 refine zB ?_
 refine zI (.bool false) ?_
 refine (zF (zA (hK1 _ _ ?_)))
 refine zC fun K2 hK2 => ?_
 refine zB ?_
 refine zM (.string (bs p0)) ?_
 refine zM (.string (bs p1)) ?_
 have H3 := H
 obtain ⟨x4, e5, hF⟩ := zD hF
 refine zV rfl rfl (zU en177 rfl) (F_internal_stringslite_HasPrefix_w p0 p1 _ e5 _ _ _ (H.enter [] [] (by decide) rfl)) ?_
 rintro _ w6 ⟨rfl, G7⟩
 have H := H3.step (G7.only : Only [] _ _)
 refine ⟨_, rfl, ?_⟩
 refine zI (.bool x4) ?_
 refine (zF (zA (hK2 _ _ ?_)))
 obtain rfl := someI hF
 refine (zZ (post1 (v1 := .bool x4) rfl rfl ?_))
 exact ⟨rfl, H.pick [] (by decide)⟩
end Go.Proofs.YtnajnkghilemhaaGreatDoor.L
