/- Walks: what each function computes, for every argument; no condition but those that stand in the statements. -/
import Derived.Test.YtnajnkghilemhaaGreatDoorSV0
import Derived.Test.YtnajnkghilemhaaGreatDoorSV3
import Derived.Test.YtnajnkghilemhaaGreatDoorSV5
namespace Go.Proofs.YtnajnkghilemhaaGreatDoor.L
open Go.RowKit Go.OB Go.Lf
set_option maxHeartbeats 4000000 in
set_option maxRecDepth 100000 in
theorem F_ref6_Slower_w (p0 : Rules) (p1 : Int) (v1 : Value) (v2 : Value) (v3 : Value) (r : Rules × Int) (hF : F_ref6_Slower p0 p1 = some r) (O S : List Nat) (w : World) (H : Hd O w w S [.fz (.sl Rp.str v1 p0.Phases), .fz (.sl rMoveT v2 p0.Moves), .fz (.sl rRule v3 p0.Rules)]) :
  Calls Tryz.prog 22 ([.agg [v1, v2, v3].toArray, .int .i64 p1] : List Value).toArray w fun e w' => ∃ u7 u8 u9, e = .returned (.tuple #[.agg [u7, u8, u9].toArray, .int .i64 r.2]) ∧ Hd O w w' S [.fz (.sl Rp.str u7 r.1.Phases), .fz (.sl rMoveT u8 r.1.Moves), .fz (.sl rRule u9 r.1.Rules)] := by
 unfold F_ref6_Slower at hF
 refine yC 75 Tryz.func22 rfl rfl rfl ?_
 refine zC fun K10 hK10 => ?_
 refine zB ?_
 refine yT rfl rfl (wL (cs := [v1, v2, v3]) rfl H) ?_
 rintro _ w13 ⟨b11, rfl, H⟩
 refine yT rfl rfl (xG zero26 H) ?_
 rintro _ w16 ⟨b14, rfl, H⟩
 refine zI (.int .i64 0) ?_
 refine (zF (zA (hK10 _ _ ?_)))
 refine zC fun K29 hK29 => ?_
 refine zC fun K30 hK30 => ?_
 refine zB ?_
 refine zH (yL (yH (cs := [v1, v2, v3]) agg26 rfl sz26 rfl (Blk.cells (H.item (i := 3) rfl))) rfl) ?_
 have H31 := H
 obtain ⟨x32, e33, hF⟩ := zD hF
 refine zW rfl rfl (zT en49 rfl) (F_ref6_Check_w p0 v1 v2 v3 _ e33 _ _ _ (H.enter [] [0, 1, 2] (by decide) rfl)) ?_
 rintro _ w34 ⟨rfl, G35⟩
 have H := H31.step (G35.only : Only [] _ _)
 refine ⟨_, rfl, ?_⟩
 refine zI (.int .i64 x32) ?_
 refine (zF (zA (hK30 _ _ ?_)))
 refine zC fun K36 hK36 => ?_
 refine zB ?_
 refine zN (.int .i64 x32) ?_
 obtain ⟨x37, e38, hF⟩ := zG hF
 refine zH (zV (Do_neq (a := x32) (b := 0) rfl rfl) e38) ?_
 refine (zF (zA (hK36 _ _ ?_)))
 refine zZ (b := x37) rfl (fun c39 => ?_) (fun c39 => ?_)
 ·have hF := zQ c39 hF
  refine zC fun K40 hK40 => ?_
  refine zB ?_
  refine zH (xN (cs := [.slice none 0 0, .slice none 0 0, .slice none 0 0]) bz26) ?_
  refine zN (.int .i64 x32) ?_
  refine yS rfl (yI (vs := [.slice none 0 0, .slice none 0 0, .slice none 0 0]) H 4 rfl sz26 rfl rfl rfl ⟨rfl, rfl, rfl, trivial⟩ rfl) ?_
  rintro w41 H
  refine zI (.int .i64 x32) ?_
  refine (zF (zA (hK40 _ _ ?_)))
  have H := H.fz (.sl Rp.str (.slice none 0 0) []) SlF.nil
  have H := H.fz (.sl rMoveT (.slice none 0 0) []) SlF.nil
  have H := H.fz (.sl rRule (.slice none 0 0) []) SlF.nil
  obtain rfl := someI hF
  refine (yB (zX (postc1 (v1 := .int .i64 x32) rfl rfl (yD agg26 sz26 rfl (Blk.cells (H.item (i := 4) rfl))) rfl ?_)))
  exact ⟨.slice none 0 0, .slice none 0 0, .slice none 0 0, rfl, H.pick [5, 6, 7] (by decide)⟩
 have hF := zS c39 hF
 refine (yA (zA (hK29 _ _ ?_)))
 refine zC fun K54 hK54 => ?_
 refine zC fun K55 hK55 => ?_
 refine zB ?_
 refine zN (.int .i64 p1) ?_
 have H56 := H
 obtain ⟨x57, e58, hF⟩ := zD hF
 refine zW rfl rfl (zT en63 rfl) (F_ref6_outside_w p1 1 64 _ e58 _ _ _ (H.enter [] [] (by decide) rfl)) ?_
 rintro _ w59 ⟨rfl, G60⟩
 have H := H56.step (G60.only : Only [] _ _)
 refine ⟨_, rfl, ?_⟩
 refine (zF (zA (hK55 _ _ ?_)))
 refine zZ (b := x57) rfl (fun c61 => ?_) (fun c61 => ?_)
 ·have hF := zQ c61 hF
  refine zC fun K62 hK62 => ?_
  refine zB ?_
  refine zH (xN (cs := [.slice none 0 0, .slice none 0 0, .slice none 0 0]) bz26) ?_
  refine yS rfl (yI (vs := [.slice none 0 0, .slice none 0 0, .slice none 0 0]) H 4 rfl sz26 rfl rfl rfl ⟨rfl, rfl, rfl, trivial⟩ rfl) ?_
  rintro w63 H
  refine zI (.int .i64 9) ?_
  refine (zF (zA (hK62 _ _ ?_)))
  have H := H.fz (.sl Rp.str (.slice none 0 0) []) SlF.nil
  have H := H.fz (.sl rMoveT (.slice none 0 0) []) SlF.nil
  have H := H.fz (.sl rRule (.slice none 0 0) []) SlF.nil
  obtain rfl := someI hF
  refine (yB (zX (postc1 (v1 := .int .i64 9) rfl rfl (yD agg26 sz26 rfl (Blk.cells (H.item (i := 4) rfl))) rfl ?_)))
  exact ⟨.slice none 0 0, .slice none 0 0, .slice none 0 0, rfl, H.pick [5, 6, 7] (by decide)⟩
 have hF := zS c61 hF
 refine (yA (zA (hK54 _ _ ?_)))
 refine zC fun K67 hK67 => ?_
 refine zB ?_
 refine zH (fa26_0 rfl) ?_
 refine zH (zM one22 rfl (Cells.get (Blk.cells (H.item (i := 3) rfl)) (i := 0) rfl)) ?_
 have H := own_nil H Rp.str 9
 obtain ⟨x69, e70, hF⟩ := zD hF
 refine yT rfl rfl (Lx_app H (i := 5) rfl u22 el9 rfl rfl (Sr.of_rd (H.item (i := 0) rfl)) e70) ?_
 rintro v71 w72 H
 obtain ⟨a73, c74, q75⟩ : ∃ a c, v71 = .slice a _ c := Sr.len (Sr.of_own (H.item (i := 5) rfl))
 refine zH (xN (cs := [v71, .slice none 0 0, .slice none 0 0]) (by rw [q75]; exact bt26_0 a73 _ c74)) ?_
 refine yT rfl rfl (xG zero26 H) ?_
 rintro _ w78 ⟨b76, rfl, H⟩
 refine yS rfl (yI (vs := [v71, .slice none 0 0, .slice none 0 0]) H 6 rfl sz26 rfl rfl rfl ⟨(xU (H.item (i := 5) rfl)), rfl, rfl, trivial⟩ rfl) ?_
 rintro w79 H
 refine (zF (zA (hK67 _ _ ?_)))
 obtain ⟨g291, hF, hK294⟩ := zD hF
 refine yO [8, 9, 24, 25, 26, 27, 28, 29, 30, 31, 32, 33, 34, 35, 36, 37, 38, 39, 40, 41, 42, 43, 44, 45, 46] (fun (g : Value) => []) (fun g wl => Hd O w wl S [.fz (.sl Rp.str v1 p0.Phases), .fz (.sl rMoveT v2 p0.Moves), .fz (.sl rRule v3 p0.Rules), .blk b11 [v1, v2, v3] 26, .blk b14 [.slice none 0 0, .slice none 0 0, .slice none 0 0] 26, .own Rp.str v71 9 x69, .blk b76 [v71, g, .slice none 0 0] 26, .own rMoveT g 102 g291]) ?_ ?_
 ·skip
  refine zC fun K295 hK295 => ?_
  refine zB ?_
  refine zI (.int .i64 0) ?_
  refine (zF (zA (hK295 _ _ ?_)))
  refine yF ?_
  have H := own_nil H rMoveT 102
  unfold F_ref6_Slower_L1 at hF
  obtain ⟨B503, n504, eB505, hF⟩ := yV hF
  refine xJ [8, 9, 24, 25, 26, 27, 28, 29, 30, 31, 32, 33, 34, 35, 36, 37, 38, 39, 40, 41, 42, 43, 44, 45, 46] (fun (g : Nat × Int × (List MoveT) × Value) => [(8, .int .i64 g.2.1)]) (fun g wl => Hd O w wl S [.fz (.sl Rp.str v1 p0.Phases), .fz (.sl rMoveT v2 p0.Moves), .fz (.sl rRule v3 p0.Rules), .blk b11 [v1, v2, v3] 26, .blk b14 [.slice none 0 0, .slice none 0 0, .slice none 0 0] 26, .own Rp.str v71 9 x69, .blk b76 [v71, g.2.2.2, .slice none 0 0] 26, .own rMoveT g.2.2.2 102 g.2.2.1] ∧ loopN B503 g.1 (g.2.1, g.2.2.1) = some g291) (fun g => g.1) (n504, 0, [], .slice none 0 0) (zL rfl zO) ⟨H.pick [0, 1, 2, 3, 4, 5, 6, 7] (by decide), hF⟩ ?_
  clear H hF
  rintro ⟨n504, g498, g500, v501⟩ ρ w507 ⟨H, hF⟩
  obtain ⟨n508, rfl, hF⟩ := xB hF
  have hF := yZ eB505 hF
  refine zC fun K518 hK518 => ?_
  refine zC fun K519 hK519 => ?_
  refine zB ?_
  refine zN (.int .i64 g498) ?_
  refine zH (fa26_1 rfl) ?_
  refine zH (zM one23 rfl (Cells.get (Blk.cells (H.item (i := 3) rfl)) (i := 1) rfl)) ?_
  obtain ⟨x520, e521, hF⟩ := zG hF
  obtain ⟨a522, c523, q524⟩ := SlF.len ((H.item (i := 1) rfl))
  refine zH (yL (xW u23 q524) (congrArg (Value.int .i64) e521)) ?_
  obtain ⟨x525, e526, hF⟩ := zG hF
  refine zH (zV (xQ (a := g498) (b := x520) rfl rfl) e526) ?_
  refine (zF (zA (hK519 _ _ ?_)))
  refine zZ (b := x525) rfl (fun c527 => ?_) (fun c527 => ?_)
  ·have hF := zQ c527 hF
   refine (yA (zA (hK518 _ _ ?_)))
   refine zC fun K566 hK566 => ?_
   refine yF ?_
   refine zC fun K567 hK567 => ?_
   refine zB ?_
   refine zH (fa26_1 rfl) ?_
   refine zH (zM one23 rfl (Cells.get (Blk.cells (H.item (i := 3) rfl)) (i := 1) rfl)) ?_
   refine zN (.int .i64 g498) ?_
   obtain ⟨x568, e569, hF⟩ := zD hF
   obtain ⟨b570, o571, c572, cs573, q574, h577, h575, h576, h578⟩ := wQ (H.item (i := 1) rfl) e569
   obtain ⟨v579, rfl, h580⟩ := rMoveT_open h577
   have H := H.fzs [.at b570 (o571 + g498.toNat * 9) _, .sl rCond v579 x568.When.Kids] ⟨⟨h575, h576, h578⟩, h580, trivial⟩
   refine zH (xY u23 sz102 q574 rfl (yN e569).1 (yN e569).2.1 rfl rfl) ?_
   refine zH (yL (yH (cs := [.string (bs x568.From), .string (bs x568.To), .int .i64 x568.When.Kind, .string (bs x568.When.Name), .string (bs x568.When.Other), .int .i64 x568.When.Op, .int .i64 x568.When.N, .int .i64 x568.When.Frames, v579]) agg102 rfl sz102 rfl (H.item (i := 8) rfl).2.2) rfl) ?_
   refine yT rfl rfl (xG zero102 H) ?_
   rintro _ w585 ⟨b583, rfl, H⟩
   refine yS rfl (yI (vs := [.string (bs x568.From), .string (bs x568.To), .int .i64 x568.When.Kind, .string (bs x568.When.Name), .string (bs x568.When.Other), .int .i64 x568.When.Op, .int .i64 x568.When.N, .int .i64 x568.When.Frames, v579]) H 10 rfl sz102 rfl rfl rfl ⟨rfl, rfl, rfl, rfl, rfl, rfl, rfl, rfl, (xR (H.item (i := 9) rfl)), trivial⟩ rfl) ?_
   rintro w586 H
   refine (zF (zA (hK567 _ _ ?_)))
   refine zC fun K587 hK587 => ?_
   refine zB ?_
   refine zH (fa102_2 rfl) ?_
   refine zH (yL (yH (cs := [.int .i64 x568.When.Kind, .string (bs x568.When.Name), .string (bs x568.When.Other), .int .i64 x568.When.Op, .int .i64 x568.When.N, .int .i64 x568.When.Frames, v579]) agg54 rfl sz54 rfl (Cells.drop (Blk.cells (H.item (i := 10) rfl)) 2 7)) rfl) ?_
   refine zN (.int .i64 p1) ?_
   obtain ⟨x588, e589, hF⟩ := zD hF
   refine zW rfl rfl (zT en64 rfl) (F_ref6_slower_s x568.When p1 v579 _ e589 _ _ _ (H.enter [] [9] (by decide) rfl)) ?_
   rintro _ w592 ⟨v590, rfl, G593⟩
   have H := H.back1 [9] rfl G593
   refine ⟨_, rfl, ?_⟩
   refine zH (fa102_2 rfl) ?_
   refine yS rfl (yI (vs := [.int .i64 x588.Kind, .string (bs x588.Name), .string (bs x588.Other), .int .i64 x588.Op, .int .i64 x588.N, .int .i64 x588.Frames, v590]) H 10 rfl sz54 rfl rfl rfl ⟨rfl, rfl, rfl, rfl, rfl, rfl, (xR (H.item (i := 11) rfl)), trivial⟩ rfl) ?_
   rintro w594 H
   refine (zF (zA (hK587 _ _ ?_)))
   have H : Hd O w w594 S [.fz (.sl Rp.str v1 p0.Phases), .fz (.sl rMoveT v2 p0.Moves), .fz (.sl rRule v3 p0.Rules), .blk b11 [v1, v2, v3] 26, .blk b14 [.slice none 0 0, .slice none 0 0, .slice none 0 0] 26, .own Rp.str v71 9 x69, .blk b76 [v71, v501, .slice none 0 0] 26, .own rMoveT v501 102 g500, .blk b583 [.string (bs x568.From), .string (bs x568.To), .int .i64 x588.Kind, .string (bs x588.Name), .string (bs x588.Other), .int .i64 x588.Op, .int .i64 x588.N, .int .i64 x588.Frames, v590] 102, .fz (.sl rCond v590 x588.Kids)] := H.pick [0, 1, 2, 3, 4, 5, 6, 7, 10, 11] (by decide)
   refine zB ?_
   refine zH (fa26_1 rfl) ?_
   refine zH (zM one23 rfl (Cells.get (Blk.cells (H.item (i := 6) rfl)) (i := 1) rfl)) ?_
   refine zH (yL (yH (cs := [.string (bs x568.From), .string (bs x568.To), .int .i64 x588.Kind, .string (bs x588.Name), .string (bs x588.Other), .int .i64 x588.Op, .int .i64 x588.N, .int .i64 x588.Frames, v590]) agg102 rfl sz102 rfl (Blk.cells (H.item (i := 8) rfl))) rfl) ?_
   obtain ⟨x595, e596, hF⟩ := zG hF
   subst e596
   refine yT rfl rfl (Lx_bs (r := rMoveT) (xl := [MoveT.mk x568.From x568.To x588]) (cs := [.string (bs x568.From), .string (bs x568.To), .int .i64 x588.Kind, .string (bs x588.Name), .string (bs x588.Other), .int .i64 x588.Op, .int .i64 x588.N, .int .i64 x588.Frames, v590]) u23 el102 (by decide) (by decide) rfl (xK (vs := [.agg [.string (bs x568.From), .string (bs x568.To), .int .i64 x588.Kind, .string (bs x588.Name), .string (bs x588.Other), .int .i64 x588.Op, .int .i64 x588.N, .int .i64 x588.Frames, v590].toArray]) (by decide) rfl rfl ⟨rfl, trivial⟩ rfl) H ⟨[.string (bs x568.From), .string (bs x568.To), .int .i64 x588.Kind, .string (bs x588.Name), .string (bs x588.Other), .int .i64 x588.Op, .int .i64 x588.N, .int .i64 x588.Frames, v590], [], rfl, (rMoveT_mk (x := MoveT.mk x568.From x568.To x588) (H.item (i := 9) rfl)), rfl⟩) ?_
   rintro v598 w599 H
   obtain ⟨x600, e601, hF⟩ := zD hF
   refine yT rfl rfl (Lx_app H (i := 7) rfl u23 el102 rfl rfl (Sr.of_own (H.item (i := 10) rfl)) e601) ?_
   rintro v602 w603 H
   refine zH (fa26_1 rfl) ?_
   refine yS rfl (xM H 6 rfl sz23 rfl (v := v602) rfl (xU (H.item (i := 7) rfl)) rfl) ?_
   rintro w604 H
   refine (zF (yU (zA (hK566 _ _ ?_))))
   refine zB ?_
   refine zN (.int .i64 g498) ?_
   obtain ⟨x605, e606, hF⟩ := zG hF
   refine zH (xX (a := g498) (b := 1) rfl rfl e606) ?_
   refine zI (.int .i64 x605) ?_
   exact (zF (zA (meet ⟨(n508, x605, x600, v602), (zL rfl zO), ⟨H.pick [0, 1, 2, 3, 4, 5, 6, 7] (by decide), hF⟩, Nat.lt_succ_self _⟩)))
  have hF := zS c527 hF
  obtain rfl := someI hF
  exact (xP (yR (yR (xA (zA (meet ⟨v501, zO, H.pick [0, 1, 2, 3, 4, 5, 6, 7] (by decide)⟩))))))
 rintro v292 ρ w293 H
 have hF := hK294
 obtain ⟨g874, hF, hK877⟩ := zD hF
 refine yO [10, 47, 48, 49, 50, 51, 52, 53, 54, 55, 56, 57, 58, 59, 60, 61, 62, 63, 64, 65, 66, 67, 68, 69, 70, 71, 72, 73] (fun (g : Value) => []) (fun g wl => Hd O w wl S [.blk b14 [.slice none 0 0, .slice none 0 0, .slice none 0 0] 26, .own Rp.str v71 9 x69, .blk b76 [v71, v292, g] 26, .own rMoveT v292 102 g291, .own rRule g 106 g874]) ?_ ?_
 ·skip
  refine zC fun K878 hK878 => ?_
  refine zB ?_
  refine zI (.int .i64 0) ?_
  refine (zF (zA (hK878 _ _ ?_)))
  refine yF ?_
  have H := own_nil H rRule 106
  unfold F_ref6_Slower_L2 at hF
  obtain ⟨B1142, n1143, eB1144, hF⟩ := yV hF
  refine xJ [10, 47, 48, 49, 50, 51, 52, 53, 54, 55, 56, 57, 58, 59, 60, 61, 62, 63, 64, 65, 66, 67, 68, 69, 70, 71, 72, 73] (fun (g : Nat × Int × (List Rule) × Value) => [(10, .int .i64 g.2.1)]) (fun g wl => Hd O w wl S [.fz (.sl Rp.str v1 p0.Phases), .fz (.sl rMoveT v2 p0.Moves), .fz (.sl rRule v3 p0.Rules), .blk b11 [v1, v2, v3] 26, .blk b14 [.slice none 0 0, .slice none 0 0, .slice none 0 0] 26, .own Rp.str v71 9 x69, .blk b76 [v71, v292, g.2.2.2] 26, .own rMoveT v292 102 g291, .own rRule g.2.2.2 106 g.2.2.1] ∧ loopN B1142 g.1 (g.2.1, g.2.2.1) = some g874) (fun g => g.1) (n1143, 0, [], .slice none 0 0) (zL rfl zO) ⟨H.pick [0, 1, 2, 3, 4, 5, 6, 7, 8] (by decide), hF⟩ ?_
  clear H hF
  rintro ⟨n1143, g1137, g1139, v1140⟩ ρ w1146 ⟨H, hF⟩
  obtain ⟨n1147, rfl, hF⟩ := xB hF
  have hF := yZ eB1144 hF
  refine zC fun K1157 hK1157 => ?_
  refine zC fun K1158 hK1158 => ?_
  refine zB ?_
  refine zN (.int .i64 g1137) ?_
  refine zH (fa26_2 rfl) ?_
  refine zH (zM one24 rfl (Cells.get (Blk.cells (H.item (i := 3) rfl)) (i := 2) rfl)) ?_
  obtain ⟨x1159, e1160, hF⟩ := zG hF
  obtain ⟨a1161, c1162, q1163⟩ := SlF.len ((H.item (i := 2) rfl))
  refine zH (yL (xW u24 q1163) (congrArg (Value.int .i64) e1160)) ?_
  obtain ⟨x1164, e1165, hF⟩ := zG hF
  refine zH (zV (xQ (a := g1137) (b := x1159) rfl rfl) e1165) ?_
  refine (zF (zA (hK1158 _ _ ?_)))
  refine zZ (b := x1164) rfl (fun c1166 => ?_) (fun c1166 => ?_)
  ·have hF := zQ c1166 hF
   refine (yA (zA (hK1157 _ _ ?_)))
   refine zC fun K1219 hK1219 => ?_
   refine yF ?_
   have H1220 := H
   have H := H.rebase
   have H1221 := H
   refine WP_mix0 H [0, 1, 2, 3, 4, 5, 6, 7, 8, 9, 10, 11, 12, 13, 14, 15, 16, 17, 18, 19, 20] [.pure, .read, .pure, .read, .pure, .pure, .pure, .read, .pure, .read, .pure, .pure, .pure, .read, .pure, .new, .pure, .new, .eff, .pure, .eff] mixed (by kernel_rfl) (by kernel_rfl) (by kernel_rfl) rfl ?_
   refine Mx.zU rfl rfl rfl (fun w' hw' => fa26_2 rfl) ?_
   refine Mx.xC oS rfl rfl rfl (fun w' hw' => zM one24 rfl (Cells.get (Blk.cells ((H.sees hw').item (i := 6) rfl)) (i := 2) rfl)) ?_
   refine Mx.zU rfl rfl rfl (fun w' hw' => fa26_2 rfl) ?_
   refine Mx.xC oS rfl rfl rfl (fun w' hw' => zM one24 rfl (Cells.get (Blk.cells ((H.sees hw').item (i := 3) rfl)) (i := 2) rfl)) ?_
   refine Mx.zU rfl rfl rfl (fun w' hw' => xI (v := .int .i64 g1137) rfl) ?_
   obtain ⟨x1222, e1223, hF⟩ := zD hF
   obtain ⟨b1224, o1225, c1226, cs1227, q1228, h1231, h1229, h1230, h1232⟩ := wQ (H.item (i := 2) rfl) e1223
   obtain ⟨v1233, rfl, h1234⟩ := rRule_open h1231
   have H := H.fzs [.at b1224 (o1225 + g1137.toNat * 8) _, .sl rCond v1233 x1222.When.Kids] ⟨⟨h1229, h1230, h1232⟩, h1234, trivial⟩
   refine Mx.zU rfl rfl rfl (fun w' hw' => xY u24 sz106 q1228 rfl (yN e1223).1 (yN e1223).2.1 rfl rfl) ?_
   refine Mx.zU rfl rfl rfl (fun w' hw' => fa106_0 rfl) ?_
   refine Mx.xC oS rfl rfl rfl (fun w' hw' => zM one9 rfl (Cells.get ((H.sees hw').item (i := 9) rfl).2.2 (i := 0) rfl)) ?_
   refine Mx.zU rfl rfl rfl (fun w' hw' => fa26_2 rfl) ?_
   refine Mx.xC oS rfl rfl rfl (fun w' hw' => zM one24 rfl (Cells.get (Blk.cells ((H.sees hw').item (i := 3) rfl)) (i := 2) rfl)) ?_
   refine Mx.zU rfl rfl rfl (fun w' hw' => xI (v := .int .i64 g1137) rfl) ?_
   obtain ⟨x1237, e1238, hF⟩ := zD hF
   obtain ⟨b1239, o1240, c1241, cs1242, q1243, h1246, h1244, h1245, h1247⟩ := wQ (H.item (i := 2) rfl) e1238
   obtain ⟨v1248, rfl, h1249⟩ := rRule_open h1246
   have H := H.fzs [.at b1239 (o1240 + g1137.toNat * 8) _, .sl rCond v1248 x1237.When.Kids] ⟨⟨h1244, h1245, h1247⟩, h1249, trivial⟩
   refine Mx.zU rfl rfl rfl (fun w' hw' => xY u24 sz106 q1243 rfl (yN e1238).1 (yN e1238).2.1 rfl rfl) ?_
   refine Mx.zU rfl rfl rfl (fun w' hw' => fa106_1 rfl) ?_
   refine Mx.xC oS rfl rfl rfl (fun w' hw' => yL (yH (cs := [.int .i64 x1237.When.Kind, .string (bs x1237.When.Name), .string (bs x1237.When.Other), .int .i64 x1237.When.Op, .int .i64 x1237.When.N, .int .i64 x1237.When.Frames, v1248]) agg54 rfl sz54 rfl (Cells.drop ((H.sees hw').item (i := 11) rfl).2.2 1 7)) rfl) ?_
   refine Mx.zU rfl rfl rfl (fun w' hw' => xI (v := .int .i64 p1) rfl) ?_
   obtain ⟨x1252, e1253, hF⟩ := zD hF
   refine Mx.XL_newC oS rfl rfl rfl (fun w' hw' => zT en64 rfl) (fun w' hw' => F_ref6_slower_s x1237.When p1 v1248 _ e1253 _ _ _ ((H.sees hw').enter [] [12] (by decide) rfl)) ?_
   rintro w' _ w1256 hw' ⟨v1254, rfl, G1257⟩
   have H := (H.sees hw').back1 [12] rfl G1257
   refine ⟨_, rfl, (G1257.only : Only [] _ _).below, ?_⟩
   obtain ⟨a1258, c1259, q1260⟩ : ∃ a c, v1254 = .slice a _ c := SlF.len ((H.item (i := 13) rfl))
   refine Mx.zU rfl rfl rfl (fun w' hw' => xN (cs := [.string (bs x1222.Name), .int .i64 x1252.Kind, .string (bs x1252.Name), .string (bs x1252.Other), .int .i64 x1252.Op, .int .i64 x1252.N, .int .i64 x1252.Frames, v1254]) (by rw [q1260]; exact bt106_0_1 _ _ _ _ _ _ _ a1258 _ c1259)) ?_
   obtain ⟨x1261, e1262, hF⟩ := zG hF
   subst e1262
   refine Mx.XL_exN oS rfl rfl rfl (fun w' hw' => Ls_of (Lx_bs (r := rRule) (xl := [Rule.mk x1222.Name x1252]) (cs := [.string (bs x1222.Name), .int .i64 x1252.Kind, .string (bs x1252.Name), .string (bs x1252.Other), .int .i64 x1252.Op, .int .i64 x1252.N, .int .i64 x1252.Frames, v1254]) u24 el106 (by decide) (by decide) rfl (xK (vs := [.agg [.string (bs x1222.Name), .int .i64 x1252.Kind, .string (bs x1252.Name), .string (bs x1252.Other), .int .i64 x1252.Op, .int .i64 x1252.N, .int .i64 x1252.Frames, v1254].toArray]) (by decide) rfl rfl ⟨rfl, trivial⟩ rfl) (H.sees hw') ⟨[.string (bs x1222.Name), .int .i64 x1252.Kind, .string (bs x1252.Name), .string (bs x1252.Other), .int .i64 x1252.Op, .int .i64 x1252.N, .int .i64 x1252.Frames, v1254], [], rfl, (rRule_mk (x := Rule.mk x1222.Name x1252) ((H.sees hw').item (i := 13) rfl)), rfl⟩) (Ys_bs (cs := [.string (bs x1222.Name), .int .i64 x1252.Kind, .string (bs x1252.Name), .string (bs x1252.Other), .int .i64 x1252.Op, .int .i64 x1252.N, .int .i64 x1252.Frames, v1254]) u24 el106 (by decide) (by decide) (xK (vs := [.agg [.string (bs x1222.Name), .int .i64 x1252.Kind, .string (bs x1252.Name), .string (bs x1252.Other), .int .i64 x1252.Op, .int .i64 x1252.N, .int .i64 x1252.Frames, v1254].toArray]) (by decide) rfl rfl ⟨rfl, trivial⟩ rfl))) ?_
   rintro w' v1264 w1265 hw' H
   obtain ⟨x1266, e1267, hF⟩ := zD hF
   refine Mx.XL_ex oS rfl rfl rfl (fun w' hw' => Lx_app (H.sees hw') (i := 8) rfl u24 el106 rfl rfl (Sr.of_own ((H.sees hw').item (i := 14) rfl)) e1267) ?_
   rintro w' v1268 w1269 hw' H
   refine ⟨H.only, ?_⟩
   refine Mx.zU rfl rfl rfl (fun w' hw' => fa26_2 rfl) ?_
   refine Mx.XL_exU oS rfl rfl (fun w' hw' => xM (H.sees hw') 6 rfl sz24 rfl (v := v1268) rfl (xU ((H.sees hw').item (i := 8) rfl)) rfl) ?_
   rintro w' w1270 hw' H
   refine ⟨H.only, ?_⟩
   refine Mx.XL_nil fun w1271 hS => ?_
   have H := H.sees hS
   have H := H1220.rejoin H
   refine (yU (zA (hK1219 _ _ ?_)))
   have H : Hd O w w1271 S [.fz (.sl Rp.str v1 p0.Phases), .fz (.sl rMoveT v2 p0.Moves), .fz (.sl rRule v3 p0.Rules), .blk b11 [v1, v2, v3] 26, .blk b14 [.slice none 0 0, .slice none 0 0, .slice none 0 0] 26, .own Rp.str v71 9 x69, .blk b76 [v71, v292, v1268] 26, .own rMoveT v292 102 g291, .own rRule v1268 106 x1266] := H.pick [0, 1, 2, 3, 4, 5, 6, 7, 8] (by decide)
   refine zB ?_
   refine zN (.int .i64 g1137) ?_
   obtain ⟨x1272, e1273, hF⟩ := zG hF
   refine zH (xX (a := g1137) (b := 1) rfl rfl e1273) ?_
   refine zI (.int .i64 x1272) ?_
   exact (zF (zA (meet ⟨(n1147, x1272, x1266, v1268), (zL rfl zO), ⟨H.pick [0, 1, 2, 3, 4, 5, 6, 7, 8] (by decide), hF⟩, Nat.lt_succ_self _⟩)))
  have hF := zS c1166 hF
  obtain rfl := someI hF
  exact (xP (yR (yR (xA (zA (meet ⟨v1140, zO, H.pick [4, 5, 6, 7, 8] (by decide)⟩))))))
 rintro v875 ρ w876 H
 have hF := hK877
 refine zC fun K1274 hK1274 => ?_
 refine zB ?_
 refine zH (yL (yH (cs := [v71, v292, v875]) agg26 rfl sz26 rfl (Blk.cells (H.item (i := 2) rfl))) rfl) ?_
 refine yS rfl (yI (vs := [v71, v292, v875]) H 0 rfl sz26 rfl rfl rfl ⟨(xU (H.item (i := 1) rfl)), (xU (H.item (i := 3) rfl)), (xU (H.item (i := 4) rfl)), trivial⟩ rfl) ?_
 rintro w1275 H
 refine zI (.int .i64 0) ?_
 refine (zF (zA (hK1274 _ _ ?_)))
 have H := H.freeze (i := 1) rfl
 have H := H.freeze (i := 3) rfl
 have H := H.freeze (i := 4) rfl
 obtain rfl := someI hF
 refine (yB (postc1 (v1 := .int .i64 0) rfl rfl (yD agg26 sz26 rfl (Blk.cells (H.item (i := 0) rfl))) rfl ?_))
 exact ⟨v71, v292, v875, rfl, H.pick [1, 3, 4] (by decide)⟩
set_option maxHeartbeats 4000000 in
theorem F_internal_strconv_AppendInt_w (p0 : List Int) (p1 : Int) (p2 : Int) (v1 : Value) (r : (List Int)) (hF : F_internal_strconv_AppendInt p0 p1 p2 = some r) (O S : List Nat) (w : World) (H : Hd O w w S [.own (Rp.int .u8) v1 5 p0, .fz (.at 3 0 ((Fl.arr 20 (Fl.int .u64)).f zJ))]) :
  Calls Tryz.prog 136 ([v1, .int .i64 p1, .int .i64 p2] : List Value).toArray w fun e w' => ∃ u4, e = .returned (u4) ∧ Hd O w w' S [.own (Rp.int .u8) u4 5 r] := by
 unfold F_internal_strconv_AppendInt at hF
 refine yC 21 Tryz.func136 rfl rfl rfl ?_
 refine zC fun K5 hK5 => ?_
 refine zB ?_
 refine zI (.slice none 0 0) ?_
 refine (zF (zA (hK5 _ _ ?_)))
 refine zC fun K6 hK6 => ?_
 refine zB ?_
 refine zN (.int .i64 p1) ?_
 obtain ⟨x7, e8, hF⟩ := zG hF
 refine zH (Do_conv u2 u251 rfl e8) ?_
 refine zI (.int .u64 x7) ?_
 refine (zF (zA (hK6 _ _ ?_)))
 obtain ⟨j30, hF, hK29⟩ := zD hF
 refine yO [0, 7, 10, 11, 12, 13, 14, 15, 16] (fun (g : Value) => [(0, g), (7, .int .u64 j30.2)]) (fun g wl => Hd O w wl S [.own (Rp.int .u8) g 5 j30.1, .fz (.at 3 0 ((Fl.arr 20 (Fl.int .u64)).f zJ))]) ?_ ?_
 ·skip
  refine zC fun K31 hK31 => ?_
  refine zB ?_
  refine zN (.int .i64 p1) ?_
  obtain ⟨x32, e33, hF⟩ := zG hF
  refine zH (zV (xQ (a := p1) (b := 0) rfl rfl) e33) ?_
  refine (zF (zA (hK31 _ _ ?_)))
  refine zZ (b := x32) rfl (fun c34 => ?_) (fun c34 => ?_)
  ·have hF := zQ c34 hF
   refine zC fun K35 hK35 => ?_
   refine zB ?_
   refine zN v1 ?_
   obtain ⟨x36, e37, hF⟩ := zG hF
   subst e37
   refine yT rfl rfl (Lx_bs (r := (Rp.int .u8)) (xl := [45]) (cs := [.int .u8 45]) u77 el5 (by decide) (by decide) rfl (xK (vs := [.int .u8 45]) (by decide) rfl rfl ⟨rfl, trivial⟩ rfl) H ⟨[.int .u8 45], [], rfl, rfl, rfl⟩) ?_
   rintro v39 w40 H
   obtain ⟨x41, e42, hF⟩ := zD hF
   refine yT rfl rfl (Lx_app H (i := 0) rfl u77 el5 rfl rfl (Sr.of_own (H.item (i := 2) rfl)) e42) ?_
   rintro v43 w44 H
   refine zI v43 ?_
   refine (zF (zA (hK35 _ _ ?_)))
   refine zB ?_
   refine zN (.int .u64 x7) ?_
   obtain ⟨x45, e46, hF⟩ := zG hF
   refine zH (Do_neg (a := x7) rfl e46) ?_
   refine zI (.int .u64 x45) ?_
   obtain rfl := someI hF
   exact (zF (zA (meet ⟨v43, (zL rfl (zL rfl zO)), H.pick [0, 1] (by decide)⟩)))
  have hF := zS c34 hF
  obtain rfl := someI hF
  exact (yA (zA (meet ⟨v1, (zL rfl (zL rfl zO)), H.pick [0, 1] (by decide)⟩)))
 rintro v26 ρ w28 H
 have hF := hK29
 obtain ⟨g25, g27⟩ := j30
 refine zC fun K47 hK47 => ?_
 refine zB ?_
 refine zN v26 ?_
 refine zN (.int .u64 g27) ?_
 refine zN (.int .i64 p2) ?_
 obtain ⟨x48, e49, hF⟩ := zD hF
 refine zW rfl rfl (zT en173 rfl) (E.X_AppendUint_w g25 g27 p2 v26 _ e49 _ _ _ (H.enter [0] [1] (by decide) rfl)) ?_
 rintro _ w52 ⟨v50, rfl, G53⟩
 have H : Hd O _ w52 _ [.fz (.at 3 0 ((Fl.arr 20 (Fl.int .u64)).f zJ)), .own (Rp.int .u8) v50 5 x48] := H.back [0] [1] rfl G53
 refine ⟨_, rfl, ?_⟩
 refine zI v50 ?_
 refine (zF (zA (hK47 _ _ ?_)))
 obtain rfl := someI hF
 refine (yB (post1 (v1 := v50) rfl rfl ?_))
 exact ⟨v50, rfl, H.pick [1] (by decide)⟩
set_option maxHeartbeats 4000000 in
theorem F_strconv_AppendInt_w (p0 : List Int) (p1 : Int) (p2 : Int) (v1 : Value) (r : (List Int)) (hF : F_strconv_AppendInt p0 p1 p2 = some r) (O S : List Nat) (w : World) (H : Hd O w w S [.own (Rp.int .u8) v1 5 p0, .fz (.at 3 0 ((Fl.arr 20 (Fl.int .u64)).f zJ))]) :
  Calls Tryz.prog 85 ([v1, .int .i64 p1, .int .i64 p2] : List Value).toArray w fun e w' => ∃ u4, e = .returned (u4) ∧ Hd O w w' S [.own (Rp.int .u8) u4 5 r] := by
 unfold F_strconv_AppendInt at hF
 refine yC 11 Tryz.func85 rfl rfl rfl ?_
 refine zC fun K5 hK5 => ?_
 refine zB ?_
 refine zI (.slice none 0 0) ?_
 refine (zF (zA (hK5 _ _ ?_)))
 refine zC fun K6 hK6 => ?_
 refine zB ?_
 refine zN v1 ?_
 refine zN (.int .i64 p1) ?_
 refine zN (.int .i64 p2) ?_
 obtain ⟨x7, e8, hF⟩ := zD hF
 refine zW rfl rfl (zT en136 rfl) (F_internal_strconv_AppendInt_w p0 p1 p2 v1 _ e8 _ _ _ (H.enter [0] [1] (by decide) rfl)) ?_
 rintro _ w11 ⟨v9, rfl, G12⟩
 have H : Hd O _ w11 _ [.fz (.at 3 0 ((Fl.arr 20 (Fl.int .u64)).f zJ)), .own (Rp.int .u8) v9 5 x7] := H.back [0] [1] rfl G12
 refine ⟨_, rfl, ?_⟩
 refine zI v9 ?_
 refine (zF (zA (hK6 _ _ ?_)))
 obtain rfl := someI hF
 refine (yB (post1 (v1 := v9) rfl rfl ?_))
 exact ⟨v9, rfl, H.pick [1] (by decide)⟩
set_option maxHeartbeats 4000000 in
theorem F_ref0_Ink_Int_w (p0 : Orangeboxref0Ink) (p1 : Int) (b1 : Nat) (v2 : Value) (r : Orangeboxref0Ink) (hF : F_ref0_Ink_Int p0 p1 = some r) (O S : List Nat) (w : World) (H : Hd O w w S [.own (Rp.int .u8) v2 5 p0.out, .blk b1 [v2] 79, .fz (.at 3 0 ((Fl.arr 20 (Fl.int .u64)).f zJ))]) :
  Calls Tryz.prog 35 ([.pointer (some ⟨b1, 0, none⟩), .int .i64 p1] : List Value).toArray w fun e w' => ∃ u6, e = .returned (.tuple #[]) ∧ Hd O w w' S [.own (Rp.int .u8) u6 5 r.out, .blk b1 [u6] 79] := by
 unfold F_ref0_Ink_Int at hF
 refine yC 22 Tryz.func35 rfl rfl rfl ?_
 refine zC fun K7 hK7 => ?_
 refine zB ?_
 refine zN (.pointer (some ⟨b1, 0, none⟩)) ?_
 refine zN (.pointer (some ⟨b1, 0, none⟩)) ?_
 refine zH (yM rfl) ?_
 refine zH (fa79_0 rfl) ?_
 refine zH (zM one77 rfl (Cells.get (Blk.cells (H.item (i := 1) rfl)) (i := 0) rfl)) ?_
 refine zN (.int .i64 p1) ?_
 obtain ⟨x8, e9, hF⟩ := zD hF
 refine zW rfl rfl (zT en85 rfl) (F_strconv_AppendInt_w p0.out p1 10 v2 _ e9 _ _ _ (H.enter [0] [2] (by decide) rfl)) ?_
 rintro _ w12 ⟨v10, rfl, G13⟩
 have H : Hd O _ w12 _ [.blk b1 [v2] 79, .fz (.at 3 0 ((Fl.arr 20 (Fl.int .u64)).f zJ)), .own (Rp.int .u8) v10 5 x8] := H.back [0] [2] rfl G13
 refine ⟨_, rfl, ?_⟩
 refine zH (yM rfl) ?_
 refine zH (fa79_0 rfl) ?_
 refine yS rfl (xM H 0 rfl sz77 rfl (v := v10) rfl (xU (H.item (i := 2) rfl)) rfl) ?_
 rintro w14 H
 refine (zF (zA (hK7 _ _ ?_)))
 refine zB ?_
 refine zN (.pointer (some ⟨b1, 0, none⟩)) ?_
 refine zN (.pointer (some ⟨b1, 0, none⟩)) ?_
 refine zH (yM rfl) ?_
 refine zH (fa79_0 rfl) ?_
 refine zH (zM one77 rfl (Cells.get (Blk.cells (H.item (i := 0) rfl)) (i := 0) rfl)) ?_
 obtain ⟨x15, e16, hF⟩ := zG hF
 subst e16
 refine yT rfl rfl (Lx_bs (r := (Rp.int .u8)) (xl := [32]) (cs := [.int .u8 32]) u77 el5 (by decide) (by decide) rfl (xK (vs := [.int .u8 32]) (by decide) rfl rfl ⟨rfl, trivial⟩ rfl) H ⟨[.int .u8 32], [], rfl, rfl, rfl⟩) ?_
 rintro v18 w19 H
 obtain ⟨x20, e21, hF⟩ := zD hF
 refine yT rfl rfl (Lx_app H (i := 2) rfl u77 el5 rfl rfl (Sr.of_own (H.item (i := 3) rfl)) e21) ?_
 rintro v22 w23 H
 refine zH (yM rfl) ?_
 refine zH (fa79_0 rfl) ?_
 refine yS rfl (xM H 0 rfl sz77 rfl (v := v22) rfl (xU (H.item (i := 2) rfl)) rfl) ?_
 rintro w24 H
 obtain rfl := someI hF
 refine (zF (post0n rfl ?_))
 exact ⟨v22, rfl, H.pick [2, 0] (by decide)⟩
set_option maxHeartbeats 4000000 in
theorem F_ref0_Ink_Text_w (p0 : Orangeboxref0Ink) (p1 : Str) (b1 : Nat) (v2 : Value) (r : Orangeboxref0Ink) (hF : F_ref0_Ink_Text p0 p1 = some r) (O S : List Nat) (w : World) (H : Hd O w w S [.own (Rp.int .u8) v2 5 p0.out, .blk b1 [v2] 79, .fz (.at 3 0 ((Fl.arr 20 (Fl.int .u64)).f zJ))]) :
  Calls Tryz.prog 84 ([.pointer (some ⟨b1, 0, none⟩), .string (bs p1)] : List Value).toArray w fun e w' => ∃ u6, e = .returned (.tuple #[]) ∧ Hd O w w' S [.own (Rp.int .u8) u6 5 r.out, .blk b1 [u6] 79] := by
 unfold F_ref0_Ink_Text at hF
 refine yC 17 Tryz.func84 rfl rfl rfl ?_
 refine zC fun K7 hK7 => ?_
 refine zB ?_
 refine zN (.pointer (some ⟨b1, 0, none⟩)) ?_
 refine zN (.string (bs p1)) ?_
 obtain ⟨x8, e9, hF⟩ := zG hF
 refine zH (yL (Do_slen (s1 := p1) u9 rfl) (congrArg (Value.int .i64) e9)) ?_
 obtain ⟨x10, e11, hF⟩ := zD hF
 refine zW rfl rfl (zT en35 rfl) (F_ref0_Ink_Int_w p0 x8 b1 v2 _ e11 _ _ _ (H.enter [0, 1] [2] (by decide) rfl)) ?_
 rintro _ w14 ⟨v12, rfl, G15⟩
 have H : Hd O _ w14 _ [.fz (.at 3 0 ((Fl.arr 20 (Fl.int .u64)).f zJ)), .own (Rp.int .u8) v12 5 x10.out, .blk b1 [v12] 79] := H.back [0, 1] [2] rfl G15
 refine ⟨_, rfl, ?_⟩
 refine (zF (zA (hK7 _ _ ?_)))
 refine zB ?_
 refine zN (.pointer (some ⟨b1, 0, none⟩)) ?_
 refine zN (.pointer (some ⟨b1, 0, none⟩)) ?_
 refine zH (yM rfl) ?_
 refine zH (fa79_0 rfl) ?_
 refine zH (zM one77 rfl (Cells.get (Blk.cells (H.item (i := 2) rfl)) (i := 0) rfl)) ?_
 refine zN (.string (bs p1)) ?_
 obtain ⟨x16, e17, hF⟩ := zD hF
 refine yT rfl rfl (Lx_appstr H (i := 1) rfl u77 u9 z8_5 rfl rfl e17) ?_
 rintro v18 w19 H
 refine zH (yM rfl) ?_
 refine zH (fa79_0 rfl) ?_
 refine yS rfl (xM H 2 rfl sz77 rfl (v := v18) rfl (xU (H.item (i := 1) rfl)) rfl) ?_
 rintro w20 H
 obtain rfl := someI hF
 refine (zF (post0n rfl ?_))
 exact ⟨v18, rfl, H.pick [1, 2] (by decide)⟩
set_option maxHeartbeats 4000000 in
theorem F_ref0_Ink_Texts_w (p0 : Orangeboxref0Ink) (p1 : List Str) (b1 : Nat) (v2 : Value) (v5 : Value) (r : Orangeboxref0Ink) (hF : F_ref0_Ink_Texts p0 p1 = some r) (O S : List Nat) (w : World) (H : Hd O w w S [.own (Rp.int .u8) v2 5 p0.out, .blk b1 [v2] 79, .fz (.sl Rp.str v5 p1), .fz (.at 3 0 ((Fl.arr 20 (Fl.int .u64)).f zJ))]) :
  Calls Tryz.prog 83 ([.pointer (some ⟨b1, 0, none⟩), v5] : List Value).toArray w fun e w' => ∃ u8, e = .returned (.tuple #[]) ∧ Hd O w w' S [.own (Rp.int .u8) u8 5 r.out, .blk b1 [u8] 79] := by
 unfold F_ref0_Ink_Texts at hF
 refine yC 21 Tryz.func83 rfl rfl rfl ?_
 refine zC fun K9 hK9 => ?_
 refine zB ?_
 refine zN (.pointer (some ⟨b1, 0, none⟩)) ?_
 refine zN v5 ?_
 obtain ⟨x10, e11, hF⟩ := zG hF
 obtain ⟨a12, c13, q14⟩ := SlF.len ((H.item (i := 2) rfl))
 refine zH (yL (xW u22 q14) (congrArg (Value.int .i64) e11)) ?_
 obtain ⟨x15, e16, hF⟩ := zD hF
 refine zW rfl rfl (zT en35 rfl) (F_ref0_Ink_Int_w p0 x10 b1 v2 _ e16 _ _ _ (H.enter [0, 1] [3] (by decide) rfl)) ?_
 rintro _ w19 ⟨v17, rfl, G20⟩
 have H : Hd O _ w19 _ [.fz (.sl Rp.str v5 p1), .fz (.at 3 0 ((Fl.arr 20 (Fl.int .u64)).f zJ)), .own (Rp.int .u8) v17 5 x15.out, .blk b1 [v17] 79] := H.back [0, 1] [3] rfl G20
 refine ⟨_, rfl, ?_⟩
 refine (zF (zA (hK9 _ _ ?_)))
 refine zC fun K21 hK21 => ?_
 refine zB ?_
 refine zI (.int .i64 0) ?_
 refine (zF (zA (hK21 _ _ ?_)))
 refine yF ?_
 unfold F_ref0_Ink_Texts_L1 at hF
 obtain ⟨B146, n147, eB148, hF⟩ := yV hF
 refine xJ [4, 9, 10, 11, 12, 13, 14, 15, 16, 17, 18, 19, 20] (fun (g : Nat × Int × (List Int) × Value) => [(4, .int .i64 g.2.1)]) (fun g wl => Hd O w wl S [.fz (.sl Rp.str v5 p1), .fz (.at 3 0 ((Fl.arr 20 (Fl.int .u64)).f zJ)), .blk b1 [g.2.2.2] 79, .own (Rp.int .u8) g.2.2.2 5 g.2.2.1] ∧ loopN B146 g.1 (g.2.1, g.2.2.1) = some r) (fun g => g.1) (n147, 0, x15.out, v17) (zL rfl zO) ⟨H.pick [0, 1, 3, 2] (by decide), hF⟩ ?_
 clear H hF
 rintro ⟨n147, g142, g144, v145⟩ ρ w150 ⟨H, hF⟩
 obtain ⟨n151, rfl, hF⟩ := xB hF
 have hF := yZ eB148 hF
 refine zC fun K161 hK161 => ?_
 refine zC fun K162 hK162 => ?_
 refine zB ?_
 refine zN (.int .i64 g142) ?_
 refine zN v5 ?_
 obtain ⟨x163, e164, hF⟩ := zG hF
 obtain ⟨a165, c166, q167⟩ := SlF.len ((H.item (i := 0) rfl))
 refine zH (yL (xW u22 q167) (congrArg (Value.int .i64) e164)) ?_
 obtain ⟨x168, e169, hF⟩ := zG hF
 refine zH (zV (xQ (a := g142) (b := x163) rfl rfl) e169) ?_
 refine (zF (zA (hK162 _ _ ?_)))
 refine zZ (b := x168) rfl (fun c170 => ?_) (fun c170 => ?_)
 ·have hF := zQ c170 hF
  refine (yA (zA (hK161 _ _ ?_)))
  refine zC fun K189 hK189 => ?_
  refine yF ?_
  refine zB ?_
  refine zN (.pointer (some ⟨b1, 0, none⟩)) ?_
  refine zN v5 ?_
  refine zN (.int .i64 g142) ?_
  obtain ⟨x190, e191, hF⟩ := zD hF
  obtain ⟨b192, o193, c194, cs195, q196, h199, h197, h198, h200⟩ := wQ (H.item (i := 0) rfl) e191
  obtain rfl : cs195 = [.string (bs x190)] := h199
  have H := H.fz (.at b192 (o193 + g142.toNat * 1) _) ⟨h197, h198, h200⟩
  refine zH (xY u22 sz9 q196 rfl (yN e191).1 (yN e191).2.1 rfl rfl) ?_
  refine zH (zM one9 rfl (Cells.get (H.item (i := 4) rfl).2.2 (i := 0) rfl)) ?_
  obtain ⟨x202, e203, hF⟩ := zD hF
  refine zW rfl rfl (zT en84 rfl) (F_ref0_Ink_Text_w (Orangeboxref0Ink.mk g144) x190 b1 v145 _ e203 _ _ _ (H.enter [3, 2] [1] (by decide) rfl)) ?_
  rintro _ w206 ⟨v204, rfl, G207⟩
  have H : Hd O _ w206 _ [.fz (.sl Rp.str v5 p1), .fz (.at 3 0 ((Fl.arr 20 (Fl.int .u64)).f zJ)), .fz (.at b192 (o193 + g142.toNat * 1) [.string (bs x190)]), .own (Rp.int .u8) v204 5 x202.out, .blk b1 [v204] 79] := H.back [3, 2] [1] rfl G207
  refine ⟨_, rfl, ?_⟩
  refine (zF (yU (zA (hK189 _ _ ?_))))
  refine zB ?_
  refine zN (.int .i64 g142) ?_
  obtain ⟨x208, e209, hF⟩ := zG hF
  refine zH (xX (a := g142) (b := 1) rfl rfl e209) ?_
  refine zI (.int .i64 x208) ?_
  exact (zF (zA (meet ⟨(n151, x208, x202.out, v204), (zL rfl zO), ⟨H.pick [0, 1, 4, 3] (by decide), hF⟩, Nat.lt_succ_self _⟩)))
 have hF := zS c170 hF
 obtain rfl := someI hF
 refine (xP (yR (yR (xA (post0n rfl ?_)))))
 exact ⟨v145, rfl, H.pick [3, 2] (by decide)⟩
set_option maxHeartbeats 4000000 in
theorem F_ref0_Ink_Ints_w (p0 : Orangeboxref0Ink) (p1 : List Int) (b1 : Nat) (v2 : Value) (v5 : Value) (r : Orangeboxref0Ink) (hF : F_ref0_Ink_Ints p0 p1 = some r) (O S : List Nat) (w : World) (H : Hd O w w S [.own (Rp.int .u8) v2 5 p0.out, .blk b1 [v2] 79, .fz (.sl (Rp.int .i64) v5 p1), .fz (.at 3 0 ((Fl.arr 20 (Fl.int .u64)).f zJ))]) :
  Calls Tryz.prog 106 ([.pointer (some ⟨b1, 0, none⟩), v5] : List Value).toArray w fun e w' => ∃ u8, e = .returned (.tuple #[]) ∧ Hd O w w' S [.own (Rp.int .u8) u8 5 r.out, .blk b1 [u8] 79] := by
 unfold F_ref0_Ink_Ints at hF
 refine yC 21 Tryz.func106 rfl rfl rfl ?_
 refine zC fun K9 hK9 => ?_
 refine zB ?_
 refine zN (.pointer (some ⟨b1, 0, none⟩)) ?_
 refine zN v5 ?_
 obtain ⟨x10, e11, hF⟩ := zG hF
 obtain ⟨a12, c13, q14⟩ := SlF.len ((H.item (i := 2) rfl))
 refine zH (yL (xW u38 q14) (congrArg (Value.int .i64) e11)) ?_
 obtain ⟨x15, e16, hF⟩ := zD hF
 refine zW rfl rfl (zT en35 rfl) (F_ref0_Ink_Int_w p0 x10 b1 v2 _ e16 _ _ _ (H.enter [0, 1] [3] (by decide) rfl)) ?_
 rintro _ w19 ⟨v17, rfl, G20⟩
 have H : Hd O _ w19 _ [.fz (.sl (Rp.int .i64) v5 p1), .fz (.at 3 0 ((Fl.arr 20 (Fl.int .u64)).f zJ)), .own (Rp.int .u8) v17 5 x15.out, .blk b1 [v17] 79] := H.back [0, 1] [3] rfl G20
 refine ⟨_, rfl, ?_⟩
 refine (zF (zA (hK9 _ _ ?_)))
 refine zC fun K21 hK21 => ?_
 refine zB ?_
 refine zI (.int .i64 0) ?_
 refine (zF (zA (hK21 _ _ ?_)))
 refine yF ?_
 unfold F_ref0_Ink_Ints_L1 at hF
 obtain ⟨B146, n147, eB148, hF⟩ := yV hF
 refine xJ [4, 9, 10, 11, 12, 13, 14, 15, 16, 17, 18, 19, 20] (fun (g : Nat × Int × (List Int) × Value) => [(4, .int .i64 g.2.1)]) (fun g wl => Hd O w wl S [.fz (.sl (Rp.int .i64) v5 p1), .fz (.at 3 0 ((Fl.arr 20 (Fl.int .u64)).f zJ)), .blk b1 [g.2.2.2] 79, .own (Rp.int .u8) g.2.2.2 5 g.2.2.1] ∧ loopN B146 g.1 (g.2.1, g.2.2.1) = some r) (fun g => g.1) (n147, 0, x15.out, v17) (zL rfl zO) ⟨H.pick [0, 1, 3, 2] (by decide), hF⟩ ?_
 clear H hF
 rintro ⟨n147, g142, g144, v145⟩ ρ w150 ⟨H, hF⟩
 obtain ⟨n151, rfl, hF⟩ := xB hF
 have hF := yZ eB148 hF
 refine zC fun K161 hK161 => ?_
 refine zC fun K162 hK162 => ?_
 refine zB ?_
 refine zN (.int .i64 g142) ?_
 refine zN v5 ?_
 obtain ⟨x163, e164, hF⟩ := zG hF
 obtain ⟨a165, c166, q167⟩ := SlF.len ((H.item (i := 0) rfl))
 refine zH (yL (xW u38 q167) (congrArg (Value.int .i64) e164)) ?_
 obtain ⟨x168, e169, hF⟩ := zG hF
 refine zH (zV (xQ (a := g142) (b := x163) rfl rfl) e169) ?_
 refine (zF (zA (hK162 _ _ ?_)))
 refine zZ (b := x168) rfl (fun c170 => ?_) (fun c170 => ?_)
 ·have hF := zQ c170 hF
  refine (yA (zA (hK161 _ _ ?_)))
  refine zC fun K189 hK189 => ?_
  refine yF ?_
  refine zB ?_
  refine zN (.pointer (some ⟨b1, 0, none⟩)) ?_
  refine zN v5 ?_
  refine zN (.int .i64 g142) ?_
  obtain ⟨x190, e191, hF⟩ := zD hF
  obtain ⟨b192, o193, c194, cs195, q196, h199, h197, h198, h200⟩ := wQ (H.item (i := 0) rfl) e191
  obtain rfl : cs195 = [.int .i64 x190] := h199
  have H := H.fz (.at b192 (o193 + g142.toNat * 1) _) ⟨h197, h198, h200⟩
  refine zH (xY u38 sz3 q196 rfl (yN e191).1 (yN e191).2.1 rfl rfl) ?_
  refine zH (zM one3 rfl (Cells.get (H.item (i := 4) rfl).2.2 (i := 0) rfl)) ?_
  obtain ⟨x202, e203, hF⟩ := zD hF
  refine zW rfl rfl (zT en35 rfl) (F_ref0_Ink_Int_w (Orangeboxref0Ink.mk g144) x190 b1 v145 _ e203 _ _ _ (H.enter [3, 2] [1] (by decide) rfl)) ?_
  rintro _ w206 ⟨v204, rfl, G207⟩
  have H : Hd O _ w206 _ [.fz (.sl (Rp.int .i64) v5 p1), .fz (.at 3 0 ((Fl.arr 20 (Fl.int .u64)).f zJ)), .fz (.at b192 (o193 + g142.toNat * 1) [.int .i64 x190]), .own (Rp.int .u8) v204 5 x202.out, .blk b1 [v204] 79] := H.back [3, 2] [1] rfl G207
  refine ⟨_, rfl, ?_⟩
  refine (zF (yU (zA (hK189 _ _ ?_))))
  refine zB ?_
  refine zN (.int .i64 g142) ?_
  obtain ⟨x208, e209, hF⟩ := zG hF
  refine zH (xX (a := g142) (b := 1) rfl rfl e209) ?_
  refine zI (.int .i64 x208) ?_
  exact (zF (zA (meet ⟨(n151, x208, x202.out, v204), (zL rfl zO), ⟨H.pick [0, 1, 4, 3] (by decide), hF⟩, Nat.lt_succ_self _⟩)))
 have hF := zS c170 hF
 obtain rfl := someI hF
 refine (xP (yR (yR (xA (post0n rfl ?_)))))
 exact ⟨v145, rfl, H.pick [3, 2] (by decide)⟩
abbrev S_ref0_Ink_Cond (f : Orangeboxref0Ink → Cond → Option Orangeboxref0Ink) : Prop := ∀ (p0 : Orangeboxref0Ink) (p1 : Cond) (b1 : Nat) (v2 : Value) (v5 : Value) (r : Orangeboxref0Ink) (hF : f p0 p1 = some r) (O S : List Nat) (w : World) (H : Hd O w w S [.own (Rp.int .u8) v2 5 p0.out, .blk b1 [v2] 79, .fz (.sl rCond v5 p1.Kids), .fz (.at 3 0 ((Fl.arr 20 (Fl.int .u64)).f zJ))]),
  Calls Tryz.prog 55 ([.pointer (some ⟨b1, 0, none⟩), .agg [.int .i64 p1.Kind, .string (bs p1.Name), .string (bs p1.Other), .int .i64 p1.Op, .int .i64 p1.N, .int .i64 p1.Frames, v5].toArray] : List Value).toArray w fun e w' => ∃ u8, e = .returned (.tuple #[]) ∧ Hd O w w' S [.own (Rp.int .u8) u8 5 r.out, .blk b1 [u8] 79]
set_option maxHeartbeats 4000000 in
theorem F_ref0_Ink_Cond_B_w (rfN : Orangeboxref0Ink → Cond → Option Orangeboxref0Ink) (rhN : S_ref0_Ink_Cond rfN) (p0 : Orangeboxref0Ink) (p1 : Cond) (b1 : Nat) (v2 : Value) (v5 : Value) (r : Orangeboxref0Ink) (hF : F_ref0_Ink_Cond_B rfN p0 p1 = some r) (O S : List Nat) (w : World) (H : Hd O w w S [.own (Rp.int .u8) v2 5 p0.out, .blk b1 [v2] 79, .fz (.sl rCond v5 p1.Kids), .fz (.at 3 0 ((Fl.arr 20 (Fl.int .u64)).f zJ))]) :
  Calls Tryz.prog 55 ([.pointer (some ⟨b1, 0, none⟩), .agg [.int .i64 p1.Kind, .string (bs p1.Name), .string (bs p1.Other), .int .i64 p1.Op, .int .i64 p1.N, .int .i64 p1.Frames, v5].toArray] : List Value).toArray w fun e w' => ∃ u8, e = .returned (.tuple #[]) ∧ Hd O w w' S [.own (Rp.int .u8) u8 5 r.out, .blk b1 [u8] 79] := by
 unfold F_ref0_Ink_Cond_B at hF
 refine yC 40 Tryz.func55 rfl rfl rfl ?_
 refine zC fun K9 hK9 => ?_
 refine zB ?_
 refine yT rfl rfl (wL (cs := [.int .i64 p1.Kind, .string (bs p1.Name), .string (bs p1.Other), .int .i64 p1.Op, .int .i64 p1.N, .int .i64 p1.Frames, v5]) rfl H) ?_
 rintro _ w12 ⟨b10, rfl, H⟩
 refine (zF (zA (hK9 _ _ ?_)))
 refine zC fun K13 hK13 => ?_
 refine zB ?_
 refine zN (.pointer (some ⟨b1, 0, none⟩)) ?_
 refine zH (fa54_0 rfl) ?_
 refine zH (zM one3 rfl (Cells.get (Blk.cells (H.item (i := 4) rfl)) (i := 0) rfl)) ?_
 refine zH (fa54_3 rfl) ?_
 refine zH (zM one3 rfl (Cells.get (Blk.cells (H.item (i := 4) rfl)) (i := 3) rfl)) ?_
 refine zH (fa54_4 rfl) ?_
 refine zH (zM one3 rfl (Cells.get (Blk.cells (H.item (i := 4) rfl)) (i := 4) rfl)) ?_
 refine zH (fa54_5 rfl) ?_
 refine zH (zM one3 rfl (Cells.get (Blk.cells (H.item (i := 4) rfl)) (i := 5) rfl)) ?_
 refine zH (fa54_6 rfl) ?_
 refine zH (zM one52 rfl (Cells.get (Blk.cells (H.item (i := 4) rfl)) (i := 6) rfl)) ?_
 obtain ⟨x14, e15, hF⟩ := zG hF
 obtain ⟨a16, c17, q18⟩ := SlF.len ((H.item (i := 2) rfl))
 refine zH (yL (xW u52 q18) (congrArg (Value.int .i64) e15)) ?_
 obtain ⟨x19, e20, hF⟩ := zG hF
 subst e20
 refine yT rfl rfl (Lx_bs (r := (Rp.int .i64)) (xl := [p1.Kind, p1.Op, p1.N, p1.Frames, x14]) (cs := [.int .i64 p1.Kind, .int .i64 p1.Op, .int .i64 p1.N, .int .i64 p1.Frames, .int .i64 x14]) u38 el3 (by decide) (by decide) rfl (xK (vs := [.int .i64 p1.Kind, .int .i64 p1.Op, .int .i64 p1.N, .int .i64 p1.Frames, .int .i64 x14]) (by decide) rfl rfl ⟨rfl, rfl, rfl, rfl, rfl, trivial⟩ rfl) H ⟨[.int .i64 p1.Kind], [.int .i64 p1.Op, .int .i64 p1.N, .int .i64 p1.Frames, .int .i64 x14], rfl, rfl, ⟨[.int .i64 p1.Op], [.int .i64 p1.N, .int .i64 p1.Frames, .int .i64 x14], rfl, rfl, ⟨[.int .i64 p1.N], [.int .i64 p1.Frames, .int .i64 x14], rfl, rfl, ⟨[.int .i64 p1.Frames], [.int .i64 x14], rfl, rfl, ⟨[.int .i64 x14], [], rfl, rfl, rfl⟩⟩⟩⟩⟩) ?_
 rintro v22 w23 H
 have H := H.freeze (i := 5) rfl
 obtain ⟨x24, e25, hF⟩ := zD hF
 refine zW rfl rfl (zT en106 rfl) (F_ref0_Ink_Ints_w p0 ([p1.Kind, p1.Op, p1.N, p1.Frames, x14] : List Int) b1 v2 v22 _ e25 _ _ _ (H.enter [0, 1] [5, 3] (by decide) rfl)) ?_
 rintro _ w28 ⟨v26, rfl, G29⟩
 have H : Hd O _ w28 _ [.fz (.sl rCond v5 p1.Kids), .fz (.at 3 0 ((Fl.arr 20 (Fl.int .u64)).f zJ)), .blk b10 [.int .i64 p1.Kind, .string (bs p1.Name), .string (bs p1.Other), .int .i64 p1.Op, .int .i64 p1.N, .int .i64 p1.Frames, v5] 54, .fz (.sl (Rp.int .i64) v22 ([p1.Kind, p1.Op, p1.N, p1.Frames, x14] : List Int)), .own (Rp.int .u8) v26 5 x24.out, .blk b1 [v26] 79] := H.back [0, 1] [5, 3] rfl G29
 refine ⟨_, rfl, ?_⟩
 refine (zF (zA (hK13 _ _ ?_)))
 refine zC fun K30 hK30 => ?_
 refine zB ?_
 refine zN (.pointer (some ⟨b1, 0, none⟩)) ?_
 refine zH (fa54_1 rfl) ?_
 refine zH (zM one9 rfl (Cells.get (Blk.cells (H.item (i := 2) rfl)) (i := 1) rfl)) ?_
 refine zH (fa54_2 rfl) ?_
 refine zH (zM one9 rfl (Cells.get (Blk.cells (H.item (i := 2) rfl)) (i := 2) rfl)) ?_
 obtain ⟨x31, e32, hF⟩ := zG hF
 subst e32
 refine yT rfl rfl (Lx_bs (r := Rp.str) (xl := [p1.Name, p1.Other]) (cs := [.string (bs p1.Name), .string (bs p1.Other)]) u22 el9 (by decide) (by decide) rfl (xK (vs := [.string (bs p1.Name), .string (bs p1.Other)]) (by decide) rfl rfl ⟨rfl, rfl, trivial⟩ rfl) H ⟨[.string (bs p1.Name)], [.string (bs p1.Other)], rfl, rfl, ⟨[.string (bs p1.Other)], [], rfl, rfl, rfl⟩⟩) ?_
 rintro v34 w35 H
 have H := H.freeze (i := 6) rfl
 obtain ⟨x36, e37, hF⟩ := zD hF
 refine zW rfl rfl (zT en83 rfl) (F_ref0_Ink_Texts_w x24 ([p1.Name, p1.Other] : List Str) b1 v26 v34 _ e37 _ _ _ (H.enter [4, 5] [6, 1] (by decide) rfl)) ?_
 rintro _ w40 ⟨v38, rfl, G41⟩
 have H : Hd O _ w40 _ [.fz (.sl rCond v5 p1.Kids), .fz (.at 3 0 ((Fl.arr 20 (Fl.int .u64)).f zJ)), .blk b10 [.int .i64 p1.Kind, .string (bs p1.Name), .string (bs p1.Other), .int .i64 p1.Op, .int .i64 p1.N, .int .i64 p1.Frames, v5] 54, .fz (.sl (Rp.int .i64) v22 ([p1.Kind, p1.Op, p1.N, p1.Frames, x14] : List Int)), .fz (.sl Rp.str v34 ([p1.Name, p1.Other] : List Str)), .own (Rp.int .u8) v38 5 x36.out, .blk b1 [v38] 79] := H.back [4, 5] [6, 1] rfl G41
 refine ⟨_, rfl, ?_⟩
 refine (zF (zA (hK30 _ _ ?_)))
 refine zC fun K42 hK42 => ?_
 refine zB ?_
 refine zI (.int .i64 0) ?_
 refine (zF (zA (hK42 _ _ ?_)))
 refine yF ?_
 unfold F_ref0_Ink_Cond_B_L1 at hF
 obtain ⟨B179, n180, eB181, hF⟩ := yV hF
 refine xJ [4, 26, 27, 28, 29, 30, 31, 32, 33, 34, 35, 36, 37, 38, 39] (fun (g : Nat × Int × (List Int) × Value) => [(4, .int .i64 g.2.1)]) (fun g wl => Hd O w wl S [.fz (.sl rCond v5 p1.Kids), .fz (.at 3 0 ((Fl.arr 20 (Fl.int .u64)).f zJ)), .blk b10 [.int .i64 p1.Kind, .string (bs p1.Name), .string (bs p1.Other), .int .i64 p1.Op, .int .i64 p1.N, .int .i64 p1.Frames, v5] 54, .blk b1 [g.2.2.2] 79, .own (Rp.int .u8) g.2.2.2 5 g.2.2.1] ∧ loopN B179 g.1 (g.2.1, g.2.2.1) = some r) (fun g => g.1) (n180, 0, x36.out, v38) (zL rfl zO) ⟨H.pick [0, 1, 2, 6, 5] (by decide), hF⟩ ?_
 clear H hF
 rintro ⟨n180, g175, g177, v178⟩ ρ w183 ⟨H, hF⟩
 obtain ⟨n184, rfl, hF⟩ := xB hF
 have hF := yZ eB181 hF
 refine zC fun K194 hK194 => ?_
 refine zC fun K195 hK195 => ?_
 refine zB ?_
 refine zN (.int .i64 g175) ?_
 refine zH (fa54_6 rfl) ?_
 refine zH (zM one52 rfl (Cells.get (Blk.cells (H.item (i := 2) rfl)) (i := 6) rfl)) ?_
 obtain ⟨x196, e197, hF⟩ := zG hF
 obtain ⟨a198, c199, q200⟩ := SlF.len ((H.item (i := 0) rfl))
 refine zH (yL (xW u52 q200) (congrArg (Value.int .i64) e197)) ?_
 obtain ⟨x201, e202, hF⟩ := zG hF
 refine zH (zV (xQ (a := g175) (b := x196) rfl rfl) e202) ?_
 refine (zF (zA (hK195 _ _ ?_)))
 refine zZ (b := x201) rfl (fun c203 => ?_) (fun c203 => ?_)
 ·have hF := zQ c203 hF
  refine (yA (zA (hK194 _ _ ?_)))
  refine zC fun K225 hK225 => ?_
  refine yF ?_
  refine zB ?_
  refine zN (.pointer (some ⟨b1, 0, none⟩)) ?_
  refine zH (fa54_6 rfl) ?_
  refine zH (zM one52 rfl (Cells.get (Blk.cells (H.item (i := 2) rfl)) (i := 6) rfl)) ?_
  refine zN (.int .i64 g175) ?_
  obtain ⟨x226, e227, hF⟩ := zD hF
  obtain ⟨b228, o229, c230, cs231, q232, h235, h233, h234, h236⟩ := wQ (H.item (i := 0) rfl) e227
  obtain ⟨v237, rfl, h238⟩ := wK h235
  have H := H.fzs [.at b228 (o229 + g175.toNat * 7) _, .sl rCond v237 x226.Kids] ⟨⟨h233, h234, h236⟩, h238, trivial⟩
  refine zH (xY u52 sz54 q232 rfl (yN e227).1 (yN e227).2.1 rfl rfl) ?_
  refine zH (yL (yH (cs := [.int .i64 x226.Kind, .string (bs x226.Name), .string (bs x226.Other), .int .i64 x226.Op, .int .i64 x226.N, .int .i64 x226.Frames, v237]) agg54 rfl sz54 rfl (H.item (i := 5) rfl).2.2) rfl) ?_
  obtain ⟨x241, e242, hF⟩ := zD hF
  refine zW rfl rfl (zT en55 rfl) (rhN (Orangeboxref0Ink.mk g177) x226 b1 v178 v237 _ e242 _ _ _ (H.enter [4, 3] [6, 1] (by decide) rfl)) ?_
  rintro _ w245 ⟨v243, rfl, G246⟩
  have H : Hd O _ w245 _ [.fz (.sl rCond v5 p1.Kids), .fz (.at 3 0 ((Fl.arr 20 (Fl.int .u64)).f zJ)), .blk b10 [.int .i64 p1.Kind, .string (bs p1.Name), .string (bs p1.Other), .int .i64 p1.Op, .int .i64 p1.N, .int .i64 p1.Frames, v5] 54, .fz (.at b228 (o229 + g175.toNat * 7) [.int .i64 x226.Kind, .string (bs x226.Name), .string (bs x226.Other), .int .i64 x226.Op, .int .i64 x226.N, .int .i64 x226.Frames, v237]), .fz (.sl rCond v237 x226.Kids), .own (Rp.int .u8) v243 5 x241.out, .blk b1 [v243] 79] := H.back [4, 3] [6, 1] rfl G246
  refine ⟨_, rfl, ?_⟩
  refine (zF (yU (zA (hK225 _ _ ?_))))
  refine zB ?_
  refine zN (.int .i64 g175) ?_
  obtain ⟨x247, e248, hF⟩ := zG hF
  refine zH (xX (a := g175) (b := 1) rfl rfl e248) ?_
  refine zI (.int .i64 x247) ?_
  exact (zF (zA (meet ⟨(n184, x247, x241.out, v243), (zL rfl zO), ⟨H.pick [0, 1, 2, 6, 5] (by decide), hF⟩, Nat.lt_succ_self _⟩)))
 have hF := zS c203 hF
 obtain rfl := someI hF
 refine (xP (yR (yR (xA (post0n rfl ?_)))))
 exact ⟨v178, rfl, H.pick [4, 3] (by decide)⟩
theorem F_ref0_Ink_Cond_s : S_ref0_Ink_Cond (F_ref0_Ink_Cond) := by
 have h : ∀ n, S_ref0_Ink_Cond (F_ref0_Ink_Cond_R n) := by
  intro n
  induction n with
  | zero => intro p0 p1 b1 v2 v5 r hF; cases hF
  | succ n ih => intro p0 p1 b1 v2 v5 r hF; exact F_ref0_Ink_Cond_B_w (F_ref0_Ink_Cond_R n) ih p0 p1 b1 v2 v5 r hF
 exact h FU
set_option maxHeartbeats 4000000 in
theorem F_ref0_Ink_Rules_w (p0 : Orangeboxref0Ink) (p1 : Rules) (b1 : Nat) (v2 : Value) (v5 : Value) (v6 : Value) (v7 : Value) (r : Orangeboxref0Ink) (hF : F_ref0_Ink_Rules p0 p1 = some r) (O S : List Nat) (w : World) (H : Hd O w w S [.own (Rp.int .u8) v2 5 p0.out, .blk b1 [v2] 79, .fz (.sl Rp.str v5 p1.Phases), .fz (.sl rMoveT v6 p1.Moves), .fz (.sl rRule v7 p1.Rules), .fz (.at 3 0 ((Fl.arr 20 (Fl.int .u64)).f zJ))]) :
  Calls Tryz.prog 34 ([.pointer (some ⟨b1, 0, none⟩), .agg [v5, v6, v7].toArray] : List Value).toArray w fun e w' => ∃ u12, e = .returned (.tuple #[]) ∧ Hd O w w' S [.own (Rp.int .u8) u12 5 r.out, .blk b1 [u12] 79] := by
 unfold F_ref0_Ink_Rules at hF
 refine yC 73 Tryz.func34 rfl rfl rfl ?_
 refine zC fun K13 hK13 => ?_
 refine zB ?_
 refine yT rfl rfl (wL (cs := [v5, v6, v7]) rfl H) ?_
 rintro _ w16 ⟨b14, rfl, H⟩
 refine (zF (zA (hK13 _ _ ?_)))
 refine zC fun K17 hK17 => ?_
 refine zB ?_
 refine zN (.pointer (some ⟨b1, 0, none⟩)) ?_
 refine zH (fa26_0 rfl) ?_
 refine zH (zM one22 rfl (Cells.get (Blk.cells (H.item (i := 6) rfl)) (i := 0) rfl)) ?_
 obtain ⟨x18, e19, hF⟩ := zD hF
 refine zW rfl rfl (zT en83 rfl) (F_ref0_Ink_Texts_w p0 p1.Phases b1 v2 v5 _ e19 _ _ _ (H.enter [0, 1] [2, 5] (by decide) rfl)) ?_
 rintro _ w22 ⟨v20, rfl, G23⟩
 have H : Hd O _ w22 _ [.fz (.sl Rp.str v5 p1.Phases), .fz (.sl rMoveT v6 p1.Moves), .fz (.sl rRule v7 p1.Rules), .fz (.at 3 0 ((Fl.arr 20 (Fl.int .u64)).f zJ)), .blk b14 [v5, v6, v7] 26, .own (Rp.int .u8) v20 5 x18.out, .blk b1 [v20] 79] := H.back [0, 1] [2, 5] rfl G23
 refine ⟨_, rfl, ?_⟩
 refine (zF (zA (hK17 _ _ ?_)))
 refine zC fun K24 hK24 => ?_
 refine zB ?_
 refine zN (.pointer (some ⟨b1, 0, none⟩)) ?_
 refine zH (fa26_1 rfl) ?_
 refine zH (zM one23 rfl (Cells.get (Blk.cells (H.item (i := 4) rfl)) (i := 1) rfl)) ?_
 obtain ⟨x25, e26, hF⟩ := zG hF
 obtain ⟨a27, c28, q29⟩ := SlF.len ((H.item (i := 1) rfl))
 refine zH (yL (xW u23 q29) (congrArg (Value.int .i64) e26)) ?_
 obtain ⟨x30, e31, hF⟩ := zD hF
 refine zW rfl rfl (zT en35 rfl) (F_ref0_Ink_Int_w x18 x25 b1 v20 _ e31 _ _ _ (H.enter [5, 6] [3] (by decide) rfl)) ?_
 rintro _ w34 ⟨v32, rfl, G35⟩
 have H : Hd O _ w34 _ [.fz (.sl Rp.str v5 p1.Phases), .fz (.sl rMoveT v6 p1.Moves), .fz (.sl rRule v7 p1.Rules), .fz (.at 3 0 ((Fl.arr 20 (Fl.int .u64)).f zJ)), .blk b14 [v5, v6, v7] 26, .own (Rp.int .u8) v32 5 x30.out, .blk b1 [v32] 79] := H.back [5, 6] [3] rfl G35
 refine ⟨_, rfl, ?_⟩
 refine (zF (zA (hK24 _ _ ?_)))
 obtain ⟨g356, hF, hK359⟩ := zD hF
 refine yO [4, 15, 16, 17, 18, 19, 20, 21, 22, 23, 24, 25, 26, 27, 28, 29, 30, 31, 32, 33, 34, 35, 36, 37, 38, 39, 40, 41, 42, 43, 44] (fun (g : Value) => []) (fun g wl => Hd O w wl S [.fz (.sl Rp.str v5 p1.Phases), .fz (.sl rMoveT v6 p1.Moves), .fz (.sl rRule v7 p1.Rules), .fz (.at 3 0 ((Fl.arr 20 (Fl.int .u64)).f zJ)), .blk b14 [v5, v6, v7] 26, .blk b1 [g] 79, .own (Rp.int .u8) g 5 g356]) ?_ ?_
 ·skip
  refine zC fun K360 hK360 => ?_
  refine zB ?_
  refine zI (.int .i64 0) ?_
  refine (zF (zA (hK360 _ _ ?_)))
  refine yF ?_
  unfold F_ref0_Ink_Rules_L1 at hF
  obtain ⟨B677, n678, eB679, hF⟩ := yV hF
  refine xJ [4, 15, 16, 17, 18, 19, 20, 21, 22, 23, 24, 25, 26, 27, 28, 29, 30, 31, 32, 33, 34, 35, 36, 37, 38, 39, 40, 41, 42, 43, 44] (fun (g : Nat × Int × (List Int) × Value) => [(4, .int .i64 g.2.1)]) (fun g wl => Hd O w wl S [.fz (.sl Rp.str v5 p1.Phases), .fz (.sl rMoveT v6 p1.Moves), .fz (.sl rRule v7 p1.Rules), .fz (.at 3 0 ((Fl.arr 20 (Fl.int .u64)).f zJ)), .blk b14 [v5, v6, v7] 26, .blk b1 [g.2.2.2] 79, .own (Rp.int .u8) g.2.2.2 5 g.2.2.1] ∧ loopN B677 g.1 (g.2.1, g.2.2.1) = some g356) (fun g => g.1) (n678, 0, x30.out, v32) (zL rfl zO) ⟨H.pick [0, 1, 2, 3, 4, 6, 5] (by decide), hF⟩ ?_
  clear H hF
  rintro ⟨n678, g673, g675, v676⟩ ρ w681 ⟨H, hF⟩
  obtain ⟨n682, rfl, hF⟩ := xB hF
  have hF := yZ eB679 hF
  refine zC fun K692 hK692 => ?_
  refine zC fun K693 hK693 => ?_
  refine zB ?_
  refine zN (.int .i64 g673) ?_
  refine zH (fa26_1 rfl) ?_
  refine zH (zM one23 rfl (Cells.get (Blk.cells (H.item (i := 4) rfl)) (i := 1) rfl)) ?_
  obtain ⟨x694, e695, hF⟩ := zG hF
  obtain ⟨a696, c697, q698⟩ := SlF.len ((H.item (i := 1) rfl))
  refine zH (yL (xW u23 q698) (congrArg (Value.int .i64) e695)) ?_
  obtain ⟨x699, e700, hF⟩ := zG hF
  refine zH (zV (xQ (a := g673) (b := x694) rfl rfl) e700) ?_
  refine (zF (zA (hK693 _ _ ?_)))
  refine zZ (b := x699) rfl (fun c701 => ?_) (fun c701 => ?_)
  ·have hF := zQ c701 hF
   refine (yA (zA (hK692 _ _ ?_)))
   refine zC fun K768 hK768 => ?_
   refine yF ?_
   refine zC fun K769 hK769 => ?_
   have H770 := H
   have H := H.rebase
   have H771 := H
   refine WP_mix0 H [0, 1, 2, 3, 4, 5, 6, 7, 8, 9, 10, 11, 12, 13, 14] [.pure, .pure, .read, .pure, .pure, .pure, .read, .pure, .read, .pure, .pure, .pure, .read, .new, .eff] mixed (by kernel_rfl) (by kernel_rfl) (by kernel_rfl) rfl ?_
   refine Mx.zU rfl rfl rfl (fun w' hw' => xI (v := .pointer (some ⟨b1, 0, none⟩)) rfl) ?_
   refine Mx.zU rfl rfl rfl (fun w' hw' => fa26_1 rfl) ?_
   refine Mx.xC oS rfl rfl rfl (fun w' hw' => zM one23 rfl (Cells.get (Blk.cells ((H.sees hw').item (i := 4) rfl)) (i := 1) rfl)) ?_
   refine Mx.zU rfl rfl rfl (fun w' hw' => xI (v := .int .i64 g673) rfl) ?_
   obtain ⟨x772, e773, hF⟩ := zD hF
   obtain ⟨b774, o775, c776, cs777, q778, h781, h779, h780, h782⟩ := wQ (H.item (i := 1) rfl) e773
   obtain ⟨v783, rfl, h784⟩ := rMoveT_open h781
   have H := H.fzs [.at b774 (o775 + g673.toNat * 9) _, .sl rCond v783 x772.When.Kids] ⟨⟨h779, h780, h782⟩, h784, trivial⟩
   refine Mx.zU rfl rfl rfl (fun w' hw' => xY u23 sz102 q778 rfl (yN e773).1 (yN e773).2.1 rfl rfl) ?_
   refine Mx.zU rfl rfl rfl (fun w' hw' => fa102_0 rfl) ?_
   refine Mx.xC oS rfl rfl rfl (fun w' hw' => zM one9 rfl (Cells.get ((H.sees hw').item (i := 7) rfl).2.2 (i := 0) rfl)) ?_
   refine Mx.zU rfl rfl rfl (fun w' hw' => fa26_1 rfl) ?_
   refine Mx.xC oS rfl rfl rfl (fun w' hw' => zM one23 rfl (Cells.get (Blk.cells ((H.sees hw').item (i := 4) rfl)) (i := 1) rfl)) ?_
   refine Mx.zU rfl rfl rfl (fun w' hw' => xI (v := .int .i64 g673) rfl) ?_
   obtain ⟨x787, e788, hF⟩ := zD hF
   obtain ⟨b789, o790, c791, cs792, q793, h796, h794, h795, h797⟩ := wQ (H.item (i := 1) rfl) e788
   obtain ⟨v798, rfl, h799⟩ := rMoveT_open h796
   have H := H.fzs [.at b789 (o790 + g673.toNat * 9) _, .sl rCond v798 x787.When.Kids] ⟨⟨h794, h795, h797⟩, h799, trivial⟩
   refine Mx.zU rfl rfl rfl (fun w' hw' => xY u23 sz102 q793 rfl (yN e788).1 (yN e788).2.1 rfl rfl) ?_
   refine Mx.zU rfl rfl rfl (fun w' hw' => fa102_1 rfl) ?_
   refine Mx.xC oS rfl rfl rfl (fun w' hw' => zM one9 rfl (Cells.get ((H.sees hw').item (i := 9) rfl).2.2 (i := 1) rfl)) ?_
   obtain ⟨x802, e803, hF⟩ := zG hF
   subst e803
   refine Mx.XL_exN oS rfl rfl rfl (fun w' hw' => Ls_of (Lx_bs (r := Rp.str) (xl := [x772.From, x787.To]) (cs := [.string (bs x772.From), .string (bs x787.To)]) u22 el9 (by decide) (by decide) rfl (xK (vs := [.string (bs x772.From), .string (bs x787.To)]) (by decide) rfl rfl ⟨rfl, rfl, trivial⟩ rfl) (H.sees hw') ⟨[.string (bs x772.From)], [.string (bs x787.To)], rfl, rfl, ⟨[.string (bs x787.To)], [], rfl, rfl, rfl⟩⟩) (Ys_bs (cs := [.string (bs x772.From), .string (bs x787.To)]) u22 el9 (by decide) (by decide) (xK (vs := [.string (bs x772.From), .string (bs x787.To)]) (by decide) rfl rfl ⟨rfl, rfl, trivial⟩ rfl))) ?_
   rintro w' v805 w806 hw' H
   have H := H.freeze (i := 11) rfl
   obtain ⟨x807, e808, hF⟩ := zD hF
   refine Mx.XL_effC oS rfl rfl rfl (fun w' hw' => zT en83 rfl) (fun w' hw' => F_ref0_Ink_Texts_w (Orangeboxref0Ink.mk g675) ([x772.From, x787.To] : List Str) b1 v676 v805 _ e808 _ _ _ ((H.sees hw').enter [6, 5] [11, 3] (by decide) rfl)) ?_
   rintro w' _ w811 hw' ⟨v809, rfl, G812⟩
   have H : Hd O _ w811 _ [.fz (.sl Rp.str v5 p1.Phases), .fz (.sl rMoveT v6 p1.Moves), .fz (.sl rRule v7 p1.Rules), .fz (.at 3 0 ((Fl.arr 20 (Fl.int .u64)).f zJ)), .blk b14 [v5, v6, v7] 26, .fz (.at b774 (o775 + g673.toNat * 9) [.string (bs x772.From), .string (bs x772.To), .int .i64 x772.When.Kind, .string (bs x772.When.Name), .string (bs x772.When.Other), .int .i64 x772.When.Op, .int .i64 x772.When.N, .int .i64 x772.When.Frames, v783]), .fz (.sl rCond v783 x772.When.Kids), .fz (.at b789 (o790 + g673.toNat * 9) [.string (bs x787.From), .string (bs x787.To), .int .i64 x787.When.Kind, .string (bs x787.When.Name), .string (bs x787.When.Other), .int .i64 x787.When.Op, .int .i64 x787.When.N, .int .i64 x787.When.Frames, v798]), .fz (.sl rCond v798 x787.When.Kids), .fz (.sl Rp.str v805 ([x772.From, x787.To] : List Str)), .own (Rp.int .u8) v809 5 x807.out, .blk b1 [v809] 79] := (H.sees hw').back [6, 5] [11, 3] rfl G812
   refine ⟨_, rfl, H.only, ?_⟩
   refine Mx.XL_nil fun w813 hS => ?_
   have H := H.sees hS
   have H := H770.rejoin H
   refine (zA (hK769 _ _ ?_))
   have H : Hd O w w813 S [.fz (.sl Rp.str v5 p1.Phases), .fz (.sl rMoveT v6 p1.Moves), .fz (.sl rRule v7 p1.Rules), .fz (.at 3 0 ((Fl.arr 20 (Fl.int .u64)).f zJ)), .blk b14 [v5, v6, v7] 26, .own (Rp.int .u8) v809 5 x807.out, .blk b1 [v809] 79] := H.pick [0, 1, 2, 3, 4, 10, 11] (by decide)
   refine zB ?_
   refine zN (.pointer (some ⟨b1, 0, none⟩)) ?_
   refine zH (fa26_1 rfl) ?_
   refine zH (zM one23 rfl (Cells.get (Blk.cells (H.item (i := 4) rfl)) (i := 1) rfl)) ?_
   refine zN (.int .i64 g673) ?_
   obtain ⟨x814, e815, hF⟩ := zD hF
   obtain ⟨b816, o817, c818, cs819, q820, h823, h821, h822, h824⟩ := wQ (H.item (i := 1) rfl) e815
   obtain ⟨v825, rfl, h826⟩ := rMoveT_open h823
   have H := H.fzs [.at b816 (o817 + g673.toNat * 9) _, .sl rCond v825 x814.When.Kids] ⟨⟨h821, h822, h824⟩, h826, trivial⟩
   refine zH (xY u23 sz102 q820 rfl (yN e815).1 (yN e815).2.1 rfl rfl) ?_
   refine zH (fa102_2 rfl) ?_
   refine zH (yL (yH (cs := [.int .i64 x814.When.Kind, .string (bs x814.When.Name), .string (bs x814.When.Other), .int .i64 x814.When.Op, .int .i64 x814.When.N, .int .i64 x814.When.Frames, v825]) agg54 rfl sz54 rfl (Cells.drop (H.item (i := 7) rfl).2.2 2 7)) rfl) ?_
   obtain ⟨x829, e830, hF⟩ := zD hF
   refine zW rfl rfl (zT en55 rfl) (F_ref0_Ink_Cond_s x807 x814.When b1 v809 v825 _ e830 _ _ _ (H.enter [5, 6] [8, 3] (by decide) rfl)) ?_
   rintro _ w833 ⟨v831, rfl, G834⟩
   have H : Hd O _ w833 _ [.fz (.sl Rp.str v5 p1.Phases), .fz (.sl rMoveT v6 p1.Moves), .fz (.sl rRule v7 p1.Rules), .fz (.at 3 0 ((Fl.arr 20 (Fl.int .u64)).f zJ)), .blk b14 [v5, v6, v7] 26, .fz (.at b816 (o817 + g673.toNat * 9) [.string (bs x814.From), .string (bs x814.To), .int .i64 x814.When.Kind, .string (bs x814.When.Name), .string (bs x814.When.Other), .int .i64 x814.When.Op, .int .i64 x814.When.N, .int .i64 x814.When.Frames, v825]), .fz (.sl rCond v825 x814.When.Kids), .own (Rp.int .u8) v831 5 x829.out, .blk b1 [v831] 79] := H.back [5, 6] [8, 3] rfl G834
   refine ⟨_, rfl, ?_⟩
   refine (zF (yU (zA (hK768 _ _ ?_))))
   refine zB ?_
   refine zN (.int .i64 g673) ?_
   obtain ⟨x835, e836, hF⟩ := zG hF
   refine zH (xX (a := g673) (b := 1) rfl rfl e836) ?_
   refine zI (.int .i64 x835) ?_
   exact (zF (zA (meet ⟨(n682, x835, x829.out, v831), (zL rfl zO), ⟨H.pick [0, 1, 2, 3, 4, 8, 7] (by decide), hF⟩, Nat.lt_succ_self _⟩)))
  have hF := zS c701 hF
  obtain rfl := someI hF
  exact (xP (yR (yR (xA (zA (meet ⟨v676, zO, H.pick [0, 1, 2, 3, 4, 5, 6] (by decide)⟩))))))
 rintro v357 ρ w358 H
 have hF := hK359
 refine zC fun K837 hK837 => ?_
 refine zB ?_
 refine zN (.pointer (some ⟨b1, 0, none⟩)) ?_
 refine zH (fa26_2 rfl) ?_
 refine zH (zM one24 rfl (Cells.get (Blk.cells (H.item (i := 4) rfl)) (i := 2) rfl)) ?_
 obtain ⟨x838, e839, hF⟩ := zG hF
 obtain ⟨a840, c841, q842⟩ := SlF.len ((H.item (i := 2) rfl))
 refine zH (yL (xW u24 q842) (congrArg (Value.int .i64) e839)) ?_
 obtain ⟨x843, e844, hF⟩ := zD hF
 refine zW rfl rfl (zT en35 rfl) (F_ref0_Ink_Int_w (Orangeboxref0Ink.mk g356) x838 b1 v357 _ e844 _ _ _ (H.enter [6, 5] [3] (by decide) rfl)) ?_
 rintro _ w847 ⟨v845, rfl, G848⟩
 have H : Hd O _ w847 _ [.fz (.sl Rp.str v5 p1.Phases), .fz (.sl rMoveT v6 p1.Moves), .fz (.sl rRule v7 p1.Rules), .fz (.at 3 0 ((Fl.arr 20 (Fl.int .u64)).f zJ)), .blk b14 [v5, v6, v7] 26, .own (Rp.int .u8) v845 5 x843.out, .blk b1 [v845] 79] := H.back [6, 5] [3] rfl G848
 refine ⟨_, rfl, ?_⟩
 refine (zF (zA (hK837 _ _ ?_)))
 refine zC fun K849 hK849 => ?_
 refine zB ?_
 refine zI (.int .i64 0) ?_
 refine (zF (zA (hK849 _ _ ?_)))
 refine yF ?_
 unfold F_ref0_Ink_Rules_L2 at hF
 obtain ⟨B1074, n1075, eB1076, hF⟩ := yV hF
 refine xJ [5, 50, 51, 52, 53, 54, 55, 56, 57, 58, 59, 60, 61, 62, 63, 64, 65, 66, 67, 68, 69, 70, 71, 72] (fun (g : Nat × Int × (List Int) × Value) => [(5, .int .i64 g.2.1)]) (fun g wl => Hd O w wl S [.fz (.sl Rp.str v5 p1.Phases), .fz (.sl rMoveT v6 p1.Moves), .fz (.sl rRule v7 p1.Rules), .fz (.at 3 0 ((Fl.arr 20 (Fl.int .u64)).f zJ)), .blk b14 [v5, v6, v7] 26, .blk b1 [g.2.2.2] 79, .own (Rp.int .u8) g.2.2.2 5 g.2.2.1] ∧ loopN B1074 g.1 (g.2.1, g.2.2.1) = some r) (fun g => g.1) (n1075, 0, x843.out, v845) (zL rfl zO) ⟨H.pick [0, 1, 2, 3, 4, 6, 5] (by decide), hF⟩ ?_
 clear H hF
 rintro ⟨n1075, g1070, g1072, v1073⟩ ρ w1078 ⟨H, hF⟩
 obtain ⟨n1079, rfl, hF⟩ := xB hF
 have hF := yZ eB1076 hF
 refine zC fun K1089 hK1089 => ?_
 refine zC fun K1090 hK1090 => ?_
 refine zB ?_
 refine zN (.int .i64 g1070) ?_
 refine zH (fa26_2 rfl) ?_
 refine zH (zM one24 rfl (Cells.get (Blk.cells (H.item (i := 4) rfl)) (i := 2) rfl)) ?_
 obtain ⟨x1091, e1092, hF⟩ := zG hF
 obtain ⟨a1093, c1094, q1095⟩ := SlF.len ((H.item (i := 2) rfl))
 refine zH (yL (xW u24 q1095) (congrArg (Value.int .i64) e1092)) ?_
 obtain ⟨x1096, e1097, hF⟩ := zG hF
 refine zH (zV (xQ (a := g1070) (b := x1091) rfl rfl) e1097) ?_
 refine (zF (zA (hK1090 _ _ ?_)))
 refine zZ (b := x1096) rfl (fun c1098 => ?_) (fun c1098 => ?_)
 ·have hF := zQ c1098 hF
  refine (yA (zA (hK1089 _ _ ?_)))
  refine zC fun K1142 hK1142 => ?_
  refine yF ?_
  refine zC fun K1143 hK1143 => ?_
  refine zB ?_
  refine zN (.pointer (some ⟨b1, 0, none⟩)) ?_
  refine zH (fa26_2 rfl) ?_
  refine zH (zM one24 rfl (Cells.get (Blk.cells (H.item (i := 4) rfl)) (i := 2) rfl)) ?_
  refine zN (.int .i64 g1070) ?_
  obtain ⟨x1144, e1145, hF⟩ := zD hF
  obtain ⟨b1146, o1147, c1148, cs1149, q1150, h1153, h1151, h1152, h1154⟩ := wQ (H.item (i := 2) rfl) e1145
  obtain ⟨v1155, rfl, h1156⟩ := rRule_open h1153
  have H := H.fzs [.at b1146 (o1147 + g1070.toNat * 8) _, .sl rCond v1155 x1144.When.Kids] ⟨⟨h1151, h1152, h1154⟩, h1156, trivial⟩
  refine zH (xY u24 sz106 q1150 rfl (yN e1145).1 (yN e1145).2.1 rfl rfl) ?_
  refine zH (fa106_0 rfl) ?_
  refine zH (zM one9 rfl (Cells.get (H.item (i := 7) rfl).2.2 (i := 0) rfl)) ?_
  obtain ⟨x1159, e1160, hF⟩ := zD hF
  refine zW rfl rfl (zT en84 rfl) (F_ref0_Ink_Text_w (Orangeboxref0Ink.mk g1072) x1144.Name b1 v1073 _ e1160 _ _ _ (H.enter [6, 5] [3] (by decide) rfl)) ?_
  rintro _ w1163 ⟨v1161, rfl, G1164⟩
  have H : Hd O _ w1163 _ [.fz (.sl Rp.str v5 p1.Phases), .fz (.sl rMoveT v6 p1.Moves), .fz (.sl rRule v7 p1.Rules), .fz (.at 3 0 ((Fl.arr 20 (Fl.int .u64)).f zJ)), .blk b14 [v5, v6, v7] 26, .fz (.at b1146 (o1147 + g1070.toNat * 8) [.string (bs x1144.Name), .int .i64 x1144.When.Kind, .string (bs x1144.When.Name), .string (bs x1144.When.Other), .int .i64 x1144.When.Op, .int .i64 x1144.When.N, .int .i64 x1144.When.Frames, v1155]), .fz (.sl rCond v1155 x1144.When.Kids), .own (Rp.int .u8) v1161 5 x1159.out, .blk b1 [v1161] 79] := H.back [6, 5] [3] rfl G1164
  refine ⟨_, rfl, ?_⟩
  refine (zF (zA (hK1143 _ _ ?_)))
  refine zB ?_
  refine zN (.pointer (some ⟨b1, 0, none⟩)) ?_
  refine zH (fa26_2 rfl) ?_
  refine zH (zM one24 rfl (Cells.get (Blk.cells (H.item (i := 4) rfl)) (i := 2) rfl)) ?_
  refine zN (.int .i64 g1070) ?_
  obtain ⟨x1165, e1166, hF⟩ := zD hF
  obtain ⟨b1167, o1168, c1169, cs1170, q1171, h1174, h1172, h1173, h1175⟩ := wQ (H.item (i := 2) rfl) e1166
  obtain ⟨v1176, rfl, h1177⟩ := rRule_open h1174
  have H := H.fzs [.at b1167 (o1168 + g1070.toNat * 8) _, .sl rCond v1176 x1165.When.Kids] ⟨⟨h1172, h1173, h1175⟩, h1177, trivial⟩
  refine zH (xY u24 sz106 q1171 rfl (yN e1166).1 (yN e1166).2.1 rfl rfl) ?_
  refine zH (fa106_1 rfl) ?_
  refine zH (yL (yH (cs := [.int .i64 x1165.When.Kind, .string (bs x1165.When.Name), .string (bs x1165.When.Other), .int .i64 x1165.When.Op, .int .i64 x1165.When.N, .int .i64 x1165.When.Frames, v1176]) agg54 rfl sz54 rfl (Cells.drop (H.item (i := 9) rfl).2.2 1 7)) rfl) ?_
  obtain ⟨x1180, e1181, hF⟩ := zD hF
  refine zW rfl rfl (zT en55 rfl) (F_ref0_Ink_Cond_s x1159 x1165.When b1 v1161 v1176 _ e1181 _ _ _ (H.enter [7, 8] [10, 3] (by decide) rfl)) ?_
  rintro _ w1184 ⟨v1182, rfl, G1185⟩
  have H : Hd O _ w1184 _ [.fz (.sl Rp.str v5 p1.Phases), .fz (.sl rMoveT v6 p1.Moves), .fz (.sl rRule v7 p1.Rules), .fz (.at 3 0 ((Fl.arr 20 (Fl.int .u64)).f zJ)), .blk b14 [v5, v6, v7] 26, .fz (.at b1146 (o1147 + g1070.toNat * 8) [.string (bs x1144.Name), .int .i64 x1144.When.Kind, .string (bs x1144.When.Name), .string (bs x1144.When.Other), .int .i64 x1144.When.Op, .int .i64 x1144.When.N, .int .i64 x1144.When.Frames, v1155]), .fz (.sl rCond v1155 x1144.When.Kids), .fz (.at b1167 (o1168 + g1070.toNat * 8) [.string (bs x1165.Name), .int .i64 x1165.When.Kind, .string (bs x1165.When.Name), .string (bs x1165.When.Other), .int .i64 x1165.When.Op, .int .i64 x1165.When.N, .int .i64 x1165.When.Frames, v1176]), .fz (.sl rCond v1176 x1165.When.Kids), .own (Rp.int .u8) v1182 5 x1180.out, .blk b1 [v1182] 79] := H.back [7, 8] [10, 3] rfl G1185
  refine ⟨_, rfl, ?_⟩
  refine (zF (yU (zA (hK1142 _ _ ?_))))
  refine zB ?_
  refine zN (.int .i64 g1070) ?_
  obtain ⟨x1186, e1187, hF⟩ := zG hF
  refine zH (xX (a := g1070) (b := 1) rfl rfl e1187) ?_
  refine zI (.int .i64 x1186) ?_
  exact (zF (zA (meet ⟨(n1079, x1186, x1180.out, v1182), (zL rfl zO), ⟨H.pick [0, 1, 2, 3, 4, 10, 9] (by decide), hF⟩, Nat.lt_succ_self _⟩)))
 have hF := zS c1098 hF
 obtain rfl := someI hF
 refine (xP (yR (yR (xA (post0n rfl ?_)))))
 exact ⟨v1073, rfl, H.pick [6, 5] (by decide)⟩
set_option maxHeartbeats 4000000 in
theorem F_ref0_Ink_Errno_w (p0 : Orangeboxref0Ink) (p1 : Int) (b1 : Nat) (v2 : Value) (r : Orangeboxref0Ink) (hF : F_ref0_Ink_Errno p0 p1 = some r) (O S : List Nat) (w : World) (H : Hd O w w S [.own (Rp.int .u8) v2 5 p0.out, .blk b1 [v2] 79, .fz (.at 3 0 ((Fl.arr 20 (Fl.int .u64)).f zJ))]) :
  Calls Tryz.prog 36 ([.pointer (some ⟨b1, 0, none⟩), .int .i64 p1] : List Value).toArray w fun e w' => ∃ u6, e = .returned (.tuple #[]) ∧ Hd O w w' S [.own (Rp.int .u8) u6 5 r.out, .blk b1 [u6] 79] := by
 unfold F_ref0_Ink_Errno at hF
 refine yC 7 Tryz.func36 rfl rfl rfl ?_
 refine zB ?_
 refine zN (.pointer (some ⟨b1, 0, none⟩)) ?_
 refine zN (.int .i64 p1) ?_
 obtain ⟨x7, e8, hF⟩ := zD hF
 refine zW rfl rfl (zT en35 rfl) (F_ref0_Ink_Int_w p0 p1 b1 v2 _ e8 _ _ _ (H.enter [0, 1] [2] (by decide) rfl)) ?_
 rintro _ w11 ⟨v9, rfl, G12⟩
 have H : Hd O _ w11 _ [.fz (.at 3 0 ((Fl.arr 20 (Fl.int .u64)).f zJ)), .own (Rp.int .u8) v9 5 x7.out, .blk b1 [v9] 79] := H.back [0, 1] [2] rfl G12
 refine ⟨_, rfl, ?_⟩
 obtain rfl := someI hF
 refine (zF (post0n rfl ?_))
 exact ⟨v9, rfl, H.pick [1, 2] (by decide)⟩
set_option maxHeartbeats 4000000 in
theorem F_ref0_Ink_Told_w (p0 : Option Orangeboxref0Ink) (v1 : Option Addr) (r : Str) (hF : F_ref0_Ink_Told p0 = some r) (O S : List Nat) (w : World) (H : Hd O w w S [.fz (.pt rOrangeboxref0Ink v1 p0)]) :
  Calls Tryz.prog 37 ([.pointer v1] : List Value).toArray w fun e w' => e = .returned (.string (bs r)) ∧ Hd O w w' S [] := by
 unfold F_ref0_Ink_Told at hF
 refine yC 8 Tryz.func37 rfl rfl rfl ?_
 refine zC fun K3 hK3 => ?_
 refine zB ?_
 refine zI (.string (bs [])) ?_
 refine (zF (zA (hK3 _ _ ?_)))
 refine zC fun K4 hK4 => ?_
 refine zB ?_
 refine zN (.pointer v1) ?_
 obtain ⟨x5, e6, hF⟩ := zD hF
 obtain ⟨b7, o8, cs9, q10, h11, h12, h13, h14⟩ := ptf_some ((H.item (i := 0) rfl) : PtF _ _ _ _ _) e6
 obtain ⟨v15, rfl, h16⟩ := rOrangeboxref0Ink_open h13
 have H := H.fzs [.at b7 o8 _, .sl (Rp.int .u8) v15 x5.out] ⟨⟨h11, h12, h14⟩, h16, trivial⟩
 refine zH (yM (ad := ⟨b7, o8, none⟩) (congrArg Value.pointer q10)) ?_
 refine zH (fa79_0 rfl) ?_
 refine zH (zM one77 rfl (Cells.get (H.item (i := 1) rfl).2.2 (i := 0) rfl)) ?_
 obtain ⟨x19, e20, hF⟩ := zG hF
 refine zH (yL (Do_bytestr (xl := x5.out) u77 u5 u9 rfl (Sr.of_rd (H.item (i := 2) rfl))) (congrArg (fun s => Value.string (bs s)) e20)) ?_
 refine zI (.string (bs x19)) ?_
 refine (zF (zA (hK4 _ _ ?_)))
 obtain rfl := someI hF
 refine (yB (post1 (v1 := .string (bs x19)) rfl rfl ?_))
 exact ⟨rfl, H.pick [] (by decide)⟩
set_option maxHeartbeats 4000000 in
theorem F_law6_told_w (p0 : Rules) (p1 : Int) (p2 : Int) (v1 : Value) (v2 : Value) (v3 : Value) (r : Str) (hF : F_law6_told p0 p1 p2 = some r) (O S : List Nat) (w : World) (H : Hd O w w S [.fz (.sl Rp.str v1 p0.Phases), .fz (.sl rMoveT v2 p0.Moves), .fz (.sl rRule v3 p0.Rules), .fz (.at 3 0 ((Fl.arr 20 (Fl.int .u64)).f zJ))]) :
  Calls Tryz.prog 12 ([.agg [v1, v2, v3].toArray, .int .i64 p1, .int .i64 p2] : List Value).toArray w fun e w' => e = .returned (.string (bs r)) ∧ Hd O w w' S [] := by
 unfold F_law6_told at hF
 refine yC 21 Tryz.func12 rfl rfl rfl ?_
 refine zC fun K8 hK8 => ?_
 refine zB ?_
 refine yT rfl rfl (wL (cs := [v1, v2, v3]) rfl H) ?_
 rintro _ w11 ⟨b9, rfl, H⟩
 refine zI (.string (bs [])) ?_
 refine (zF (zA (hK8 _ _ ?_)))
 refine zC fun K12 hK12 => ?_
 refine zB ?_
 refine zH (xN (cs := [.slice none 0 0]) bz79) ?_
 refine yT rfl rfl (wL (cs := [.slice none 0 0]) rfl H) ?_
 rintro _ w15 ⟨b13, rfl, H⟩
 refine zI (.pointer (some ⟨b13, 0, none⟩)) ?_
 refine (zF (zA (hK12 _ _ ?_)))
 refine zC fun K16 hK16 => ?_
 refine zB ?_
 refine zN (.pointer (some ⟨b13, 0, none⟩)) ?_
 refine zH (yL (yH (cs := [v1, v2, v3]) agg26 rfl sz26 rfl (Blk.cells (H.item (i := 4) rfl))) rfl) ?_
 have H := own_nil H (Rp.int .u8) 5
 obtain ⟨x18, e19, hF⟩ := zD hF
 refine zW rfl rfl (zT en34 rfl) (F_ref0_Ink_Rules_w (Orangeboxref0Ink.mk []) p0 b13 (.slice none 0 0) v1 v2 v3 _ e19 _ _ _ (H.enter [6, 5] [0, 1, 2, 3] (by decide) rfl)) ?_
 rintro _ w22 ⟨v20, rfl, G23⟩
 have H : Hd O _ w22 _ [.fz (.sl Rp.str v1 p0.Phases), .fz (.sl rMoveT v2 p0.Moves), .fz (.sl rRule v3 p0.Rules), .fz (.at 3 0 ((Fl.arr 20 (Fl.int .u64)).f zJ)), .blk b9 [v1, v2, v3] 26, .own (Rp.int .u8) v20 5 x18.out, .blk b13 [v20] 79] := H.back [6, 5] [0, 1, 2, 3] rfl G23
 refine ⟨_, rfl, ?_⟩
 refine (zF (zA (hK16 _ _ ?_)))
 refine zC fun K24 hK24 => ?_
 refine zB ?_
 refine zN (.pointer (some ⟨b13, 0, none⟩)) ?_
 refine zN (.int .i64 p1) ?_
 obtain ⟨x25, e26, hF⟩ := zD hF
 refine zW rfl rfl (zT en35 rfl) (F_ref0_Ink_Int_w x18 p1 b13 v20 _ e26 _ _ _ (H.enter [5, 6] [3] (by decide) rfl)) ?_
 rintro _ w29 ⟨v27, rfl, G30⟩
 have H : Hd O _ w29 _ [.fz (.sl Rp.str v1 p0.Phases), .fz (.sl rMoveT v2 p0.Moves), .fz (.sl rRule v3 p0.Rules), .fz (.at 3 0 ((Fl.arr 20 (Fl.int .u64)).f zJ)), .blk b9 [v1, v2, v3] 26, .own (Rp.int .u8) v27 5 x25.out, .blk b13 [v27] 79] := H.back [5, 6] [3] rfl G30
 refine ⟨_, rfl, ?_⟩
 refine (zF (zA (hK24 _ _ ?_)))
 refine zC fun K31 hK31 => ?_
 refine zB ?_
 refine zN (.pointer (some ⟨b13, 0, none⟩)) ?_
 refine zN (.int .i64 p2) ?_
 obtain ⟨x32, e33, hF⟩ := zD hF
 refine zW rfl rfl (zT en36 rfl) (F_ref0_Ink_Errno_w x25 p2 b13 v27 _ e33 _ _ _ (H.enter [5, 6] [3] (by decide) rfl)) ?_
 rintro _ w36 ⟨v34, rfl, G37⟩
 have H : Hd O _ w36 _ [.fz (.sl Rp.str v1 p0.Phases), .fz (.sl rMoveT v2 p0.Moves), .fz (.sl rRule v3 p0.Rules), .fz (.at 3 0 ((Fl.arr 20 (Fl.int .u64)).f zJ)), .blk b9 [v1, v2, v3] 26, .own (Rp.int .u8) v34 5 x32.out, .blk b13 [v34] 79] := H.back [5, 6] [3] rfl G37
 refine ⟨_, rfl, ?_⟩
 refine (zF (zA (hK31 _ _ ?_)))
 refine zC fun K38 hK38 => ?_
 refine zB ?_
 refine zN (.pointer (some ⟨b13, 0, none⟩)) ?_
 have H39 := H
 have H := H.freezeB (i := 6) rfl
 have H := H.freeze (i := 5) rfl
 have H := H.fz (.pt rOrangeboxref0Ink (some ⟨b13, 0, none⟩) (some x32)) ⟨_, _, _, rfl, (H.item (i := 6) rfl).1, (H.item (i := 6) rfl).2.1, (rOrangeboxref0Ink_mk (x := x32) (H.item (i := 5) rfl)), (H.item (i := 6) rfl).2.2⟩
 obtain ⟨x41, e42, hF⟩ := zD hF
 refine zW rfl rfl (zT en37 rfl) (F_ref0_Ink_Told_w (some x32) (some ⟨b13, 0, none⟩) _ e42 _ _ _ (H.enter [] [7] (by decide) rfl)) ?_
 rintro _ w43 ⟨rfl, G44⟩
 have H := H39.step (G44.only : Only [] _ _)
 refine ⟨_, rfl, ?_⟩
 refine zI (.string (bs x41)) ?_
 refine (zF (zA (hK38 _ _ ?_)))
 obtain rfl := someI hF
 refine (yB (post1 (v1 := .string (bs x41)) rfl rfl ?_))
 exact ⟨rfl, H.pick [] (by decide)⟩
abbrev S_event_copyCond (f : Cond → Option Cond) : Prop := ∀ (p0 : Cond) (v1 : Value) (r : Cond) (hF : f p0 = some r) (O S : List Nat) (w : World) (H : Hd O w w S [.fz (.sl rCond v1 p0.Kids)]),
  Calls Tryz.prog 66 ([.agg [.int .i64 p0.Kind, .string (bs p0.Name), .string (bs p0.Other), .int .i64 p0.Op, .int .i64 p0.N, .int .i64 p0.Frames, v1].toArray] : List Value).toArray w fun e w' => ∃ u3, e = .returned (.agg [.int .i64 r.Kind, .string (bs r.Name), .string (bs r.Other), .int .i64 r.Op, .int .i64 r.N, .int .i64 r.Frames, u3].toArray) ∧ Hd O w w' S [.fz (.sl rCond u3 r.Kids)]
end Go.Proofs.YtnajnkghilemhaaGreatDoor.L
