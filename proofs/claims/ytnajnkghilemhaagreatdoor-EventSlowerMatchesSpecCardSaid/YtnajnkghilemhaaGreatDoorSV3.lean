/- Walks: what each function computes, for every argument; no condition but those that stand in the statements. -/
import Derived.Test.YtnajnkghilemhaaGreatDoorSV0
import Derived.Test.YtnajnkghilemhaaGreatDoorSV2
namespace Go.Proofs.YtnajnkghilemhaaGreatDoor.L
open Go.RowKit Go.OB Go.Lf
set_option maxHeartbeats 4000000 in
theorem F_event_slower_B_w (rfG : Cond → Int → Option Cond) (rhG : S_event_slower rfG) (p0 : Cond) (p1 : Int) (v1 : Value) (r : Cond) (hF : F_event_slower_B rfG p0 p1 = some r) (O S : List Nat) (w : World) (H : Hd O w w S [.fz (.sl rCond v1 p0.Kids)]) :
  Calls Tryz.prog 62 ([.agg [.int .i64 p0.Kind, .string (bs p0.Name), .string (bs p0.Other), .int .i64 p0.Op, .int .i64 p0.N, .int .i64 p0.Frames, v1].toArray, .int .i64 p1] : List Value).toArray w fun e w' => ∃ u3, e = .returned (.agg [.int .i64 r.Kind, .string (bs r.Name), .string (bs r.Other), .int .i64 r.Op, .int .i64 r.N, .int .i64 r.Frames, u3].toArray) ∧ Hd O w w' S [.fz (.sl rCond u3 r.Kids)] := by
 unfold F_event_slower_B at hF
 refine yC 43 Tryz.func62 rfl rfl rfl ?_
 refine zC fun K4 hK4 => ?_
 refine zB ?_
 refine yT rfl rfl (wL (cs := [.int .i64 p0.Kind, .string (bs p0.Name), .string (bs p0.Other), .int .i64 p0.Op, .int .i64 p0.N, .int .i64 p0.Frames, v1]) rfl H) ?_
 rintro _ w7 ⟨b5, rfl, H⟩
 refine yT rfl rfl (Lx_box1 rfl rfl H) ?_
 rintro _ w10 ⟨b8, rfl, H⟩
 refine yT rfl rfl (xG zero54 H) ?_
 rintro _ w13 ⟨b11, rfl, H⟩
 refine (zF (zA (hK4 _ _ ?_)))
 refine zC fun K14 hK14 => ?_
 refine zB ?_
 refine zH (Do_makeFunc rfl) ?_
 refine zI (.func (.func 116) #[] #[.pointer (some ⟨b8, 0, none⟩)]) ?_
 refine (zF (zA (hK14 _ _ ?_)))
 obtain ⟨g24, hF, hK26⟩ := zD hF
 refine yO [10, 11, 12, 13, 14, 15, 16, 17] (fun (g : Unit) => []) (fun g wl => Hd O w wl S [.fz (.sl rCond v1 p0.Kids), .blk b5 [.int .i64 p0.Kind, .string (bs p0.Name), .string (bs p0.Other), .int .i64 p0.Op, .int .i64 p0.N, .int .i64 g24, v1] 54, .blk b8 [.int .i64 p1] 3, .blk b11 [.int .i64 0, .string (bs []), .string (bs []), .int .i64 0, .int .i64 0, .int .i64 0, .slice none 0 0] 54]) ?_ ?_
 ·skip
  refine zC fun K27 hK27 => ?_
  refine zB ?_
  refine zH (fa54_5 rfl) ?_
  refine zH (zM one3 rfl (Cells.get (Blk.cells (H.item (i := 1) rfl)) (i := 5) rfl)) ?_
  obtain ⟨x28, e29, hF⟩ := zG hF
  refine zH (zV (Do_gtr (a := p0.Frames) (b := 0) rfl rfl) e29) ?_
  refine (zF (zA (hK27 _ _ ?_)))
  refine zZ (b := x28) rfl (fun c30 => ?_) (fun c30 => ?_)
  ·have hF := zQ c30 hF
   refine zB ?_
   refine zN (.func (.func 116) #[] #[.pointer (some ⟨b8, 0, none⟩)]) ?_
   refine zH (fa54_5 rfl) ?_
   refine zH (zM one3 rfl (Cells.get (Blk.cells (H.item (i := 1) rfl)) (i := 5) rfl)) ?_
   obtain ⟨x31, e32, hF⟩ := zD hF
   refine zW rfl rfl (wP en116 rfl rfl) (F_event_slower_1_w p0.Frames p1 b8 _ e32 _ _ _ (H.enter [2] [] (by decide) rfl)) ?_
   rintro _ w33 ⟨rfl, G34⟩
   have H : Hd O _ w33 _ [.fz (.sl rCond v1 p0.Kids), .blk b5 [.int .i64 p0.Kind, .string (bs p0.Name), .string (bs p0.Other), .int .i64 p0.Op, .int .i64 p0.N, .int .i64 p0.Frames, v1] 54, .blk b11 [.int .i64 0, .string (bs []), .string (bs []), .int .i64 0, .int .i64 0, .int .i64 0, .slice none 0 0] 54, .blk b8 [.int .i64 p1] 3] := H.back [2] [] rfl G34
   refine ⟨_, rfl, ?_⟩
   refine zH (fa54_5 rfl) ?_
   refine yS rfl (xM H 1 rfl sz3 rfl (v := .int .i64 x31) rfl rfl rfl) ?_
   rintro w35 H
   obtain rfl := someI hF
   exact (zF (zA (meet ⟨(), zO, H.pick [0, 1, 3, 2] (by decide)⟩)))
  have hF := zS c30 hF
  obtain rfl := someI hF
  exact (yA (zA (meet ⟨(), zO, H.pick [0, 1, 2, 3] (by decide)⟩)))
 rintro _ ρ w25 H
 have hF := hK26
 obtain ⟨g45, hF, hK47⟩ := zD hF
 refine yO [18, 19, 20, 21, 22, 23, 24, 25] (fun (g : Unit) => []) (fun g wl => Hd O w wl S [.fz (.sl rCond v1 p0.Kids), .blk b5 [.int .i64 p0.Kind, .string (bs p0.Name), .string (bs p0.Other), .int .i64 p0.Op, .int .i64 g45, .int .i64 g24, v1] 54, .blk b8 [.int .i64 p1] 3, .blk b11 [.int .i64 0, .string (bs []), .string (bs []), .int .i64 0, .int .i64 0, .int .i64 0, .slice none 0 0] 54]) ?_ ?_
 ·skip
  refine zC fun K48 hK48 => ?_
  refine zB ?_
  refine zH (fa54_0 rfl) ?_
  refine zH (zM one3 rfl (Cells.get (Blk.cells (H.item (i := 1) rfl)) (i := 0) rfl)) ?_
  obtain ⟨x49, e50, hF⟩ := zG hF
  refine zH (zV (xH (a := p0.Kind) (b := 13) rfl rfl) e50) ?_
  refine (zF (zA (hK48 _ _ ?_)))
  refine zZ (b := x49) rfl (fun c51 => ?_) (fun c51 => ?_)
  ·have hF := zQ c51 hF
   refine zB ?_
   refine zN (.func (.func 116) #[] #[.pointer (some ⟨b8, 0, none⟩)]) ?_
   refine zH (fa54_4 rfl) ?_
   refine zH (zM one3 rfl (Cells.get (Blk.cells (H.item (i := 1) rfl)) (i := 4) rfl)) ?_
   obtain ⟨x52, e53, hF⟩ := zD hF
   refine zW rfl rfl (wP en116 rfl rfl) (F_event_slower_1_w p0.N p1 b8 _ e53 _ _ _ (H.enter [2] [] (by decide) rfl)) ?_
   rintro _ w54 ⟨rfl, G55⟩
   have H : Hd O _ w54 _ [.fz (.sl rCond v1 p0.Kids), .blk b5 [.int .i64 p0.Kind, .string (bs p0.Name), .string (bs p0.Other), .int .i64 p0.Op, .int .i64 p0.N, .int .i64 g24, v1] 54, .blk b11 [.int .i64 0, .string (bs []), .string (bs []), .int .i64 0, .int .i64 0, .int .i64 0, .slice none 0 0] 54, .blk b8 [.int .i64 p1] 3] := H.back [2] [] rfl G55
   refine ⟨_, rfl, ?_⟩
   refine zH (fa54_4 rfl) ?_
   refine yS rfl (xM H 1 rfl sz3 rfl (v := .int .i64 x52) rfl rfl rfl) ?_
   rintro w56 H
   obtain rfl := someI hF
   exact (zF (zA (meet ⟨(), zO, H.pick [0, 1, 3, 2] (by decide)⟩)))
  have hF := zS c51 hF
  obtain rfl := someI hF
  exact (yA (zA (meet ⟨(), zO, H.pick [0, 1, 2, 3] (by decide)⟩)))
 rintro _ ρ w46 H
 have hF := hK47
 refine zC fun K57 hK57 => ?_
 refine zB ?_
 refine zI (.slice none 0 0) ?_
 refine (zF (zA (hK57 _ _ ?_)))
 obtain ⟨g236, hF, hK239⟩ := zD hF
 refine yO [6, 8, 26, 27, 28, 29, 30, 31, 32, 33, 34, 35, 36, 37, 38, 39] (fun (g : Value) => [(6, g)]) (fun g wl => Hd O w wl S [.own rCond g 54 g236, .fz (.sl rCond v1 p0.Kids), .blk b5 [.int .i64 p0.Kind, .string (bs p0.Name), .string (bs p0.Other), .int .i64 p0.Op, .int .i64 g45, .int .i64 g24, v1] 54, .blk b11 [.int .i64 0, .string (bs []), .string (bs []), .int .i64 0, .int .i64 0, .int .i64 0, .slice none 0 0] 54]) ?_ ?_
 ·skip
  refine zC fun K240 hK240 => ?_
  refine zB ?_
  refine zH (fa54_6 rfl) ?_
  refine zH (zM one52 rfl (Cells.get (Blk.cells (H.item (i := 1) rfl)) (i := 6) rfl)) ?_
  obtain ⟨x241, e242, hF⟩ := zG hF
  obtain ⟨a243, c244, q245⟩ := SlF.len ((H.item (i := 0) rfl))
  refine zH (yL (xW u52 q245) (congrArg (Value.int .i64) e242)) ?_
  refine zN (.int .i64 0) ?_
  refine (zF (zA (hK240 _ _ ?_)))
  refine yF ?_
  have H := own_nil H rCond 54
  unfold F_event_slower_B_L1 at hF
  obtain ⟨B415, n416, eB417, hF⟩ := yV hF
  refine xJ [6, 8, 29, 30, 31, 32, 33, 34, 35, 36, 37, 38, 39] (fun (g : Nat × (List Cond) × Int × Value) => [(6, g.2.2.2), (29, .int .i64 g.2.2.1)]) (fun g wl => Hd O w wl S [.own rCond g.2.2.2 54 g.2.1, .fz (.sl rCond v1 p0.Kids), .blk b5 [.int .i64 p0.Kind, .string (bs p0.Name), .string (bs p0.Other), .int .i64 p0.Op, .int .i64 g45, .int .i64 g24, v1] 54, .blk b8 [.int .i64 p1] 3, .blk b11 [.int .i64 0, .string (bs []), .string (bs []), .int .i64 0, .int .i64 0, .int .i64 0, .slice none 0 0] 54] ∧ loopN B415 g.1 (g.2.1, g.2.2.1) = some g236) (fun g => g.1) (n416, [], 0, .slice none 0 0) (zL rfl (zL rfl zO)) ⟨H.pick [4, 0, 1, 2, 3] (by decide), hF⟩ ?_
  clear H hF
  rintro ⟨n416, g411, g413, v412⟩ ρ w419 ⟨H, hF⟩
  obtain ⟨n420, rfl, hF⟩ := xB hF
  have hF := yZ eB417 hF
  refine zC fun K421 hK421 => ?_
  refine zB ?_
  obtain ⟨x422, e423, hF⟩ := zG hF
  refine zH (zV (xQ (a := g413) (b := x241) rfl rfl) e423) ?_
  refine (zF (zA (hK421 _ _ ?_)))
  refine zC fun K425 hK425 => ?_
  refine zZ (b := x422) rfl (fun c426 => ?_) (fun c426 => ?_)
  ·have hF := zQ c426 hF
   refine (yA (zA (hK425 _ _ ?_)))
   refine zC fun K462 hK462 => ?_
   refine yF ?_
   refine zC fun K463 hK463 => ?_
   refine zB ?_
   obtain ⟨x464, e465, hF⟩ := zD hF
   obtain ⟨b466, o467, c468, cs469, q470, h473, h471, h472, h474⟩ := wQ (H.item (i := 1) rfl) e465
   obtain ⟨v475, rfl, h476⟩ := wK h473
   have H := H.fzs [.at b466 (o467 + g413.toNat * 7) _, .sl rCond v475 x464.Kids] ⟨⟨h471, h472, h474⟩, h476, trivial⟩
   refine zH (xY u52 sz54 q470 rfl (yN e465).1 (yN e465).2.1 rfl rfl) ?_
   refine zH (yL (yH (cs := [.int .i64 x464.Kind, .string (bs x464.Name), .string (bs x464.Other), .int .i64 x464.Op, .int .i64 x464.N, .int .i64 x464.Frames, v475]) agg54 rfl sz54 rfl (H.item (i := 5) rfl).2.2) rfl) ?_
   refine yT rfl rfl (xG zero54 H) ?_
   rintro _ w481 ⟨b479, rfl, H⟩
   refine yS rfl (yI (vs := [.int .i64 x464.Kind, .string (bs x464.Name), .string (bs x464.Other), .int .i64 x464.Op, .int .i64 x464.N, .int .i64 x464.Frames, v475]) H 7 rfl sz54 rfl rfl rfl ⟨rfl, rfl, rfl, rfl, rfl, rfl, (xR (H.item (i := 6) rfl)), trivial⟩ rfl) ?_
   rintro w482 H
   refine (zF (zA (hK463 _ _ ?_)))
   refine zB ?_
   refine zN v412 ?_
   refine zH (yL (yH (cs := [.int .i64 x464.Kind, .string (bs x464.Name), .string (bs x464.Other), .int .i64 x464.Op, .int .i64 x464.N, .int .i64 x464.Frames, v475]) agg54 rfl sz54 rfl (Blk.cells (H.item (i := 7) rfl))) rfl) ?_
   refine zH (zM one3 rfl (Cells.get (Blk.cells (H.item (i := 3) rfl)) (i := 0) rfl)) ?_
   obtain ⟨x483, e484, hF⟩ := zD hF
   refine zW rfl rfl (zT en62 rfl) (rhG x464 p1 v475 _ e484 _ _ _ (H.enter [] [6] (by decide) rfl)) ?_
   rintro _ w487 ⟨v485, rfl, G488⟩
   have H := H.back1 [6] rfl G488
   refine ⟨_, rfl, ?_⟩
   obtain ⟨x489, e490, hF⟩ := zG hF
   subst e490
   refine yT rfl rfl (Lx_bs (r := rCond) (xl := [x483]) (cs := [.int .i64 x483.Kind, .string (bs x483.Name), .string (bs x483.Other), .int .i64 x483.Op, .int .i64 x483.N, .int .i64 x483.Frames, v485]) u52 el54 (by decide) (by decide) rfl (xK (vs := [.agg [.int .i64 x483.Kind, .string (bs x483.Name), .string (bs x483.Other), .int .i64 x483.Op, .int .i64 x483.N, .int .i64 x483.Frames, v485].toArray]) (by decide) rfl rfl ⟨rfl, trivial⟩ rfl) H ⟨[.int .i64 x483.Kind, .string (bs x483.Name), .string (bs x483.Other), .int .i64 x483.Op, .int .i64 x483.N, .int .i64 x483.Frames, v485], [], rfl, (rCond_mk (x := x483) (H.item (i := 8) rfl)), rfl⟩) ?_
   rintro v492 w493 H
   obtain ⟨x494, e495, hF⟩ := zD hF
   refine yT rfl rfl (Lx_app H (i := 0) rfl u52 el54 rfl rfl (Sr.of_own (H.item (i := 9) rfl)) e495) ?_
   rintro v496 w497 H
   refine zI v496 ?_
   refine (zF (yU (zA (hK462 _ _ ?_))))
   refine zB ?_
   obtain ⟨x498, e499, hF⟩ := zG hF
   refine zH (xX (a := g413) (b := 1) rfl rfl e499) ?_
   refine zN (.int .i64 x498) ?_
   exact (zF (zA (meet ⟨(n420, x494, x498, v496), (zL rfl (zL rfl zO)), ⟨H.pick [0, 1, 2, 3, 4] (by decide), hF⟩, Nat.lt_succ_self _⟩)))
  have hF := zS c426 hF
  obtain rfl := someI hF
  exact (xP (yR (yR (xA (zA (meet ⟨v412, (zL rfl zO), H.pick [0, 1, 2, 4] (by decide)⟩))))))
 rintro v237 ρ w238 H
 have hF := hK239
 refine zC fun K500 hK500 => ?_
 refine zB ?_
 refine zN v237 ?_
 refine zH (fa54_6 rfl) ?_
 refine yS rfl (xM H 2 rfl sz52 rfl (v := v237) rfl (xU (H.item (i := 0) rfl)) rfl) ?_
 rintro w501 H
 refine (zF (zA (hK500 _ _ ?_)))
 refine zC fun K502 hK502 => ?_
 refine zB ?_
 refine zH (yL (yH (cs := [.int .i64 p0.Kind, .string (bs p0.Name), .string (bs p0.Other), .int .i64 p0.Op, .int .i64 g45, .int .i64 g24, v237]) agg54 rfl sz54 rfl (Blk.cells (H.item (i := 2) rfl))) rfl) ?_
 refine yS rfl (yI (vs := [.int .i64 p0.Kind, .string (bs p0.Name), .string (bs p0.Other), .int .i64 p0.Op, .int .i64 g45, .int .i64 g24, v237]) H 3 rfl sz54 rfl rfl rfl ⟨rfl, rfl, rfl, rfl, rfl, rfl, (xU (H.item (i := 0) rfl)), trivial⟩ rfl) ?_
 rintro w503 H
 refine (zF (zA (hK502 _ _ ?_)))
 have H := H.freeze (i := 0) rfl
 obtain rfl := someI hF
 refine (yB (postc  rfl rfl (yD agg54 sz54 rfl (Blk.cells (H.item (i := 3) rfl))) ?_))
 exact ⟨v237, rfl, H.pick [0] (by decide)⟩
theorem F_event_slower_s : S_event_slower (F_event_slower) := by
 have h : ∀ n, S_event_slower (F_event_slower_R n) := by
  intro n
  induction n with
  | zero => intro p0 p1 v1 r hF; cases hF
  | succ n ih => intro p0 p1 v1 r hF; exact F_event_slower_B_w (F_event_slower_R n) ih p0 p1 v1 r hF
 exact h FU
set_option maxHeartbeats 4000000 in
set_option maxRecDepth 100000 in
theorem F_event_Slower_w (p0 : Rules) (p1 : Int) (v1 : Value) (v2 : Value) (v3 : Value) (r : Rules × Int) (hF : F_event_Slower p0 p1 = some r) (O S : List Nat) (w : World) (H : Hd O w w S [.fz (.sl Rp.str v1 p0.Phases), .fz (.sl rMoveT v2 p0.Moves), .fz (.sl rRule v3 p0.Rules)]) :
  Calls Tryz.prog 21 ([.agg [v1, v2, v3].toArray, .int .i64 p1] : List Value).toArray w fun e w' => ∃ u7 u8 u9, e = .returned (.tuple #[.agg [u7, u8, u9].toArray, .int .i64 r.2]) ∧ Hd O w w' S [.fz (.sl Rp.str u7 r.1.Phases), .fz (.sl rMoveT u8 r.1.Moves), .fz (.sl rRule u9 r.1.Rules)] := by
 unfold F_event_Slower at hF
 refine yC 65 Tryz.func21 rfl rfl rfl ?_
 refine zC fun K10 hK10 => ?_
 refine zB ?_
 refine yT rfl rfl (wL (cs := [v1, v2, v3]) rfl H) ?_
 rintro _ w13 ⟨b11, rfl, H⟩
 refine yT rfl rfl (xG zero26 H) ?_
 rintro _ w16 ⟨b14, rfl, H⟩
 refine zI (.int .i64 0) ?_
 refine (zF (zA (hK10 _ _ ?_)))
 refine zC fun K29 hK29 => ?_
 refine zC fun K30 hK30 => ?_
 refine zB ?_
 refine zH (yL (yH (cs := [v1, v2, v3]) agg26 rfl sz26 rfl (Blk.cells (H.item (i := 3) rfl))) rfl) ?_
 have H31 := H
 obtain ⟨x32, e33, hF⟩ := zD hF
 refine zW rfl rfl (zT en40 rfl) (F_event_Check_w p0 v1 v2 v3 _ e33 _ _ _ (H.enter [] [0, 1, 2] (by decide) rfl)) ?_
 rintro _ w34 ⟨rfl, G35⟩
 have H := H31.step (G35.only : Only [] _ _)
 refine ⟨_, rfl, ?_⟩
 refine zI (.int .i64 x32) ?_
 refine (zF (zA (hK30 _ _ ?_)))
 refine zC fun K36 hK36 => ?_
 refine zB ?_
 refine zN (.int .i64 x32) ?_
 obtain ⟨x37, e38, hF⟩ := zG hF
 refine zH (zV (Do_neq (a := x32) (b := 0) rfl rfl) e38) ?_
 refine (zF (zA (hK36 _ _ ?_)))
 refine zZ (b := x37) rfl (fun c39 => ?_) (fun c39 => ?_)
 ·have hF := zQ c39 hF
  refine zC fun K40 hK40 => ?_
  refine zB ?_
  refine zH (xN (cs := [.slice none 0 0, .slice none 0 0, .slice none 0 0]) bz26) ?_
  refine zN (.int .i64 x32) ?_
  refine yS rfl (yI (vs := [.slice none 0 0, .slice none 0 0, .slice none 0 0]) H 4 rfl sz26 rfl rfl rfl ⟨rfl, rfl, rfl, trivial⟩ rfl) ?_
  rintro w41 H
  refine zI (.int .i64 x32) ?_
  refine (zF (zA (hK40 _ _ ?_)))
  have H := H.fz (.sl Rp.str (.slice none 0 0) []) SlF.nil
  have H := H.fz (.sl rMoveT (.slice none 0 0) []) SlF.nil
  have H := H.fz (.sl rRule (.slice none 0 0) []) SlF.nil
  obtain rfl := someI hF
  refine (yB (zX (postc1 (v1 := .int .i64 x32) rfl rfl (yD agg26 sz26 rfl (Blk.cells (H.item (i := 4) rfl))) rfl ?_)))
  exact ⟨.slice none 0 0, .slice none 0 0, .slice none 0 0, rfl, H.pick [5, 6, 7] (by decide)⟩
 have hF := zS c39 hF
 refine (yA (zA (hK29 _ _ ?_)))
 refine zC fun K56 hK56 => ?_
 refine zC fun K57 hK57 => ?_
 refine zB ?_
 refine zN (.int .i64 p1) ?_
 have H58 := H
 obtain ⟨x59, e60, hF⟩ := zD hF
 refine zW rfl rfl (zT en60 rfl) (F_event_within_w p1 1 64 _ e60 _ _ _ (H.enter [] [] (by decide) rfl)) ?_
 rintro _ w61 ⟨rfl, G62⟩
 have H := H58.step (G62.only : Only [] _ _)
 refine ⟨_, rfl, ?_⟩
 obtain ⟨x63, e64, hF⟩ := zG hF
 refine zH (zV (wO (p := x59) rfl) e64) ?_
 refine (zF (zA (hK57 _ _ ?_)))
 refine zZ (b := x63) rfl (fun c65 => ?_) (fun c65 => ?_)
 ·have hF := zQ c65 hF
  refine zC fun K66 hK66 => ?_
  refine zB ?_
  refine zH (xN (cs := [.slice none 0 0, .slice none 0 0, .slice none 0 0]) bz26) ?_
  refine yS rfl (yI (vs := [.slice none 0 0, .slice none 0 0, .slice none 0 0]) H 4 rfl sz26 rfl rfl rfl ⟨rfl, rfl, rfl, trivial⟩ rfl) ?_
  rintro w67 H
  refine zI (.int .i64 9) ?_
  refine (zF (zA (hK66 _ _ ?_)))
  have H := H.fz (.sl Rp.str (.slice none 0 0) []) SlF.nil
  have H := H.fz (.sl rMoveT (.slice none 0 0) []) SlF.nil
  have H := H.fz (.sl rRule (.slice none 0 0) []) SlF.nil
  obtain rfl := someI hF
  refine (yB (zX (postc1 (v1 := .int .i64 9) rfl rfl (yD agg26 sz26 rfl (Blk.cells (H.item (i := 4) rfl))) rfl ?_)))
  exact ⟨.slice none 0 0, .slice none 0 0, .slice none 0 0, rfl, H.pick [5, 6, 7] (by decide)⟩
 have hF := zS c65 hF
 refine (yA (zA (hK56 _ _ ?_)))
 refine zC fun K71 hK71 => ?_
 refine zB ?_
 refine zH (fa26_0 rfl) ?_
 refine zH (zM one22 rfl (Cells.get (Blk.cells (H.item (i := 3) rfl)) (i := 0) rfl)) ?_
 obtain ⟨x72, e73, hF⟩ := zD hF
 refine zW rfl rfl (zT en61 rfl) (F_slices_Clone___string_string__w p0.Phases v1 _ e73 _ _ _ (H.enter [] [0] (by decide) rfl)) ?_
 rintro _ w76 ⟨v74, rfl, G77⟩
 have H := H.back1 [0] rfl G77
 refine ⟨_, rfl, ?_⟩
 obtain ⟨a78, c79, q80⟩ : ∃ a c, v74 = .slice a _ c := Sr.len (Sr.of_own (H.item (i := 5) rfl))
 refine zH (xN (cs := [v74, .slice none 0 0, .slice none 0 0]) (by rw [q80]; exact bt26_0 a78 _ c79)) ?_
 refine yT rfl rfl (xG zero26 H) ?_
 rintro _ w83 ⟨b81, rfl, H⟩
 refine yS rfl (yI (vs := [v74, .slice none 0 0, .slice none 0 0]) H 6 rfl sz26 rfl rfl rfl ⟨(xU (H.item (i := 5) rfl)), rfl, rfl, trivial⟩ rfl) ?_
 rintro w84 H
 refine (zF (zA (hK71 _ _ ?_)))
 obtain ⟨g275, hF, hK278⟩ := zD hF
 refine yO [9, 26, 27, 28, 29, 30, 31, 32, 33, 34, 35, 36, 37, 38, 39, 40, 41, 42, 43, 44] (fun (g : Value) => []) (fun g wl => Hd O w wl S [.fz (.sl Rp.str v1 p0.Phases), .fz (.sl rMoveT v2 p0.Moves), .fz (.sl rRule v3 p0.Rules), .blk b11 [v1, v2, v3] 26, .blk b14 [.slice none 0 0, .slice none 0 0, .slice none 0 0] 26, .own Rp.str v74 9 x72, .blk b81 [v74, g, .slice none 0 0] 26, .own rMoveT g 102 g275]) ?_ ?_
 ·skip
  refine zC fun K279 hK279 => ?_
  refine zB ?_
  refine zH (fa26_1 rfl) ?_
  refine zH (zM one23 rfl (Cells.get (Blk.cells (H.item (i := 3) rfl)) (i := 1) rfl)) ?_
  obtain ⟨x280, e281, hF⟩ := zG hF
  obtain ⟨a282, c283, q284⟩ := SlF.len ((H.item (i := 1) rfl))
  refine zH (yL (xW u23 q284) (congrArg (Value.int .i64) e281)) ?_
  refine zN (.int .i64 0) ?_
  refine (zF (zA (hK279 _ _ ?_)))
  refine yF ?_
  have H := own_nil H rMoveT 102
  unfold F_event_Slower_L1 at hF
  obtain ⟨B466, n467, eB468, hF⟩ := yV hF
  refine xJ [9, 29, 30, 31, 32, 33, 34, 35, 36, 37, 38, 39, 40, 41, 42, 43, 44] (fun (g : Nat × Int × (List MoveT) × Value) => [(29, .int .i64 g.2.1)]) (fun g wl => Hd O w wl S [.fz (.sl Rp.str v1 p0.Phases), .fz (.sl rMoveT v2 p0.Moves), .fz (.sl rRule v3 p0.Rules), .blk b11 [v1, v2, v3] 26, .blk b14 [.slice none 0 0, .slice none 0 0, .slice none 0 0] 26, .own Rp.str v74 9 x72, .blk b81 [v74, g.2.2.2, .slice none 0 0] 26, .own rMoveT g.2.2.2 102 g.2.2.1] ∧ loopN B466 g.1 (g.2.1, g.2.2.1) = some g275) (fun g => g.1) (n467, 0, [], .slice none 0 0) (zL rfl zO) ⟨H.pick [0, 1, 2, 3, 4, 5, 6, 7] (by decide), hF⟩ ?_
  clear H hF
  rintro ⟨n467, g461, g463, v464⟩ ρ w470 ⟨H, hF⟩
  obtain ⟨n471, rfl, hF⟩ := xB hF
  have hF := yZ eB468 hF
  refine zC fun K472 hK472 => ?_
  refine zB ?_
  obtain ⟨x473, e474, hF⟩ := zG hF
  refine zH (zV (xQ (a := g461) (b := x280) rfl rfl) e474) ?_
  refine (zF (zA (hK472 _ _ ?_)))
  refine zC fun K476 hK476 => ?_
  refine zZ (b := x473) rfl (fun c477 => ?_) (fun c477 => ?_)
  ·have hF := zQ c477 hF
   refine (yA (zA (hK476 _ _ ?_)))
   refine zC fun K516 hK516 => ?_
   refine yF ?_
   refine zC fun K517 hK517 => ?_
   refine zB ?_
   obtain ⟨x518, e519, hF⟩ := zD hF
   obtain ⟨b520, o521, c522, cs523, q524, h527, h525, h526, h528⟩ := wQ (H.item (i := 1) rfl) e519
   obtain ⟨v529, rfl, h530⟩ := rMoveT_open h527
   have H := H.fzs [.at b520 (o521 + g461.toNat * 9) _, .sl rCond v529 x518.When.Kids] ⟨⟨h525, h526, h528⟩, h530, trivial⟩
   refine zH (xY u23 sz102 q524 rfl (yN e519).1 (yN e519).2.1 rfl rfl) ?_
   refine zH (yL (yH (cs := [.string (bs x518.From), .string (bs x518.To), .int .i64 x518.When.Kind, .string (bs x518.When.Name), .string (bs x518.When.Other), .int .i64 x518.When.Op, .int .i64 x518.When.N, .int .i64 x518.When.Frames, v529]) agg102 rfl sz102 rfl (H.item (i := 8) rfl).2.2) rfl) ?_
   refine yT rfl rfl (xG zero102 H) ?_
   rintro _ w535 ⟨b533, rfl, H⟩
   refine yS rfl (yI (vs := [.string (bs x518.From), .string (bs x518.To), .int .i64 x518.When.Kind, .string (bs x518.When.Name), .string (bs x518.When.Other), .int .i64 x518.When.Op, .int .i64 x518.When.N, .int .i64 x518.When.Frames, v529]) H 10 rfl sz102 rfl rfl rfl ⟨rfl, rfl, rfl, rfl, rfl, rfl, rfl, rfl, (xR (H.item (i := 9) rfl)), trivial⟩ rfl) ?_
   rintro w536 H
   refine (zF (zA (hK517 _ _ ?_)))
   refine zC fun K537 hK537 => ?_
   refine zB ?_
   refine zH (fa102_2 rfl) ?_
   refine zH (yL (yH (cs := [.int .i64 x518.When.Kind, .string (bs x518.When.Name), .string (bs x518.When.Other), .int .i64 x518.When.Op, .int .i64 x518.When.N, .int .i64 x518.When.Frames, v529]) agg54 rfl sz54 rfl (Cells.drop (Blk.cells (H.item (i := 10) rfl)) 2 7)) rfl) ?_
   refine zN (.int .i64 p1) ?_
   obtain ⟨x538, e539, hF⟩ := zD hF
   refine zW rfl rfl (zT en62 rfl) (F_event_slower_s x518.When p1 v529 _ e539 _ _ _ (H.enter [] [9] (by decide) rfl)) ?_
   rintro _ w542 ⟨v540, rfl, G543⟩
   have H := H.back1 [9] rfl G543
   refine ⟨_, rfl, ?_⟩
   refine zH (fa102_2 rfl) ?_
   refine yS rfl (yI (vs := [.int .i64 x538.Kind, .string (bs x538.Name), .string (bs x538.Other), .int .i64 x538.Op, .int .i64 x538.N, .int .i64 x538.Frames, v540]) H 10 rfl sz54 rfl rfl rfl ⟨rfl, rfl, rfl, rfl, rfl, rfl, (xR (H.item (i := 11) rfl)), trivial⟩ rfl) ?_
   rintro w544 H
   refine (zF (zA (hK537 _ _ ?_)))
   have H : Hd O w w544 S [.fz (.sl Rp.str v1 p0.Phases), .fz (.sl rMoveT v2 p0.Moves), .fz (.sl rRule v3 p0.Rules), .blk b11 [v1, v2, v3] 26, .blk b14 [.slice none 0 0, .slice none 0 0, .slice none 0 0] 26, .own Rp.str v74 9 x72, .blk b81 [v74, v464, .slice none 0 0] 26, .own rMoveT v464 102 g463, .blk b533 [.string (bs x518.From), .string (bs x518.To), .int .i64 x538.Kind, .string (bs x538.Name), .string (bs x538.Other), .int .i64 x538.Op, .int .i64 x538.N, .int .i64 x538.Frames, v540] 102, .fz (.sl rCond v540 x538.Kids)] := H.pick [0, 1, 2, 3, 4, 5, 6, 7, 10, 11] (by decide)
   refine zB ?_
   refine zH (fa26_1 rfl) ?_
   refine zH (zM one23 rfl (Cells.get (Blk.cells (H.item (i := 6) rfl)) (i := 1) rfl)) ?_
   refine zH (yL (yH (cs := [.string (bs x518.From), .string (bs x518.To), .int .i64 x538.Kind, .string (bs x538.Name), .string (bs x538.Other), .int .i64 x538.Op, .int .i64 x538.N, .int .i64 x538.Frames, v540]) agg102 rfl sz102 rfl (Blk.cells (H.item (i := 8) rfl))) rfl) ?_
   obtain ⟨x545, e546, hF⟩ := zG hF
   subst e546
   refine yT rfl rfl (Lx_bs (r := rMoveT) (xl := [MoveT.mk x518.From x518.To x538]) (cs := [.string (bs x518.From), .string (bs x518.To), .int .i64 x538.Kind, .string (bs x538.Name), .string (bs x538.Other), .int .i64 x538.Op, .int .i64 x538.N, .int .i64 x538.Frames, v540]) u23 el102 (by decide) (by decide) rfl (xK (vs := [.agg [.string (bs x518.From), .string (bs x518.To), .int .i64 x538.Kind, .string (bs x538.Name), .string (bs x538.Other), .int .i64 x538.Op, .int .i64 x538.N, .int .i64 x538.Frames, v540].toArray]) (by decide) rfl rfl ⟨rfl, trivial⟩ rfl) H ⟨[.string (bs x518.From), .string (bs x518.To), .int .i64 x538.Kind, .string (bs x538.Name), .string (bs x538.Other), .int .i64 x538.Op, .int .i64 x538.N, .int .i64 x538.Frames, v540], [], rfl, (rMoveT_mk (x := MoveT.mk x518.From x518.To x538) (H.item (i := 9) rfl)), rfl⟩) ?_
   rintro v548 w549 H
   obtain ⟨x550, e551, hF⟩ := zD hF
   refine yT rfl rfl (Lx_app H (i := 7) rfl u23 el102 rfl rfl (Sr.of_own (H.item (i := 10) rfl)) e551) ?_
   rintro v552 w553 H
   refine zH (fa26_1 rfl) ?_
   refine yS rfl (xM H 6 rfl sz23 rfl (v := v552) rfl (xU (H.item (i := 7) rfl)) rfl) ?_
   rintro w554 H
   refine (zF (yU (zA (hK516 _ _ ?_))))
   refine zB ?_
   obtain ⟨x555, e556, hF⟩ := zG hF
   refine zH (xX (a := g461) (b := 1) rfl rfl e556) ?_
   refine zN (.int .i64 x555) ?_
   exact (zF (zA (meet ⟨(n471, x555, x550, v552), (zL rfl zO), ⟨H.pick [0, 1, 2, 3, 4, 5, 6, 7] (by decide), hF⟩, Nat.lt_succ_self _⟩)))
  have hF := zS c477 hF
  obtain rfl := someI hF
  exact (xP (yR (yR (xA (zA (meet ⟨v464, zO, H.pick [0, 1, 2, 3, 4, 5, 6, 7] (by decide)⟩))))))
 rintro v276 ρ w277 H
 have hF := hK278
 obtain ⟨g747, hF, hK750⟩ := zD hF
 refine yO [11, 45, 46, 47, 48, 49, 50, 51, 52, 53, 54, 55, 56, 57, 58, 59, 60, 61, 62, 63] (fun (g : Value) => []) (fun g wl => Hd O w wl S [.blk b14 [.slice none 0 0, .slice none 0 0, .slice none 0 0] 26, .own Rp.str v74 9 x72, .blk b81 [v74, v276, g] 26, .own rMoveT v276 102 g275, .own rRule g 106 g747]) ?_ ?_
 ·skip
  refine zC fun K751 hK751 => ?_
  refine zB ?_
  refine zH (fa26_2 rfl) ?_
  refine zH (zM one24 rfl (Cells.get (Blk.cells (H.item (i := 3) rfl)) (i := 2) rfl)) ?_
  obtain ⟨x752, e753, hF⟩ := zG hF
  obtain ⟨a754, c755, q756⟩ := SlF.len ((H.item (i := 2) rfl))
  refine zH (yL (xW u24 q756) (congrArg (Value.int .i64) e753)) ?_
  refine zN (.int .i64 0) ?_
  refine (zF (zA (hK751 _ _ ?_)))
  refine yF ?_
  have H := own_nil H rRule 106
  unfold F_event_Slower_L2 at hF
  obtain ⟨B938, n939, eB940, hF⟩ := yV hF
  refine xJ [11, 48, 49, 50, 51, 52, 53, 54, 55, 56, 57, 58, 59, 60, 61, 62, 63] (fun (g : Nat × Int × (List Rule) × Value) => [(48, .int .i64 g.2.1)]) (fun g wl => Hd O w wl S [.fz (.sl rRule v3 p0.Rules), .blk b14 [.slice none 0 0, .slice none 0 0, .slice none 0 0] 26, .own Rp.str v74 9 x72, .blk b81 [v74, v276, g.2.2.2] 26, .own rMoveT v276 102 g275, .own rRule g.2.2.2 106 g.2.2.1] ∧ loopN B938 g.1 (g.2.1, g.2.2.1) = some g747) (fun g => g.1) (n939, 0, [], .slice none 0 0) (zL rfl zO) ⟨H.pick [2, 4, 5, 6, 7, 8] (by decide), hF⟩ ?_
  clear H hF
  rintro ⟨n939, g933, g935, v936⟩ ρ w942 ⟨H, hF⟩
  obtain ⟨n943, rfl, hF⟩ := xB hF
  have hF := yZ eB940 hF
  refine zC fun K944 hK944 => ?_
  refine zB ?_
  obtain ⟨x945, e946, hF⟩ := zG hF
  refine zH (zV (xQ (a := g933) (b := x752) rfl rfl) e946) ?_
  refine (zF (zA (hK944 _ _ ?_)))
  refine zC fun K948 hK948 => ?_
  refine zZ (b := x945) rfl (fun c949 => ?_) (fun c949 => ?_)
  ·have hF := zQ c949 hF
   refine (yA (zA (hK948 _ _ ?_)))
   refine zC fun K988 hK988 => ?_
   refine yF ?_
   refine zC fun K989 hK989 => ?_
   refine zB ?_
   obtain ⟨x990, e991, hF⟩ := zD hF
   obtain ⟨b992, o993, c994, cs995, q996, h999, h997, h998, h1000⟩ := wQ (H.item (i := 0) rfl) e991
   obtain ⟨v1001, rfl, h1002⟩ := rRule_open h999
   have H := H.fzs [.at b992 (o993 + g933.toNat * 8) _, .sl rCond v1001 x990.When.Kids] ⟨⟨h997, h998, h1000⟩, h1002, trivial⟩
   refine zH (xY u24 sz106 q996 rfl (yN e991).1 (yN e991).2.1 rfl rfl) ?_
   refine zH (yL (yH (cs := [.string (bs x990.Name), .int .i64 x990.When.Kind, .string (bs x990.When.Name), .string (bs x990.When.Other), .int .i64 x990.When.Op, .int .i64 x990.When.N, .int .i64 x990.When.Frames, v1001]) agg106 rfl sz106 rfl (H.item (i := 6) rfl).2.2) rfl) ?_
   refine yT rfl rfl (xG zero106 H) ?_
   rintro _ w1007 ⟨b1005, rfl, H⟩
   refine yS rfl (yI (vs := [.string (bs x990.Name), .int .i64 x990.When.Kind, .string (bs x990.When.Name), .string (bs x990.When.Other), .int .i64 x990.When.Op, .int .i64 x990.When.N, .int .i64 x990.When.Frames, v1001]) H 8 rfl sz106 rfl rfl rfl ⟨rfl, rfl, rfl, rfl, rfl, rfl, rfl, (xR (H.item (i := 7) rfl)), trivial⟩ rfl) ?_
   rintro w1008 H
   refine (zF (zA (hK989 _ _ ?_)))
   refine zC fun K1009 hK1009 => ?_
   refine zB ?_
   refine zH (fa106_1 rfl) ?_
   refine zH (yL (yH (cs := [.int .i64 x990.When.Kind, .string (bs x990.When.Name), .string (bs x990.When.Other), .int .i64 x990.When.Op, .int .i64 x990.When.N, .int .i64 x990.When.Frames, v1001]) agg54 rfl sz54 rfl (Cells.drop (Blk.cells (H.item (i := 8) rfl)) 1 7)) rfl) ?_
   refine zN (.int .i64 p1) ?_
   obtain ⟨x1010, e1011, hF⟩ := zD hF
   refine zW rfl rfl (zT en62 rfl) (F_event_slower_s x990.When p1 v1001 _ e1011 _ _ _ (H.enter [] [7] (by decide) rfl)) ?_
   rintro _ w1014 ⟨v1012, rfl, G1015⟩
   have H := H.back1 [7] rfl G1015
   refine ⟨_, rfl, ?_⟩
   refine zH (fa106_1 rfl) ?_
   refine yS rfl (yI (vs := [.int .i64 x1010.Kind, .string (bs x1010.Name), .string (bs x1010.Other), .int .i64 x1010.Op, .int .i64 x1010.N, .int .i64 x1010.Frames, v1012]) H 8 rfl sz54 rfl rfl rfl ⟨rfl, rfl, rfl, rfl, rfl, rfl, (xR (H.item (i := 9) rfl)), trivial⟩ rfl) ?_
   rintro w1016 H
   refine (zF (zA (hK1009 _ _ ?_)))
   refine zB ?_
   refine zH (fa26_2 rfl) ?_
   refine zH (zM one24 rfl (Cells.get (Blk.cells (H.item (i := 3) rfl)) (i := 2) rfl)) ?_
   refine zH (yL (yH (cs := [.string (bs x990.Name), .int .i64 x1010.Kind, .string (bs x1010.Name), .string (bs x1010.Other), .int .i64 x1010.Op, .int .i64 x1010.N, .int .i64 x1010.Frames, v1012]) agg106 rfl sz106 rfl (Blk.cells (H.item (i := 8) rfl))) rfl) ?_
   obtain ⟨x1017, e1018, hF⟩ := zG hF
   subst e1018
   refine yT rfl rfl (Lx_bs (r := rRule) (xl := [Rule.mk x990.Name x1010]) (cs := [.string (bs x990.Name), .int .i64 x1010.Kind, .string (bs x1010.Name), .string (bs x1010.Other), .int .i64 x1010.Op, .int .i64 x1010.N, .int .i64 x1010.Frames, v1012]) u24 el106 (by decide) (by decide) rfl (xK (vs := [.agg [.string (bs x990.Name), .int .i64 x1010.Kind, .string (bs x1010.Name), .string (bs x1010.Other), .int .i64 x1010.Op, .int .i64 x1010.N, .int .i64 x1010.Frames, v1012].toArray]) (by decide) rfl rfl ⟨rfl, trivial⟩ rfl) H ⟨[.string (bs x990.Name), .int .i64 x1010.Kind, .string (bs x1010.Name), .string (bs x1010.Other), .int .i64 x1010.Op, .int .i64 x1010.N, .int .i64 x1010.Frames, v1012], [], rfl, (rRule_mk (x := Rule.mk x990.Name x1010) (H.item (i := 9) rfl)), rfl⟩) ?_
   rintro v1020 w1021 H
   obtain ⟨x1022, e1023, hF⟩ := zD hF
   refine yT rfl rfl (Lx_app H (i := 5) rfl u24 el106 rfl rfl (Sr.of_own (H.item (i := 10) rfl)) e1023) ?_
   rintro v1024 w1025 H
   refine zH (fa26_2 rfl) ?_
   refine yS rfl (xM H 3 rfl sz24 rfl (v := v1024) rfl (xU (H.item (i := 5) rfl)) rfl) ?_
   rintro w1026 H
   refine (zF (yU (zA (hK988 _ _ ?_))))
   refine zB ?_
   obtain ⟨x1027, e1028, hF⟩ := zG hF
   refine zH (xX (a := g933) (b := 1) rfl rfl e1028) ?_
   refine zN (.int .i64 x1027) ?_
   exact (zF (zA (meet ⟨(n943, x1027, x1022, v1024), (zL rfl zO), ⟨H.pick [0, 1, 2, 3, 4, 5] (by decide), hF⟩, Nat.lt_succ_self _⟩)))
  have hF := zS c949 hF
  obtain rfl := someI hF
  exact (xP (yR (yR (xA (zA (meet ⟨v936, zO, H.pick [1, 2, 3, 4, 5] (by decide)⟩))))))
 rintro v748 ρ w749 H
 have hF := hK750
 refine zC fun K1029 hK1029 => ?_
 refine zB ?_
 refine zH (yL (yH (cs := [v74, v276, v748]) agg26 rfl sz26 rfl (Blk.cells (H.item (i := 2) rfl))) rfl) ?_
 refine yS rfl (yI (vs := [v74, v276, v748]) H 0 rfl sz26 rfl rfl rfl ⟨(xU (H.item (i := 1) rfl)), (xU (H.item (i := 3) rfl)), (xU (H.item (i := 4) rfl)), trivial⟩ rfl) ?_
 rintro w1030 H
 refine zI (.int .i64 0) ?_
 refine (zF (zA (hK1029 _ _ ?_)))
 have H := H.freeze (i := 1) rfl
 have H := H.freeze (i := 3) rfl
 have H := H.freeze (i := 4) rfl
 obtain rfl := someI hF
 refine (yB (postc1 (v1 := .int .i64 0) rfl rfl (yD agg26 sz26 rfl (Blk.cells (H.item (i := 0) rfl))) rfl ?_))
 exact ⟨v74, v276, v748, rfl, H.pick [1, 3, 4] (by decide)⟩
set_option maxHeartbeats 4000000 in
theorem F_ref6_outside_w (p0 : Int) (p1 : Int) (p2 : Int) (r : Bool) (hF : F_ref6_outside p0 p1 p2 = some r) (O S : List Nat) (w : World) (H : Hd O w w S []) :
  Calls Tryz.prog 63 ([.int .i64 p0, .int .i64 p1, .int .i64 p2] : List Value).toArray w fun e w' => e = .returned (.bool r) ∧ Hd O w w' S [] := by
 unfold F_ref6_outside at hF
 refine yC 15 Tryz.func63 rfl rfl rfl ?_
 refine zC fun K1 hK1 => ?_
 refine zB ?_
 refine zI (.bool false) ?_
 refine (zF (zA (hK1 _ _ ?_)))
 obtain ⟨g7, hF, hK9⟩ := zD hF
 refine yO [6, 7, 8, 9, 10, 11, 12, 13, 14] (fun (g : Unit) => [(6, .bool g7)]) (fun g wl => Hd O w wl S []) ?_ ?_
 ·skip
  refine zB ?_
  refine zN (.int .i64 p0) ?_
  refine zN (.int .i64 p1) ?_
  obtain ⟨x10, e11, hF⟩ := zG hF
  refine zH (zV (xQ (a := p0) (b := p1) rfl rfl) e11) ?_
  refine yQ (b := x10) rfl rfl rfl (fun c12 => ?_) (fun c12 => ?_)
  ·have hF := zQ c12 hF
   refine yG ?_
   refine yG ?_
   refine yG ?_
   refine zH (yP (v := .bool true) rfl rfl) ?_
   refine zI (.bool true) ?_
   obtain rfl := someI hF
   exact (zF (zA (meet ⟨(), (zL rfl zO), H.pick [] (by decide)⟩)))
  have hF := zS c12 hF
  refine zN (.int .i64 p0) ?_
  refine zN (.int .i64 p2) ?_
  obtain ⟨x13, e14, hF⟩ := zG hF
  refine zH (zV (Do_gtr (a := p0) (b := p2) rfl rfl) e14) ?_
  refine zH (yJ (v := .bool x13) rfl rfl) ?_
  refine zI (.bool x13) ?_
  obtain rfl := someI hF
  exact (zF (zA (meet ⟨(), (zL rfl zO), H.pick [] (by decide)⟩)))
 rintro _ ρ w8 H
 have hF := hK9
 obtain rfl := someI hF
 refine (yB (post1 (v1 := .bool g7) rfl rfl ?_))
 exact ⟨rfl, H.pick [] (by decide)⟩
set_option maxHeartbeats 4000000 in
theorem F_ref6_words_w (r : (List Str)) (hF : F_ref6_words = some r) (O S : List Nat) (w : World) (H : Hd O w w S []) :
  Calls Tryz.prog 160 ([] : List Value).toArray w fun e w' => ∃ u1, e = .returned (u1) ∧ Hd O w w' S [.own Rp.str u1 9 r] := by
 unfold F_ref6_words at hF
 refine yC 2 Tryz.func160 rfl rfl rfl ?_
 refine zC fun K2 hK2 => ?_
 refine zB ?_
 refine zI (.slice none 0 0) ?_
 refine (zF (zA (hK2 _ _ ?_)))
 refine zC fun K3 hK3 => ?_
 refine zB ?_
 obtain ⟨x4, e5, hF⟩ := zG hF
 subst e5
 refine yT rfl rfl (Lx_bs (r := Rp.str) (xl := [[112, 104, 97, 115, 101], [109, 111, 118, 101], [114, 117, 108, 101], [105, 102], [111, 114], [97, 110, 100], [116, 114, 117, 101], [102, 97, 108, 115, 101], [115, 116, 101, 97, 100, 121], [110, 111, 116], [102, 111, 114], [119, 105, 116, 104, 105, 110], [99, 111, 117, 110, 116], [111, 102], [114, 105, 115, 101, 115], [115, 105, 110, 99, 101]]) (cs := [.string (bs [112, 104, 97, 115, 101]), .string (bs [109, 111, 118, 101]), .string (bs [114, 117, 108, 101]), .string (bs [105, 102]), .string (bs [111, 114]), .string (bs [97, 110, 100]), .string (bs [116, 114, 117, 101]), .string (bs [102, 97, 108, 115, 101]), .string (bs [115, 116, 101, 97, 100, 121]), .string (bs [110, 111, 116]), .string (bs [102, 111, 114]), .string (bs [119, 105, 116, 104, 105, 110]), .string (bs [99, 111, 117, 110, 116]), .string (bs [111, 102]), .string (bs [114, 105, 115, 101, 115]), .string (bs [115, 105, 110, 99, 101])]) u22 el9 (by decide) (by decide) rfl (xK (vs := [.string (bs [112, 104, 97, 115, 101]), .string (bs [109, 111, 118, 101]), .string (bs [114, 117, 108, 101]), .string (bs [105, 102]), .string (bs [111, 114]), .string (bs [97, 110, 100]), .string (bs [116, 114, 117, 101]), .string (bs [102, 97, 108, 115, 101]), .string (bs [115, 116, 101, 97, 100, 121]), .string (bs [110, 111, 116]), .string (bs [102, 111, 114]), .string (bs [119, 105, 116, 104, 105, 110]), .string (bs [99, 111, 117, 110, 116]), .string (bs [111, 102]), .string (bs [114, 105, 115, 101, 115]), .string (bs [115, 105, 110, 99, 101])]) (by decide) rfl rfl ⟨rfl, rfl, rfl, rfl, rfl, rfl, rfl, rfl, rfl, rfl, rfl, rfl, rfl, rfl, rfl, rfl, trivial⟩ rfl) H ⟨[.string (bs [112, 104, 97, 115, 101])], [.string (bs [109, 111, 118, 101]), .string (bs [114, 117, 108, 101]), .string (bs [105, 102]), .string (bs [111, 114]), .string (bs [97, 110, 100]), .string (bs [116, 114, 117, 101]), .string (bs [102, 97, 108, 115, 101]), .string (bs [115, 116, 101, 97, 100, 121]), .string (bs [110, 111, 116]), .string (bs [102, 111, 114]), .string (bs [119, 105, 116, 104, 105, 110]), .string (bs [99, 111, 117, 110, 116]), .string (bs [111, 102]), .string (bs [114, 105, 115, 101, 115]), .string (bs [115, 105, 110, 99, 101])], rfl, rfl, ⟨[.string (bs [109, 111, 118, 101])], [.string (bs [114, 117, 108, 101]), .string (bs [105, 102]), .string (bs [111, 114]), .string (bs [97, 110, 100]), .string (bs [116, 114, 117, 101]), .string (bs [102, 97, 108, 115, 101]), .string (bs [115, 116, 101, 97, 100, 121]), .string (bs [110, 111, 116]), .string (bs [102, 111, 114]), .string (bs [119, 105, 116, 104, 105, 110]), .string (bs [99, 111, 117, 110, 116]), .string (bs [111, 102]), .string (bs [114, 105, 115, 101, 115]), .string (bs [115, 105, 110, 99, 101])], rfl, rfl, ⟨[.string (bs [114, 117, 108, 101])], [.string (bs [105, 102]), .string (bs [111, 114]), .string (bs [97, 110, 100]), .string (bs [116, 114, 117, 101]), .string (bs [102, 97, 108, 115, 101]), .string (bs [115, 116, 101, 97, 100, 121]), .string (bs [110, 111, 116]), .string (bs [102, 111, 114]), .string (bs [119, 105, 116, 104, 105, 110]), .string (bs [99, 111, 117, 110, 116]), .string (bs [111, 102]), .string (bs [114, 105, 115, 101, 115]), .string (bs [115, 105, 110, 99, 101])], rfl, rfl, ⟨[.string (bs [105, 102])], [.string (bs [111, 114]), .string (bs [97, 110, 100]), .string (bs [116, 114, 117, 101]), .string (bs [102, 97, 108, 115, 101]), .string (bs [115, 116, 101, 97, 100, 121]), .string (bs [110, 111, 116]), .string (bs [102, 111, 114]), .string (bs [119, 105, 116, 104, 105, 110]), .string (bs [99, 111, 117, 110, 116]), .string (bs [111, 102]), .string (bs [114, 105, 115, 101, 115]), .string (bs [115, 105, 110, 99, 101])], rfl, rfl, ⟨[.string (bs [111, 114])], [.string (bs [97, 110, 100]), .string (bs [116, 114, 117, 101]), .string (bs [102, 97, 108, 115, 101]), .string (bs [115, 116, 101, 97, 100, 121]), .string (bs [110, 111, 116]), .string (bs [102, 111, 114]), .string (bs [119, 105, 116, 104, 105, 110]), .string (bs [99, 111, 117, 110, 116]), .string (bs [111, 102]), .string (bs [114, 105, 115, 101, 115]), .string (bs [115, 105, 110, 99, 101])], rfl, rfl, ⟨[.string (bs [97, 110, 100])], [.string (bs [116, 114, 117, 101]), .string (bs [102, 97, 108, 115, 101]), .string (bs [115, 116, 101, 97, 100, 121]), .string (bs [110, 111, 116]), .string (bs [102, 111, 114]), .string (bs [119, 105, 116, 104, 105, 110]), .string (bs [99, 111, 117, 110, 116]), .string (bs [111, 102]), .string (bs [114, 105, 115, 101, 115]), .string (bs [115, 105, 110, 99, 101])], rfl, rfl, ⟨[.string (bs [116, 114, 117, 101])], [.string (bs [102, 97, 108, 115, 101]), .string (bs [115, 116, 101, 97, 100, 121]), .string (bs [110, 111, 116]), .string (bs [102, 111, 114]), .string (bs [119, 105, 116, 104, 105, 110]), .string (bs [99, 111, 117, 110, 116]), .string (bs [111, 102]), .string (bs [114, 105, 115, 101, 115]), .string (bs [115, 105, 110, 99, 101])], rfl, rfl, ⟨[.string (bs [102, 97, 108, 115, 101])], [.string (bs [115, 116, 101, 97, 100, 121]), .string (bs [110, 111, 116]), .string (bs [102, 111, 114]), .string (bs [119, 105, 116, 104, 105, 110]), .string (bs [99, 111, 117, 110, 116]), .string (bs [111, 102]), .string (bs [114, 105, 115, 101, 115]), .string (bs [115, 105, 110, 99, 101])], rfl, rfl, ⟨[.string (bs [115, 116, 101, 97, 100, 121])], [.string (bs [110, 111, 116]), .string (bs [102, 111, 114]), .string (bs [119, 105, 116, 104, 105, 110]), .string (bs [99, 111, 117, 110, 116]), .string (bs [111, 102]), .string (bs [114, 105, 115, 101, 115]), .string (bs [115, 105, 110, 99, 101])], rfl, rfl, ⟨[.string (bs [110, 111, 116])], [.string (bs [102, 111, 114]), .string (bs [119, 105, 116, 104, 105, 110]), .string (bs [99, 111, 117, 110, 116]), .string (bs [111, 102]), .string (bs [114, 105, 115, 101, 115]), .string (bs [115, 105, 110, 99, 101])], rfl, rfl, ⟨[.string (bs [102, 111, 114])], [.string (bs [119, 105, 116, 104, 105, 110]), .string (bs [99, 111, 117, 110, 116]), .string (bs [111, 102]), .string (bs [114, 105, 115, 101, 115]), .string (bs [115, 105, 110, 99, 101])], rfl, rfl, ⟨[.string (bs [119, 105, 116, 104, 105, 110])], [.string (bs [99, 111, 117, 110, 116]), .string (bs [111, 102]), .string (bs [114, 105, 115, 101, 115]), .string (bs [115, 105, 110, 99, 101])], rfl, rfl, ⟨[.string (bs [99, 111, 117, 110, 116])], [.string (bs [111, 102]), .string (bs [114, 105, 115, 101, 115]), .string (bs [115, 105, 110, 99, 101])], rfl, rfl, ⟨[.string (bs [111, 102])], [.string (bs [114, 105, 115, 101, 115]), .string (bs [115, 105, 110, 99, 101])], rfl, rfl, ⟨[.string (bs [114, 105, 115, 101, 115])], [.string (bs [115, 105, 110, 99, 101])], rfl, rfl, ⟨[.string (bs [115, 105, 110, 99, 101])], [], rfl, rfl, rfl⟩⟩⟩⟩⟩⟩⟩⟩⟩⟩⟩⟩⟩⟩⟩⟩) ?_
 rintro v7 w8 H
 refine zI v7 ?_
 refine (zF (zA (hK3 _ _ ?_)))
 obtain rfl := someI hF
 refine (yB (post1 (v1 := v7) rfl rfl ?_))
 exact ⟨v7, rfl, H.pick [0] (by decide)⟩
set_option maxHeartbeats 4000000 in
theorem F_ref6_Reserved_w (p0 : Str) (r : Bool) (hF : F_ref6_Reserved p0 = some r) (O S : List Nat) (w : World) (H : Hd O w w S []) :
  Calls Tryz.prog 123 ([.string (bs p0)] : List Value).toArray w fun e w' => e = .returned (.bool r) ∧ Hd O w w' S [] := by
 unfold F_ref6_Reserved at hF
 refine yC 18 Tryz.func123 rfl rfl rfl ?_
 refine zC fun K1 hK1 => ?_
 refine zB ?_
 refine zI (.bool false) ?_
 refine (zF (zA (hK1 _ _ ?_)))
 refine zC fun K2 hK2 => ?_
 refine zB ?_
 obtain ⟨x3, e4, hF⟩ := zD hF
 refine zW rfl rfl (zT en160 rfl) (F_ref6_words_w _ e4 _ _ _ (H.enter [] [] (by decide) rfl)) ?_
 rintro _ w7 ⟨v5, rfl, G8⟩
 have H := H.back1 [] rfl G8
 refine ⟨_, rfl, ?_⟩
 refine zI v5 ?_
 refine (zF (zA (hK2 _ _ ?_)))
 obtain ⟨k126, ek127, hF⟩ := xZ hF
 refine yO [2, 4, 6, 7, 8, 9, 10, 11, 12, 13, 14, 15, 16, 17] (fun (g : Unit) => []) (fun g wl => Hd O w wl S [] ∧ k126 () = some r) ?_ ?_
 ·skip
  refine zC fun K128 hK128 => ?_
  refine zB ?_
  refine zI (.int .i64 0) ?_
  refine (zF (zA (hK128 _ _ ?_)))
  refine yF ?_
  unfold F_ref6_Reserved_L1 at hF
  obtain ⟨B239, n240, eB241, hF⟩ := yV hF
  refine xJ [2, 4, 6, 7, 8, 9, 10, 11, 12, 13, 14, 15, 16, 17] (fun (g : Nat × Int) => [(4, .int .i64 g.2)]) (fun g wl => Hd O w wl S [.own Rp.str v5 9 x3] ∧ loopN B239 g.1 g.2 = some r) (fun g => g.1) (n240, 0) (zL rfl zO) ⟨H.pick [0] (by decide), hF⟩ ?_
  clear H hF
  rintro ⟨n240, g238⟩ ρ w243 ⟨H, hF⟩
  obtain ⟨n244, rfl, hF⟩ := xB hF
  have hF := yZ eB241 hF
  refine zC fun K254 hK254 => ?_
  refine zC fun K255 hK255 => ?_
  refine zB ?_
  refine zN (.int .i64 g238) ?_
  refine zN v5 ?_
  obtain ⟨x256, e257, hF⟩ := zG hF
  obtain ⟨a258, c259, q260⟩ := Sr.len (Sr.of_own (H.item (i := 0) rfl))
  refine zH (yL (xW u22 q260) (congrArg (Value.int .i64) e257)) ?_
  obtain ⟨x261, e262, hF⟩ := zG hF
  refine zH (zV (xQ (a := g238) (b := x256) rfl rfl) e262) ?_
  refine (zF (zA (hK255 _ _ ?_)))
  refine zZ (b := x261) rfl (fun c263 => ?_) (fun c263 => ?_)
  ·have hF := zQ c263 hF
   refine (yA (zA (hK254 _ _ ?_)))
   refine zC fun K280 hK280 => ?_
   refine yF ?_
   refine zC fun K281 hK281 => ?_
   refine zB ?_
   refine zN v5 ?_
   refine zN (.int .i64 g238) ?_
   obtain ⟨x282, e283, hF⟩ := zD hF
   obtain ⟨b284, c286, cs287, q288, h291, h292⟩ := own_at (H.item (i := 0) rfl) e283
   obtain rfl : cs287 = [.string (bs x282)] := h291
   refine zH (xY u22 sz9 q288 rfl (yN e283).1 (yN e283).2.1 rfl rfl) ?_
   refine zH (zM one9 rfl (Cells.get h292 (i := 0) rfl)) ?_
   refine zN (.string (bs p0)) ?_
   obtain ⟨x293, e294, hF⟩ := zG hF
   refine zH (zV (wH (s1 := x282) (s2 := p0) rfl rfl) e294) ?_
   refine (zF (zA (hK281 _ _ ?_)))
   refine zZ (b := x293) rfl (fun c295 => ?_) (fun c295 => ?_)
   ·have hF := zQ c295 hF
    refine zC fun K296 hK296 => ?_
    refine zB ?_
    refine zI (.bool true) ?_
    refine (zF (zA (hK296 _ _ ?_)))
    obtain rfl := someI hF
    refine (yB (yE (zX (zX (yE (zX (post1 (v1 := .bool true) rfl rfl ?_)))))))
    exact ⟨rfl, H.pick [] (by decide)⟩
   have hF := zS c295 hF
   refine (yA (yU (zA (hK280 _ _ ?_))))
   refine zB ?_
   refine zN (.int .i64 g238) ?_
   obtain ⟨x297, e298, hF⟩ := zG hF
   refine zH (xX (a := g238) (b := 1) rfl rfl e298) ?_
   refine zI (.int .i64 x297) ?_
   exact (zF (zA (meet ⟨(n244, x297), (zL rfl zO), ⟨H.pick [0] (by decide), hF⟩, Nat.lt_succ_self _⟩)))
  have hF := zS c263 hF
  exact (xP (yR (yR (xA (zA (meet ⟨(), zO, ⟨H.pick [] (by decide), hF⟩⟩))))))
 rintro _ ρ w125 ⟨H, hF⟩
 have hF := wI ek127 hF
 refine zC fun K299 hK299 => ?_
 refine zB ?_
 refine zI (.bool false) ?_
 refine (zF (zA (hK299 _ _ ?_)))
 obtain rfl := someI hF
 refine (yB (post1 (v1 := .bool false) rfl rfl ?_))
 exact ⟨rfl, H.pick [] (by decide)⟩
set_option maxHeartbeats 4000000 in
set_option maxRecDepth 100000 in
theorem F_ref6_IsName_w (p0 : Str) (r : Bool) (hF : F_ref6_IsName p0 = some r) (O S : List Nat) (w : World) (H : Hd O w w S []) :
  Calls Tryz.prog 72 ([.string (bs p0)] : List Value).toArray w fun e w' => e = .returned (.bool r) ∧ Hd O w w' S [] := by
 unfold F_ref6_IsName at hF
 refine yC 49 Tryz.func72 rfl rfl rfl ?_
 refine zC fun K1 hK1 => ?_
 refine zB ?_
 refine zI (.bool false) ?_
 refine (zF (zA (hK1 _ _ ?_)))
 obtain ⟨k175, ek176, hF⟩ := xZ hF
 refine yO [2, 3, 4, 5, 6, 7, 8, 9, 10, 11, 12, 13, 14, 15, 16, 17, 18, 19, 20, 21, 22, 23, 24, 25, 26, 27, 28, 29, 30, 31, 32, 33, 34, 35, 36] (fun (g : Unit) => []) (fun g wl => Hd O w wl S [] ∧ k175 () = some r) ?_ ?_
 ·skip
  refine zC fun K177 hK177 => ?_
  refine zB ?_
  refine zI (.int .i64 0) ?_
  refine (zF (zA (hK177 _ _ ?_)))
  refine yF ?_
  unfold F_ref6_IsName_L1 at hF
  obtain ⟨B344, n345, eB346, hF⟩ := yV hF
  refine xJ [2, 3, 4, 5, 6, 7, 8, 9, 10, 11, 12, 13, 14, 15, 16, 17, 18, 19, 20, 21, 22, 23, 24, 25, 26, 27, 28, 29, 30, 31, 32, 33, 34, 35, 36] (fun (g : Nat × Int) => [(3, .int .i64 g.2)]) (fun g wl => Hd O w wl S [] ∧ loopN B344 g.1 g.2 = some r) (fun g => g.1) (n345, 0) (zL rfl zO) ⟨H.pick [] (by decide), hF⟩ ?_
  clear H hF
  rintro ⟨n345, g343⟩ ρ w348 ⟨H, hF⟩
  obtain ⟨n349, rfl, hF⟩ := xB hF
  have hF := yZ eB346 hF
  refine zC fun K356 hK356 => ?_
  refine zC fun K357 hK357 => ?_
  refine zB ?_
  refine zN (.int .i64 g343) ?_
  refine zN (.string (bs p0)) ?_
  obtain ⟨x358, e359, hF⟩ := zG hF
  refine zH (yL (Do_slen (s1 := p0) u9 rfl) (congrArg (Value.int .i64) e359)) ?_
  obtain ⟨x360, e361, hF⟩ := zG hF
  refine zH (zV (xQ (a := g343) (b := x358) rfl rfl) e361) ?_
  refine (zF (zA (hK357 _ _ ?_)))
  refine zZ (b := x360) rfl (fun c362 => ?_) (fun c362 => ?_)
  ·have hF := zQ c362 hF
   refine (yA (zA (hK356 _ _ ?_)))
   refine zC fun K396 hK396 => ?_
   refine yF ?_
   refine zC fun K397 hK397 => ?_
   refine zB ?_
   refine zN (.string (bs p0)) ?_
   refine zN (.int .i64 g343) ?_
   obtain ⟨x398, e399, hF⟩ := zD hF
   refine zH (Do_sidx (s1 := p0) (q := g343) u9 rfl rfl e399) ?_
   refine zI (.int .u8 x398) ?_
   refine (zF (zA (hK397 _ _ ?_)))
   obtain ⟨g425, hF, hK427⟩ := zD hF
   refine yO [14, 15, 16, 17, 18, 19, 20, 21, 22, 23, 24, 25, 26, 27, 28, 29, 30, 31, 32, 33, 34, 35, 36] (fun (g : Unit) => [(36, .bool g425)]) (fun g wl => Hd O w wl S []) ?_ ?_
   ·skip
    refine zB ?_
    refine zN (.int .u8 x398) ?_
    obtain ⟨x428, e429, hF⟩ := zG hF
    refine zH (zV (Do_geq (a := x398) (b := 97) rfl rfl) e429) ?_
    obtain ⟨j430, hF, hK431⟩ := zD hF
    refine RL_cutS 4 [16, 17, 18, 19] [(19, .bool j430)] (fun wl => Hd O w wl S []) ?_ ?_
    ·skip
     refine yQ (b := x428) rfl rfl rfl (fun c433 => ?_) (fun c433 => ?_)
     ·have hF := zQ c433 hF
      refine zN (.int .u8 x398) ?_
      obtain ⟨x434, e435, hF⟩ := zG hF
      refine zH (zV (Do_leq (a := x398) (b := 122) rfl rfl) e435) ?_
      refine zH (yP (v := .bool x434) rfl rfl) ?_
      obtain rfl := someI hF
      exact zF (zA (meet ⟨(zL rfl zO), H.pick [] (by decide)⟩))
     have hF := zS c433 hF
     refine yG ?_
     refine yG ?_
     refine zH (yJ (v := .bool false) rfl rfl) ?_
     obtain rfl := someI hF
     exact zF (zA (meet ⟨(zL rfl zO), H.pick [] (by decide)⟩))
    rintro ρ w432 H
    have hF := hK431
    refine yQ (b := j430) rfl rfl rfl (fun c436 => ?_) (fun c436 => ?_)
    ·have hF := zQ c436 hF
     refine yG ?_
     refine yG ?_
     refine yG ?_
     refine yG ?_
     refine yG ?_
     refine yG ?_
     refine yG ?_
     refine yG ?_
     refine yG ?_
     refine yG ?_
     refine yG ?_
     refine yG ?_
     refine yG ?_
     refine yG ?_
     refine zH (yP (v := .bool true) rfl rfl) ?_
     refine zH (wO (p := true) rfl) ?_
     obtain rfl := someI hF
     exact (zF (zA (meet ⟨(), (zL rfl zO), H.pick [] (by decide)⟩)))
    have hF := zS c436 hF
    refine zN (.int .i64 g343) ?_
    obtain ⟨x437, e438, hF⟩ := zG hF
    refine zH (zV (Do_gtr (a := g343) (b := 0) rfl rfl) e438) ?_
    refine yQ (b := x437) rfl rfl rfl (fun c439 => ?_) (fun c439 => ?_)
    ·have hF := zQ c439 hF
     refine zN (.int .u8 x398) ?_
     obtain ⟨x440, e441, hF⟩ := zG hF
     refine zH (zV (Do_geq (a := x398) (b := 48) rfl rfl) e441) ?_
     obtain ⟨j442, hF, hK443⟩ := zD hF
     refine RL_cutS 4 [26, 27, 28, 29] [(29, .bool j442)] (fun wl => Hd O w wl S []) ?_ ?_
     ·skip
      refine yQ (b := x440) rfl rfl rfl (fun c445 => ?_) (fun c445 => ?_)
      ·have hF := zQ c445 hF
       refine zN (.int .u8 x398) ?_
       obtain ⟨x446, e447, hF⟩ := zG hF
       refine zH (zV (Do_leq (a := x398) (b := 57) rfl rfl) e447) ?_
       refine zH (yP (v := .bool x446) rfl rfl) ?_
       obtain rfl := someI hF
       exact zF (zA (meet ⟨(zL rfl zO), H.pick [] (by decide)⟩))
      have hF := zS c445 hF
      refine yG ?_
      refine yG ?_
      refine zH (yJ (v := .bool false) rfl rfl) ?_
      obtain rfl := someI hF
      exact zF (zA (meet ⟨(zL rfl zO), H.pick [] (by decide)⟩))
     rintro ρ w444 H
     have hF := hK443
     refine yQ (b := j442) rfl rfl rfl (fun c448 => ?_) (fun c448 => ?_)
     ·have hF := zQ c448 hF
      refine yG ?_
      refine yG ?_
      refine zH (yP (v := .bool true) rfl rfl) ?_
      refine zH (yP (v := .bool true) rfl rfl) ?_
      refine zH (yJ (v := .bool true) rfl rfl) ?_
      refine zH (wO (p := true) rfl) ?_
      obtain rfl := someI hF
      exact (zF (zA (meet ⟨(), (zL rfl zO), H.pick [] (by decide)⟩)))
     have hF := zS c448 hF
     refine zN (.int .u8 x398) ?_
     obtain ⟨x449, e450, hF⟩ := zG hF
     refine zH (zV (xH (a := x398) (b := 45) rfl rfl) e450) ?_
     refine zH (yJ (v := .bool x449) rfl rfl) ?_
     refine zH (yP (v := .bool x449) rfl rfl) ?_
     refine zH (yJ (v := .bool x449) rfl rfl) ?_
     obtain ⟨x451, e452, hF⟩ := zG hF
     refine zH (zV (wO (p := x449) rfl) e452) ?_
     obtain rfl := someI hF
     exact (zF (zA (meet ⟨(), (zL rfl zO), H.pick [] (by decide)⟩)))
    have hF := zS c439 hF
    refine yG ?_
    refine yG ?_
    refine yG ?_
    refine yG ?_
    refine yG ?_
    refine yG ?_
    refine yG ?_
    refine yG ?_
    refine yG ?_
    refine yG ?_
    refine zH (yJ (v := .bool false) rfl rfl) ?_
    refine zH (yJ (v := .bool false) rfl rfl) ?_
    refine zH (wO (p := false) rfl) ?_
    obtain rfl := someI hF
    exact (zF (zA (meet ⟨(), (zL rfl zO), H.pick [] (by decide)⟩)))
   rintro _ ρ w426 H
   have hF := hK427
   refine zZ (b := g425) rfl (fun c453 => ?_) (fun c453 => ?_)
   ·have hF := zQ c453 hF
    refine zC fun K454 hK454 => ?_
    refine zB ?_
    refine zI (.bool false) ?_
    refine (zF (zA (hK454 _ _ ?_)))
    obtain rfl := someI hF
    refine (yB (yE (zX (zX (yE (zX (post1 (v1 := .bool false) rfl rfl ?_)))))))
    exact ⟨rfl, H.pick [] (by decide)⟩
   have hF := zS c453 hF
   refine (yA (yU (zA (hK396 _ _ ?_))))
   refine zB ?_
   refine zN (.int .i64 g343) ?_
   obtain ⟨x455, e456, hF⟩ := zG hF
   refine zH (xX (a := g343) (b := 1) rfl rfl e456) ?_
   refine zI (.int .i64 x455) ?_
   exact (zF (zA (meet ⟨(n349, x455), (zL rfl zO), ⟨H.pick [] (by decide), hF⟩, Nat.lt_succ_self _⟩)))
  have hF := zS c362 hF
  exact (xP (yR (yR (xA (zA (meet ⟨(), zO, ⟨H.pick [] (by decide), hF⟩⟩))))))
 rintro _ ρ w174 ⟨H, hF⟩
 have hF := wI ek176 hF
 obtain ⟨g475, hF, hK477⟩ := zD hF
 refine yO [2, 37, 38, 39, 40, 41, 42, 43, 44, 45, 46, 47, 48] (fun (g : Unit) => [(2, .bool g475)]) (fun g wl => Hd O w wl S []) ?_ ?_
 ·skip
  refine zB ?_
  refine zN (.string (bs p0)) ?_
  obtain ⟨x478, e479, hF⟩ := zG hF
  refine zH (zV (Do_neqs (s1 := p0) (s2 := []) rfl rfl) e479) ?_
  obtain ⟨j480, hF, hK481⟩ := zD hF
  refine RL_cutS 5 [39, 40, 41, 42, 43] [(43, .bool j480)] (fun wl => Hd O w wl S []) ?_ ?_
  ·skip
   refine yQ (b := x478) rfl rfl rfl (fun c483 => ?_) (fun c483 => ?_)
   ·have hF := zQ c483 hF
    refine zN (.string (bs p0)) ?_
    obtain ⟨x484, e485, hF⟩ := zG hF
    refine zH (yL (Do_slen (s1 := p0) u9 rfl) (congrArg (Value.int .i64) e485)) ?_
    obtain ⟨x486, e487, hF⟩ := zG hF
    refine zH (zV (Do_leq (a := x484) (b := 30) rfl rfl) e487) ?_
    refine zH (yP (v := .bool x486) rfl rfl) ?_
    obtain rfl := someI hF
    exact zF (zA (meet ⟨(zL rfl zO), H.pick [] (by decide)⟩))
   have hF := zS c483 hF
   refine yG ?_
   refine yG ?_
   refine yG ?_
   refine zH (yJ (v := .bool false) rfl rfl) ?_
   obtain rfl := someI hF
   exact zF (zA (meet ⟨(zL rfl zO), H.pick [] (by decide)⟩))
  rintro ρ w482 H
  have hF := hK481
  refine yQ (b := j480) rfl rfl rfl (fun c488 => ?_) (fun c488 => ?_)
  ·have hF := zQ c488 hF
   refine zN (.string (bs p0)) ?_
   have H489 := H
   obtain ⟨x490, e491, hF⟩ := zD hF
   refine zW rfl rfl (zT en123 rfl) (F_ref6_Reserved_w p0 _ e491 _ _ _ (H.enter [] [] (by decide) rfl)) ?_
   rintro _ w492 ⟨rfl, G493⟩
   have H := H489.step (G493.only : Only [] _ _)
   refine ⟨_, rfl, ?_⟩
   obtain ⟨x494, e495, hF⟩ := zG hF
   refine zH (zV (wO (p := x490) rfl) e495) ?_
   refine zH (yP (v := .bool x494) rfl rfl) ?_
   refine zI (.bool x494) ?_
   obtain rfl := someI hF
   exact (zF (zA (meet ⟨(), (zL rfl zO), H.pick [] (by decide)⟩)))
  have hF := zS c488 hF
  refine yG ?_
  refine yG ?_
  refine yG ?_
  refine zH (yJ (v := .bool false) rfl rfl) ?_
  refine zI (.bool false) ?_
  obtain rfl := someI hF
  exact (zF (zA (meet ⟨(), (zL rfl zO), H.pick [] (by decide)⟩)))
 rintro _ ρ w476 H
 have hF := hK477
 obtain rfl := someI hF
 refine (yB (post1 (v1 := .bool g475) rfl rfl ?_))
 exact ⟨rfl, H.pick [] (by decide)⟩
set_option maxHeartbeats 4000000 in
theorem F_ref6_place_w (p0 : List Str) (p1 : Str) (v1 : Value) (r : Int) (hF : F_ref6_place p0 p1 = some r) (O S : List Nat) (w : World) (H : Hd O w w S [.fz (.sl Rp.str v1 p0)]) :
  Calls Tryz.prog 67 ([v1, .string (bs p1)] : List Value).toArray w fun e w' => e = .returned (.int .i64 r) ∧ Hd O w w' S [] := by
 unfold F_ref6_place at hF
 refine yC 19 Tryz.func67 rfl rfl rfl ?_
 refine zC fun K3 hK3 => ?_
 refine zB ?_
 refine zI (.int .i64 0) ?_
 refine (zF (zA (hK3 _ _ ?_)))
 obtain ⟨k125, ek126, hF⟩ := xZ hF
 refine yO [4, 5, 6, 7, 8, 9, 10, 11, 12, 13, 14, 15, 16, 17, 18] (fun (g : Unit) => []) (fun g wl => Hd O w wl S [] ∧ k125 () = some r) ?_ ?_
 ·skip
  refine zC fun K127 hK127 => ?_
  refine zB ?_
  refine zI (.int .i64 0) ?_
  refine (zF (zA (hK127 _ _ ?_)))
  refine yF ?_
  unfold F_ref6_place_L1 at hF
  obtain ⟨B242, n243, eB244, hF⟩ := yV hF
  refine xJ [4, 5, 6, 7, 8, 9, 10, 11, 12, 13, 14, 15, 16, 17, 18] (fun (g : Nat × Int) => [(5, .int .i64 g.2)]) (fun g wl => Hd O w wl S [.fz (.sl Rp.str v1 p0)] ∧ loopN B242 g.1 g.2 = some r) (fun g => g.1) (n243, 0) (zL rfl zO) ⟨H.pick [0] (by decide), hF⟩ ?_
  clear H hF
  rintro ⟨n243, g241⟩ ρ w246 ⟨H, hF⟩
  obtain ⟨n247, rfl, hF⟩ := xB hF
  have hF := yZ eB244 hF
  refine zC fun K257 hK257 => ?_
  refine zC fun K258 hK258 => ?_
  refine zB ?_
  refine zN (.int .i64 g241) ?_
  refine zN v1 ?_
  obtain ⟨x259, e260, hF⟩ := zG hF
  obtain ⟨a261, c262, q263⟩ := SlF.len ((H.item (i := 0) rfl))
  refine zH (yL (xW u22 q263) (congrArg (Value.int .i64) e260)) ?_
  obtain ⟨x264, e265, hF⟩ := zG hF
  refine zH (zV (xQ (a := g241) (b := x259) rfl rfl) e265) ?_
  refine (zF (zA (hK258 _ _ ?_)))
  refine zZ (b := x264) rfl (fun c266 => ?_) (fun c266 => ?_)
  ·have hF := zQ c266 hF
   refine (yA (zA (hK257 _ _ ?_)))
   refine zC fun K284 hK284 => ?_
   refine yF ?_
   refine zC fun K285 hK285 => ?_
   refine zB ?_
   refine zN v1 ?_
   refine zN (.int .i64 g241) ?_
   obtain ⟨x286, e287, hF⟩ := zD hF
   obtain ⟨b288, o289, c290, cs291, q292, h295, h293, h294, h296⟩ := wQ (H.item (i := 0) rfl) e287
   obtain rfl : cs291 = [.string (bs x286)] := h295
   have H := H.fz (.at b288 (o289 + g241.toNat * 1) _) ⟨h293, h294, h296⟩
   refine zH (xY u22 sz9 q292 rfl (yN e287).1 (yN e287).2.1 rfl rfl) ?_
   refine zH (zM one9 rfl (Cells.get (H.item (i := 1) rfl).2.2 (i := 0) rfl)) ?_
   refine zN (.string (bs p1)) ?_
   obtain ⟨x298, e299, hF⟩ := zG hF
   refine zH (zV (wH (s1 := x286) (s2 := p1) rfl rfl) e299) ?_
   refine (zF (zA (hK285 _ _ ?_)))
   refine zZ (b := x298) rfl (fun c300 => ?_) (fun c300 => ?_)
   ·have hF := zQ c300 hF
    refine zC fun K301 hK301 => ?_
    refine zB ?_
    refine zN (.int .i64 g241) ?_
    refine zI (.int .i64 g241) ?_
    refine (zF (zA (hK301 _ _ ?_)))
    obtain rfl := someI hF
    refine (yB (yE (zX (zX (yE (zX (post1 (v1 := .int .i64 g241) rfl rfl ?_)))))))
    exact ⟨rfl, H.pick [] (by decide)⟩
   have hF := zS c300 hF
   refine (yA (yU (zA (hK284 _ _ ?_))))
   refine zB ?_
   refine zN (.int .i64 g241) ?_
   obtain ⟨x302, e303, hF⟩ := zG hF
   refine zH (xX (a := g241) (b := 1) rfl rfl e303) ?_
   refine zI (.int .i64 x302) ?_
   exact (zF (zA (meet ⟨(n247, x302), (zL rfl zO), ⟨H.pick [0] (by decide), hF⟩, Nat.lt_succ_self _⟩)))
  have hF := zS c266 hF
  exact (xP (yR (yR (xA (zA (meet ⟨(), zO, ⟨H.pick [] (by decide), hF⟩⟩))))))
 rintro _ ρ w124 ⟨H, hF⟩
 have hF := wI ek126 hF
 refine zC fun K304 hK304 => ?_
 refine zB ?_
 refine zI (.int .i64 (-1)) ?_
 refine (zF (zA (hK304 _ _ ?_)))
 obtain rfl := someI hF
 refine (yB (post1 (v1 := .int .i64 (-1)) rfl rfl ?_))
 exact ⟨rfl, H.pick [] (by decide)⟩
abbrev S_ref6_nodes (f : Cond → Int → Option Int) : Prop := ∀ (p0 : Cond) (p1 : Int) (v1 : Value) (r : Int) (hF : f p0 p1 = some r) (O S : List Nat) (w : World) (H : Hd O w w S [.fz (.sl rCond v1 p0.Kids)]),
  Calls Tryz.prog 112 ([.agg [.int .i64 p0.Kind, .string (bs p0.Name), .string (bs p0.Other), .int .i64 p0.Op, .int .i64 p0.N, .int .i64 p0.Frames, v1].toArray, .int .i64 p1] : List Value).toArray w fun e w' => e = .returned (.int .i64 r) ∧ Hd O w w' S []
set_option maxHeartbeats 4000000 in
theorem F_ref6_nodes_B_w (rfH : Cond → Int → Option Int) (rhH : S_ref6_nodes rfH) (p0 : Cond) (p1 : Int) (v1 : Value) (r : Int) (hF : F_ref6_nodes_B rfH p0 p1 = some r) (O S : List Nat) (w : World) (H : Hd O w w S [.fz (.sl rCond v1 p0.Kids)]) :
  Calls Tryz.prog 112 ([.agg [.int .i64 p0.Kind, .string (bs p0.Name), .string (bs p0.Other), .int .i64 p0.Op, .int .i64 p0.N, .int .i64 p0.Frames, v1].toArray, .int .i64 p1] : List Value).toArray w fun e w' => e = .returned (.int .i64 r) ∧ Hd O w w' S [] := by
 unfold F_ref6_nodes_B at hF
 refine yC 31 Tryz.func112 rfl rfl rfl ?_
 refine zC fun K3 hK3 => ?_
 refine zB ?_
 refine yT rfl rfl (wL (cs := [.int .i64 p0.Kind, .string (bs p0.Name), .string (bs p0.Other), .int .i64 p0.Op, .int .i64 p0.N, .int .i64 p0.Frames, v1]) rfl H) ?_
 rintro _ w6 ⟨b4, rfl, H⟩
 refine zI (.int .i64 0) ?_
 refine (zF (zA (hK3 _ _ ?_)))
 refine zC fun K7 hK7 => ?_
 refine zB ?_
 refine zI (.int .i64 1) ?_
 refine (zF (zA (hK7 _ _ ?_)))
 obtain ⟨g177, hF, hK179⟩ := zD hF
 refine yO [5, 6, 7, 8, 9, 10, 11, 12, 13, 14, 15, 16, 17, 18, 19, 20, 21, 22, 23, 24, 25, 26, 27, 28, 29] (fun (g : Unit) => [(5, .int .i64 g177)]) (fun g wl => Hd O w wl S []) ?_ ?_
 ·skip
  refine zC fun K180 hK180 => ?_
  refine zB ?_
  refine zI (.int .i64 0) ?_
  refine (zF (zA (hK180 _ _ ?_)))
  refine yF ?_
  unfold F_ref6_nodes_B_L1 at hF
  obtain ⟨B345, n346, eB347, hF⟩ := yV hF
  refine xJ [5, 6, 7, 8, 9, 10, 11, 12, 13, 14, 15, 16, 17, 18, 19, 20, 21, 22, 23, 24, 25, 26, 27, 28, 29] (fun (g : Nat × Int × Int) => [(5, .int .i64 g.2.1), (6, .int .i64 g.2.2)]) (fun g wl => Hd O w wl S [.fz (.sl rCond v1 p0.Kids), .blk b4 [.int .i64 p0.Kind, .string (bs p0.Name), .string (bs p0.Other), .int .i64 p0.Op, .int .i64 p0.N, .int .i64 p0.Frames, v1] 54] ∧ loopN B345 g.1 (g.2.1, g.2.2) = some g177) (fun g => g.1) (n346, 1, 0) (zL rfl (zL rfl zO)) ⟨H.pick [0, 1] (by decide), hF⟩ ?_
  clear H hF
  rintro ⟨n346, g343, g344⟩ ρ w349 ⟨H, hF⟩
  obtain ⟨n350, rfl, hF⟩ := xB hF
  have hF := yZ eB347 hF
  refine zC fun K365 hK365 => ?_
  obtain ⟨g376, hF, hK378⟩ := zD hF
  refine yO [7, 8, 9, 10, 11, 12, 13, 14, 15, 16] (fun (g : Unit) => [(16, .bool g376)]) (fun g wl => Hd O w wl S [.fz (.sl rCond v1 p0.Kids), .blk b4 [.int .i64 p0.Kind, .string (bs p0.Name), .string (bs p0.Other), .int .i64 p0.Op, .int .i64 p0.N, .int .i64 p0.Frames, v1] 54]) ?_ ?_
  ·skip
   refine zB ?_
   refine zN (.int .i64 g344) ?_
   refine zH (fa54_6 rfl) ?_
   refine zH (zM one52 rfl (Cells.get (Blk.cells (H.item (i := 1) rfl)) (i := 6) rfl)) ?_
   obtain ⟨x379, e380, hF⟩ := zG hF
   obtain ⟨a381, c382, q383⟩ := SlF.len ((H.item (i := 0) rfl))
   refine zH (yL (xW u52 q383) (congrArg (Value.int .i64) e380)) ?_
   obtain ⟨x384, e385, hF⟩ := zG hF
   refine zH (zV (xQ (a := g344) (b := x379) rfl rfl) e385) ?_
   refine yQ (b := x384) rfl rfl rfl (fun c386 => ?_) (fun c386 => ?_)
   ·have hF := zQ c386 hF
    refine zN (.int .i64 g343) ?_
    refine zN (.int .i64 p1) ?_
    obtain ⟨x387, e388, hF⟩ := zG hF
    refine zH (zV (Do_leq (a := g343) (b := p1) rfl rfl) e388) ?_
    refine zH (yP (v := .bool x387) rfl rfl) ?_
    obtain rfl := someI hF
    exact (zF (zA (meet ⟨(), (zL rfl zO), H.pick [0, 1] (by decide)⟩)))
   have hF := zS c386 hF
   refine yG ?_
   refine yG ?_
   refine yG ?_
   refine zH (yJ (v := .bool false) rfl rfl) ?_
   obtain rfl := someI hF
   exact (zF (zA (meet ⟨(), (zL rfl zO), H.pick [0, 1] (by decide)⟩)))
  rintro _ ρ w377 H
  have hF := hK378
  refine zZ (b := g376) rfl (fun c389 => ?_) (fun c389 => ?_)
  ·have hF := zQ c389 hF
   refine (yA (zA (hK365 _ _ ?_)))
   refine zC fun K414 hK414 => ?_
   refine yF ?_
   refine zB ?_
   refine zN (.int .i64 g343) ?_
   refine zH (fa54_6 rfl) ?_
   refine zH (zM one52 rfl (Cells.get (Blk.cells (H.item (i := 1) rfl)) (i := 6) rfl)) ?_
   refine zN (.int .i64 g344) ?_
   obtain ⟨x415, e416, hF⟩ := zD hF
   obtain ⟨b417, o418, c419, cs420, q421, h424, h422, h423, h425⟩ := wQ (H.item (i := 0) rfl) e416
   obtain ⟨v426, rfl, h427⟩ := wK h424
   have H := H.fzs [.at b417 (o418 + g344.toNat * 7) _, .sl rCond v426 x415.Kids] ⟨⟨h422, h423, h425⟩, h427, trivial⟩
   refine zH (xY u52 sz54 q421 rfl (yN e416).1 (yN e416).2.1 rfl rfl) ?_
   refine zH (yL (yH (cs := [.int .i64 x415.Kind, .string (bs x415.Name), .string (bs x415.Other), .int .i64 x415.Op, .int .i64 x415.N, .int .i64 x415.Frames, v426]) agg54 rfl sz54 rfl (H.item (i := 2) rfl).2.2) rfl) ?_
   refine zN (.int .i64 p1) ?_
   refine zN (.int .i64 g343) ?_
   obtain ⟨x430, e431, hF⟩ := zG hF
   refine zH (Do_sub (a := p1) (b := g343) rfl rfl e431) ?_
   have H432 := H
   obtain ⟨x433, e434, hF⟩ := zD hF
   refine zW rfl rfl (zT en112 rfl) (rhH x415 x430 v426 _ e434 _ _ _ (H.enter [] [3] (by decide) rfl)) ?_
   rintro _ w435 ⟨rfl, G436⟩
   have H := H432.step (G436.only : Only [] _ _)
   refine ⟨_, rfl, ?_⟩
   obtain ⟨x437, e438, hF⟩ := zG hF
   refine zH (xX (a := g343) (b := x433) rfl rfl e438) ?_
   refine zI (.int .i64 x437) ?_
   refine (zF (yU (zA (hK414 _ _ ?_))))
   refine zB ?_
   refine zN (.int .i64 g344) ?_
   obtain ⟨x439, e440, hF⟩ := zG hF
   refine zH (xX (a := g344) (b := 1) rfl rfl e440) ?_
   refine zI (.int .i64 x439) ?_
   exact (zF (zA (meet ⟨(n350, x437, x439), (zL rfl (zL rfl zO)), ⟨H.pick [0, 1] (by decide), hF⟩, Nat.lt_succ_self _⟩)))
  have hF := zS c389 hF
  obtain rfl := someI hF
  exact (xP (yR (yR (xA (zA (meet ⟨(), (zL rfl zO), H.pick [] (by decide)⟩))))))
 rintro _ ρ w178 H
 have hF := hK179
 refine zC fun K441 hK441 => ?_
 refine zB ?_
 refine zN (.int .i64 g177) ?_
 refine zI (.int .i64 g177) ?_
 refine (zF (zA (hK441 _ _ ?_)))
 obtain rfl := someI hF
 refine (yB (post1 (v1 := .int .i64 g177) rfl rfl ?_))
 exact ⟨rfl, H.pick [] (by decide)⟩
theorem F_ref6_nodes_s : S_ref6_nodes (F_ref6_nodes) := by
 have h : ∀ n, S_ref6_nodes (F_ref6_nodes_R n) := by
  intro n
  induction n with
  | zero => intro p0 p1 v1 r hF; cases hF
  | succ n ih => intro p0 p1 v1 r hF; exact F_ref6_nodes_B_w (F_ref6_nodes_R n) ih p0 p1 v1 r hF
 exact h FU
abbrev S_ref6_deeper (f : Cond → Int → Option Bool) : Prop := ∀ (p0 : Cond) (p1 : Int) (v1 : Value) (r : Bool) (hF : f p0 p1 = some r) (O S : List Nat) (w : World) (H : Hd O w w S [.fz (.sl rCond v1 p0.Kids)]),
  Calls Tryz.prog 113 ([.agg [.int .i64 p0.Kind, .string (bs p0.Name), .string (bs p0.Other), .int .i64 p0.Op, .int .i64 p0.N, .int .i64 p0.Frames, v1].toArray, .int .i64 p1] : List Value).toArray w fun e w' => e = .returned (.bool r) ∧ Hd O w w' S []
set_option maxHeartbeats 4000000 in
theorem F_ref6_deeper_B_w (rfI : Cond → Int → Option Bool) (rhI : S_ref6_deeper rfI) (p0 : Cond) (p1 : Int) (v1 : Value) (r : Bool) (hF : F_ref6_deeper_B rfI p0 p1 = some r) (O S : List Nat) (w : World) (H : Hd O w w S [.fz (.sl rCond v1 p0.Kids)]) :
  Calls Tryz.prog 113 ([.agg [.int .i64 p0.Kind, .string (bs p0.Name), .string (bs p0.Other), .int .i64 p0.Op, .int .i64 p0.N, .int .i64 p0.Frames, v1].toArray, .int .i64 p1] : List Value).toArray w fun e w' => e = .returned (.bool r) ∧ Hd O w w' S [] := by
 unfold F_ref6_deeper_B at hF
 refine yC 23 Tryz.func113 rfl rfl rfl ?_
 refine zC fun K3 hK3 => ?_
 refine zB ?_
 refine yT rfl rfl (wL (cs := [.int .i64 p0.Kind, .string (bs p0.Name), .string (bs p0.Other), .int .i64 p0.Op, .int .i64 p0.N, .int .i64 p0.Frames, v1]) rfl H) ?_
 rintro _ w6 ⟨b4, rfl, H⟩
 refine zI (.bool false) ?_
 refine (zF (zA (hK3 _ _ ?_)))
 refine zC fun K12 hK12 => ?_
 refine zC fun K13 hK13 => ?_
 refine zB ?_
 refine zN (.int .i64 p1) ?_
 obtain ⟨x14, e15, hF⟩ := zG hF
 refine zH (zV (xH (a := p1) (b := 0) rfl rfl) e15) ?_
 refine (zF (zA (hK13 _ _ ?_)))
 refine zZ (b := x14) rfl (fun c16 => ?_) (fun c16 => ?_)
 ·have hF := zQ c16 hF
  refine zC fun K17 hK17 => ?_
  refine zB ?_
  refine zI (.bool true) ?_
  refine (zF (zA (hK17 _ _ ?_)))
  obtain rfl := someI hF
  refine (yB (zX (post1 (v1 := .bool true) rfl rfl ?_)))
  exact ⟨rfl, H.pick [] (by decide)⟩
 have hF := zS c16 hF
 refine (yA (zA (hK12 _ _ ?_)))
 obtain ⟨k171, ek172, hF⟩ := xZ hF
 refine yO [4, 5, 8, 9, 10, 11, 12, 13, 14, 15, 16, 17, 18, 19, 20, 21, 22] (fun (g : Unit) => []) (fun g wl => Hd O w wl S [] ∧ k171 () = some r) ?_ ?_
 ·skip
  refine zC fun K173 hK173 => ?_
  refine zB ?_
  refine zI (.int .i64 0) ?_
  refine (zF (zA (hK173 _ _ ?_)))
  refine yF ?_
  unfold F_ref6_deeper_B_L1 at hF
  obtain ⟨B320, n321, eB322, hF⟩ := yV hF
  refine xJ [4, 5, 8, 9, 10, 11, 12, 13, 14, 15, 16, 17, 18, 19, 20, 21, 22] (fun (g : Nat × Int) => [(5, .int .i64 g.2)]) (fun g wl => Hd O w wl S [.fz (.sl rCond v1 p0.Kids), .blk b4 [.int .i64 p0.Kind, .string (bs p0.Name), .string (bs p0.Other), .int .i64 p0.Op, .int .i64 p0.N, .int .i64 p0.Frames, v1] 54] ∧ loopN B320 g.1 g.2 = some r) (fun g => g.1) (n321, 0) (zL rfl zO) ⟨H.pick [0, 1] (by decide), hF⟩ ?_
  clear H hF
  rintro ⟨n321, g319⟩ ρ w324 ⟨H, hF⟩
  obtain ⟨n325, rfl, hF⟩ := xB hF
  have hF := yZ eB322 hF
  refine zC fun K335 hK335 => ?_
  refine zC fun K336 hK336 => ?_
  refine zB ?_
  refine zN (.int .i64 g319) ?_
  refine zH (fa54_6 rfl) ?_
  refine zH (zM one52 rfl (Cells.get (Blk.cells (H.item (i := 1) rfl)) (i := 6) rfl)) ?_
  obtain ⟨x337, e338, hF⟩ := zG hF
  obtain ⟨a339, c340, q341⟩ := SlF.len ((H.item (i := 0) rfl))
  refine zH (yL (xW u52 q341) (congrArg (Value.int .i64) e338)) ?_
  obtain ⟨x342, e343, hF⟩ := zG hF
  refine zH (zV (xQ (a := g319) (b := x337) rfl rfl) e343) ?_
  refine (zF (zA (hK336 _ _ ?_)))
  refine zZ (b := x342) rfl (fun c344 => ?_) (fun c344 => ?_)
  ·have hF := zQ c344 hF
   refine (yA (zA (hK335 _ _ ?_)))
   refine zC fun K370 hK370 => ?_
   refine yF ?_
   refine zC fun K371 hK371 => ?_
   refine zB ?_
   refine zH (fa54_6 rfl) ?_
   refine zH (zM one52 rfl (Cells.get (Blk.cells (H.item (i := 1) rfl)) (i := 6) rfl)) ?_
   refine zN (.int .i64 g319) ?_
   obtain ⟨x372, e373, hF⟩ := zD hF
   obtain ⟨b374, o375, c376, cs377, q378, h381, h379, h380, h382⟩ := wQ (H.item (i := 0) rfl) e373
   obtain ⟨v383, rfl, h384⟩ := wK h381
   have H := H.fzs [.at b374 (o375 + g319.toNat * 7) _, .sl rCond v383 x372.Kids] ⟨⟨h379, h380, h382⟩, h384, trivial⟩
   refine zH (xY u52 sz54 q378 rfl (yN e373).1 (yN e373).2.1 rfl rfl) ?_
   refine zH (yL (yH (cs := [.int .i64 x372.Kind, .string (bs x372.Name), .string (bs x372.Other), .int .i64 x372.Op, .int .i64 x372.N, .int .i64 x372.Frames, v383]) agg54 rfl sz54 rfl (H.item (i := 2) rfl).2.2) rfl) ?_
   refine zN (.int .i64 p1) ?_
   obtain ⟨x387, e388, hF⟩ := zG hF
   refine zH (Do_sub (a := p1) (b := 1) rfl rfl e388) ?_
   have H389 := H
   obtain ⟨x390, e391, hF⟩ := zD hF
   refine zW rfl rfl (zT en113 rfl) (rhI x372 x387 v383 _ e391 _ _ _ (H.enter [] [3] (by decide) rfl)) ?_
   rintro _ w392 ⟨rfl, G393⟩
   have H := H389.step (G393.only : Only [] _ _)
   refine ⟨_, rfl, ?_⟩
   refine (zF (zA (hK371 _ _ ?_)))
   refine zZ (b := x390) rfl (fun c394 => ?_) (fun c394 => ?_)
   ·have hF := zQ c394 hF
    refine zC fun K395 hK395 => ?_
    refine zB ?_
    refine zI (.bool true) ?_
    refine (zF (zA (hK395 _ _ ?_)))
    obtain rfl := someI hF
    refine (yB (yE (zX (zX (yE (zX (post1 (v1 := .bool true) rfl rfl ?_)))))))
    exact ⟨rfl, H.pick [] (by decide)⟩
   have hF := zS c394 hF
   refine (yA (yU (zA (hK370 _ _ ?_))))
   refine zB ?_
   refine zN (.int .i64 g319) ?_
   obtain ⟨x396, e397, hF⟩ := zG hF
   refine zH (xX (a := g319) (b := 1) rfl rfl e397) ?_
   refine zI (.int .i64 x396) ?_
   exact (zF (zA (meet ⟨(n325, x396), (zL rfl zO), ⟨H.pick [0, 1] (by decide), hF⟩, Nat.lt_succ_self _⟩)))
  have hF := zS c344 hF
  exact (xP (yR (yR (xA (zA (meet ⟨(), zO, ⟨H.pick [] (by decide), hF⟩⟩))))))
 rintro _ ρ w170 ⟨H, hF⟩
 have hF := wI ek172 hF
 refine zC fun K398 hK398 => ?_
 refine zB ?_
 refine zI (.bool false) ?_
 refine (zF (zA (hK398 _ _ ?_)))
 obtain rfl := someI hF
 refine (yB (post1 (v1 := .bool false) rfl rfl ?_))
 exact ⟨rfl, H.pick [] (by decide)⟩
theorem F_ref6_deeper_s : S_ref6_deeper (F_ref6_deeper) := by
 have h : ∀ n, S_ref6_deeper (F_ref6_deeper_R n) := by
  intro n
  induction n with
  | zero => intro p0 p1 v1 r hF; cases hF
  | succ n ih => intro p0 p1 v1 r hF; exact F_ref6_deeper_B_w (F_ref6_deeper_R n) ih p0 p1 v1 r hF
 exact h FU
end Go.Proofs.YtnajnkghilemhaaGreatDoor.L
