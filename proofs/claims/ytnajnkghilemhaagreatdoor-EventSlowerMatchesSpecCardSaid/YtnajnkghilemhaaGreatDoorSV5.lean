/- Walks: what each function computes, for every argument; no condition but those that stand in the statements. -/
import Derived.Test.YtnajnkghilemhaaGreatDoorSV0
import Derived.Test.YtnajnkghilemhaaGreatDoorSV3
import Derived.Test.YtnajnkghilemhaaGreatDoorSV4
namespace Go.Proofs.YtnajnkghilemhaaGreatDoor.L
open Go.RowKit Go.OB Go.Lf
set_option maxHeartbeats 4000000 in
set_option maxRecDepth 100000 in
theorem F_ref6_unnamed_B_w (rfL : Rules → Int → Cond → Option Bool) (rhL : S_ref6_unnamed rfL) (p0 : Rules) (p1 : Int) (p2 : Cond) (v1 : Value) (v2 : Value) (v3 : Value) (v7 : Value) (r : Bool) (hF : F_ref6_unnamed_B rfL p0 p1 p2 = some r) (O S : List Nat) (w : World) (H : Hd O w w S [.fz (.sl Rp.str v1 p0.Phases), .fz (.sl rMoveT v2 p0.Moves), .fz (.sl rRule v3 p0.Rules), .fz (.sl rCond v7 p2.Kids)]) :
  Calls Tryz.prog 100 ([.agg [v1, v2, v3].toArray, .int .i64 p1, .agg [.int .i64 p2.Kind, .string (bs p2.Name), .string (bs p2.Other), .int .i64 p2.Op, .int .i64 p2.N, .int .i64 p2.Frames, v7].toArray] : List Value).toArray w fun e w' => e = .returned (.bool r) ∧ Hd O w w' S [] := by
 unfold F_ref6_unnamed_B at hF
 refine yC 49 Tryz.func100 rfl rfl rfl ?_
 refine zC fun K9 hK9 => ?_
 refine zB ?_
 refine yT rfl rfl (wL (cs := [v1, v2, v3]) rfl H) ?_
 rintro _ w12 ⟨b10, rfl, H⟩
 refine yT rfl rfl (wL (cs := [.int .i64 p2.Kind, .string (bs p2.Name), .string (bs p2.Other), .int .i64 p2.Op, .int .i64 p2.N, .int .i64 p2.Frames, v7]) rfl H) ?_
 rintro _ w15 ⟨b13, rfl, H⟩
 refine zI (.bool false) ?_
 refine (zF (zA (hK9 _ _ ?_)))
 refine zC fun K31 hK31 => ?_
 obtain ⟨g42, hF, hK44⟩ := zD hF
 refine yO [9, 10, 11, 12, 13, 14, 15, 16, 17, 18, 19] (fun (g : Unit) => [(19, .bool g42)]) (fun g wl => Hd O w wl S [.fz (.sl Rp.str v1 p0.Phases), .fz (.sl rMoveT v2 p0.Moves), .fz (.sl rRule v3 p0.Rules), .fz (.sl rCond v7 p2.Kids), .blk b10 [v1, v2, v3] 26, .blk b13 [.int .i64 p2.Kind, .string (bs p2.Name), .string (bs p2.Other), .int .i64 p2.Op, .int .i64 p2.N, .int .i64 p2.Frames, v7] 54]) ?_ ?_
 ·skip
  refine zB ?_
  refine zH (fa54_0 rfl) ?_
  refine zH (zM one3 rfl (Cells.get (Blk.cells (H.item (i := 5) rfl)) (i := 0) rfl)) ?_
  obtain ⟨x45, e46, hF⟩ := zG hF
  refine zH (zV (xH (a := p2.Kind) (b := 6) rfl rfl) e46) ?_
  refine yQ (b := x45) rfl rfl rfl (fun c47 => ?_) (fun c47 => ?_)
  ·have hF := zQ c47 hF
   refine zH (fa26_0 rfl) ?_
   refine zH (zM one22 rfl (Cells.get (Blk.cells (H.item (i := 4) rfl)) (i := 0) rfl)) ?_
   refine zH (fa54_1 rfl) ?_
   refine zH (zM one9 rfl (Cells.get (Blk.cells (H.item (i := 5) rfl)) (i := 1) rfl)) ?_
   have H48 := H
   obtain ⟨x49, e50, hF⟩ := zD hF
   refine zW rfl rfl (zT en67 rfl) (F_ref6_place_w p0.Phases p2.Name v1 _ e50 _ _ _ (H.enter [] [0] (by decide) rfl)) ?_
   rintro _ w51 ⟨rfl, G52⟩
   have H := H48.step (G52.only : Only [] _ _)
   refine ⟨_, rfl, ?_⟩
   obtain ⟨x53, e54, hF⟩ := zG hF
   refine zH (zV (xQ (a := x49) (b := 0) rfl rfl) e54) ?_
   refine zH (yP (v := .bool x53) rfl rfl) ?_
   obtain rfl := someI hF
   exact (zF (zA (meet ⟨(), (zL rfl zO), H.pick [0, 1, 2, 3, 4, 5] (by decide)⟩)))
  have hF := zS c47 hF
  refine yG ?_
  refine yG ?_
  refine yG ?_
  refine yG ?_
  refine yG ?_
  refine yG ?_
  refine zH (yJ (v := .bool false) rfl rfl) ?_
  obtain rfl := someI hF
  exact (zF (zA (meet ⟨(), (zL rfl zO), H.pick [0, 1, 2, 3, 4, 5] (by decide)⟩)))
 rintro _ ρ w43 H
 have hF := hK44
 refine zZ (b := g42) rfl (fun c55 => ?_) (fun c55 => ?_)
 ·have hF := zQ c55 hF
  refine zC fun K56 hK56 => ?_
  refine zB ?_
  refine zI (.bool true) ?_
  refine (zF (zA (hK56 _ _ ?_)))
  obtain rfl := someI hF
  refine (yB (zX (post1 (v1 := .bool true) rfl rfl ?_)))
  exact ⟨rfl, H.pick [] (by decide)⟩
 have hF := zS c55 hF
 refine (yA (zA (hK31 _ _ ?_)))
 obtain ⟨k78, ek79, hF⟩ := xZ hF
 refine yO [6, 7, 20, 21, 22, 23, 24, 25, 26, 27, 28, 29, 30, 31, 32, 33] (fun (g : Unit) => []) (fun g wl => Hd O w wl S [.fz (.sl Rp.str v1 p0.Phases), .fz (.sl rMoveT v2 p0.Moves), .fz (.sl rRule v3 p0.Rules), .fz (.sl rCond v7 p2.Kids), .blk b10 [v1, v2, v3] 26, .blk b13 [.int .i64 p2.Kind, .string (bs p2.Name), .string (bs p2.Other), .int .i64 p2.Op, .int .i64 p2.N, .int .i64 p2.Frames, v7] 54] ∧ k78 () = some r) ?_ ?_
 ·skip
  refine zC fun K80 hK80 => ?_
  refine zB ?_
  refine zH (fa54_0 rfl) ?_
  refine zH (zM one3 rfl (Cells.get (Blk.cells (H.item (i := 5) rfl)) (i := 0) rfl)) ?_
  obtain ⟨x81, e82, hF⟩ := zG hF
  refine zH (zV (xH (a := p2.Kind) (b := 7) rfl rfl) e82) ?_
  refine (zF (zA (hK80 _ _ ?_)))
  refine zZ (b := x81) rfl (fun c83 => ?_) (fun c83 => ?_)
  ·have hF := zQ c83 hF
   refine zC fun K84 hK84 => ?_
   refine zB ?_
   refine zH (yL (yH (cs := [v1, v2, v3]) agg26 rfl sz26 rfl (Blk.cells (H.item (i := 4) rfl))) rfl) ?_
   refine zH (fa54_1 rfl) ?_
   refine zH (zM one9 rfl (Cells.get (Blk.cells (H.item (i := 5) rfl)) (i := 1) rfl)) ?_
   have H85 := H
   obtain ⟨x86, e87, hF⟩ := zD hF
   refine zW rfl rfl (zT en99 rfl) (F_ref6_RuleOf_w p0 p2.Name v1 v2 v3 _ e87 _ _ _ (H.enter [] [0, 1, 2] (by decide) rfl)) ?_
   rintro _ w88 ⟨rfl, G89⟩
   have H := H85.step (G89.only : Only [] _ _)
   refine ⟨_, rfl, ?_⟩
   refine zI (.int .i64 x86) ?_
   refine (zF (zA (hK84 _ _ ?_)))
   obtain ⟨g95, hF, hK97⟩ := zD hF
   refine yO [27, 28, 29, 30, 31, 32, 33] (fun (g : Unit) => [(33, .bool g95)]) (fun g wl => Hd O w wl S [.fz (.sl Rp.str v1 p0.Phases), .fz (.sl rMoveT v2 p0.Moves), .fz (.sl rRule v3 p0.Rules), .fz (.sl rCond v7 p2.Kids), .blk b10 [v1, v2, v3] 26, .blk b13 [.int .i64 p2.Kind, .string (bs p2.Name), .string (bs p2.Other), .int .i64 p2.Op, .int .i64 p2.N, .int .i64 p2.Frames, v7] 54]) ?_ ?_
   ·skip
    refine zB ?_
    refine zN (.int .i64 x86) ?_
    obtain ⟨x98, e99, hF⟩ := zG hF
    refine zH (zV (xQ (a := x86) (b := 0) rfl rfl) e99) ?_
    refine yQ (b := x98) rfl rfl rfl (fun c100 => ?_) (fun c100 => ?_)
    ·have hF := zQ c100 hF
     refine yG ?_
     refine yG ?_
     refine yG ?_
     refine zH (yP (v := .bool true) rfl rfl) ?_
     obtain rfl := someI hF
     exact (zF (zA (meet ⟨(), (zL rfl zO), H.pick [0, 1, 2, 3, 4, 5] (by decide)⟩)))
    have hF := zS c100 hF
    refine zN (.int .i64 x86) ?_
    refine zN (.int .i64 p1) ?_
    obtain ⟨x101, e102, hF⟩ := zG hF
    refine zH (zV (Do_geq (a := x86) (b := p1) rfl rfl) e102) ?_
    refine zH (yJ (v := .bool x101) rfl rfl) ?_
    obtain rfl := someI hF
    exact (zF (zA (meet ⟨(), (zL rfl zO), H.pick [0, 1, 2, 3, 4, 5] (by decide)⟩)))
   rintro _ ρ w96 H
   have hF := hK97
   refine zZ (b := g95) rfl (fun c103 => ?_) (fun c103 => ?_)
   ·have hF := zQ c103 hF
    refine zC fun K104 hK104 => ?_
    refine zB ?_
    refine zI (.bool true) ?_
    refine (zF (zA (hK104 _ _ ?_)))
    obtain rfl := someI hF
    refine (yB (zX (post1 (v1 := .bool true) rfl rfl ?_)))
    exact ⟨rfl, H.pick [] (by decide)⟩
   have hF := zS c103 hF
   exact (yA (zA (meet ⟨(), zO, ⟨H.pick [0, 1, 2, 3, 4, 5] (by decide), hF⟩⟩)))
  have hF := zS c83 hF
  exact (yA (zA (meet ⟨(), zO, ⟨H.pick [0, 1, 2, 3, 4, 5] (by decide), hF⟩⟩)))
 rintro _ ρ w77 ⟨H, hF⟩
 have hF := wI ek79 hF
 obtain ⟨k254, ek255, hF⟩ := xZ hF
 refine yO [6, 8, 34, 35, 36, 37, 38, 39, 40, 41, 42, 43, 44, 45, 46, 47, 48] (fun (g : Unit) => []) (fun g wl => Hd O w wl S [] ∧ k254 () = some r) ?_ ?_
 ·skip
  refine zC fun K256 hK256 => ?_
  refine zB ?_
  refine zI (.int .i64 0) ?_
  refine (zF (zA (hK256 _ _ ?_)))
  refine yF ?_
  unfold F_ref6_unnamed_B_L1 at hF
  obtain ⟨B399, n400, eB401, hF⟩ := yV hF
  refine xJ [6, 8, 34, 35, 36, 37, 38, 39, 40, 41, 42, 43, 44, 45, 46, 47, 48] (fun (g : Nat × Int) => [(8, .int .i64 g.2)]) (fun g wl => Hd O w wl S [.fz (.sl Rp.str v1 p0.Phases), .fz (.sl rMoveT v2 p0.Moves), .fz (.sl rRule v3 p0.Rules), .fz (.sl rCond v7 p2.Kids), .blk b10 [v1, v2, v3] 26, .blk b13 [.int .i64 p2.Kind, .string (bs p2.Name), .string (bs p2.Other), .int .i64 p2.Op, .int .i64 p2.N, .int .i64 p2.Frames, v7] 54] ∧ loopN B399 g.1 g.2 = some r) (fun g => g.1) (n400, 0) (zL rfl zO) ⟨H.pick [0, 1, 2, 3, 4, 5] (by decide), hF⟩ ?_
  clear H hF
  rintro ⟨n400, g398⟩ ρ w403 ⟨H, hF⟩
  obtain ⟨n404, rfl, hF⟩ := xB hF
  have hF := yZ eB401 hF
  refine zC fun K414 hK414 => ?_
  refine zC fun K415 hK415 => ?_
  refine zB ?_
  refine zN (.int .i64 g398) ?_
  refine zH (fa54_6 rfl) ?_
  refine zH (zM one52 rfl (Cells.get (Blk.cells (H.item (i := 5) rfl)) (i := 6) rfl)) ?_
  obtain ⟨x416, e417, hF⟩ := zG hF
  obtain ⟨a418, c419, q420⟩ := SlF.len ((H.item (i := 3) rfl))
  refine zH (yL (xW u52 q420) (congrArg (Value.int .i64) e417)) ?_
  obtain ⟨x421, e422, hF⟩ := zG hF
  refine zH (zV (xQ (a := g398) (b := x416) rfl rfl) e422) ?_
  refine (zF (zA (hK415 _ _ ?_)))
  refine zZ (b := x421) rfl (fun c423 => ?_) (fun c423 => ?_)
  ·have hF := zQ c423 hF
   refine (yA (zA (hK414 _ _ ?_)))
   refine zC fun K448 hK448 => ?_
   refine yF ?_
   refine zC fun K449 hK449 => ?_
   have H450 := H
   have H := H.rebase
   have H451 := H
   refine WP_mix0 H [0, 1, 2, 3, 4, 5, 6, 7] [.read, .pure, .pure, .read, .pure, .pure, .read, .read] mixed (by kernel_rfl) (by kernel_rfl) (by kernel_rfl) rfl ?_
   refine Mx.xC oS rfl rfl rfl (fun w' hw' => yL (yH (cs := [v1, v2, v3]) agg26 rfl sz26 rfl (Blk.cells ((H.sees hw').item (i := 4) rfl))) rfl) ?_
   refine Mx.zU rfl rfl rfl (fun w' hw' => xI (v := .int .i64 p1) rfl) ?_
   refine Mx.zU rfl rfl rfl (fun w' hw' => fa54_6 rfl) ?_
   refine Mx.xC oS rfl rfl rfl (fun w' hw' => zM one52 rfl (Cells.get (Blk.cells ((H.sees hw').item (i := 5) rfl)) (i := 6) rfl)) ?_
   refine Mx.zU rfl rfl rfl (fun w' hw' => xI (v := .int .i64 g398) rfl) ?_
   obtain ⟨x452, e453, hF⟩ := zD hF
   obtain ⟨b454, o455, c456, cs457, q458, h461, h459, h460, h462⟩ := wQ (H.item (i := 3) rfl) e453
   obtain ⟨v463, rfl, h464⟩ := wK h461
   have H := H.fzs [.at b454 (o455 + g398.toNat * 7) _, .sl rCond v463 x452.Kids] ⟨⟨h459, h460, h462⟩, h464, trivial⟩
   refine Mx.zU rfl rfl rfl (fun w' hw' => xY u52 sz54 q458 rfl (yN e453).1 (yN e453).2.1 rfl rfl) ?_
   refine Mx.xC oS rfl rfl rfl (fun w' hw' => yL (yH (cs := [.int .i64 x452.Kind, .string (bs x452.Name), .string (bs x452.Other), .int .i64 x452.Op, .int .i64 x452.N, .int .i64 x452.Frames, v463]) agg54 rfl sz54 rfl ((H.sees hw').item (i := 6) rfl).2.2) rfl) ?_
   have H467 := H
   obtain ⟨x468, e469, hF⟩ := zD hF
   refine Mx.XL_call oS rfl rfl rfl (v := .bool x468) (fun w' hw' => zT en100 rfl) (fun w' hw' => call_read (rhL p0 p1 x452 v1 v2 v3 v463 _ e469 _ _ _ ((H.sees hw').enter [] [0, 1, 2, 7] (by decide) rfl))) ?_
   have H := H467
   refine Mx.XL_nil fun w470 hS => ?_
   have H := H.sees hS
   have H := H450.rejoin H
   refine (zA (hK449 _ _ ?_))
   refine zZ (b := x468) rfl (fun c471 => ?_) (fun c471 => ?_)
   ·have hF := zQ c471 hF
    refine zC fun K472 hK472 => ?_
    refine zB ?_
    refine zI (.bool true) ?_
    refine (zF (zA (hK472 _ _ ?_)))
    obtain rfl := someI hF
    refine (yB (yE (zX (zX (yE (zX (post1 (v1 := .bool true) rfl rfl ?_)))))))
    exact ⟨rfl, H.pick [] (by decide)⟩
   have hF := zS c471 hF
   refine (yA (yU (zA (hK448 _ _ ?_))))
   refine zB ?_
   refine zN (.int .i64 g398) ?_
   obtain ⟨x473, e474, hF⟩ := zG hF
   refine zH (xX (a := g398) (b := 1) rfl rfl e474) ?_
   refine zI (.int .i64 x473) ?_
   exact (zF (zA (meet ⟨(n404, x473), (zL rfl zO), ⟨H.pick [0, 1, 2, 3, 4, 5] (by decide), hF⟩, Nat.lt_succ_self _⟩)))
  have hF := zS c423 hF
  exact (xP (yR (yR (xA (zA (meet ⟨(), zO, ⟨H.pick [] (by decide), hF⟩⟩))))))
 rintro _ ρ w253 ⟨H, hF⟩
 have hF := wI ek255 hF
 refine zC fun K475 hK475 => ?_
 refine zB ?_
 refine zI (.bool false) ?_
 refine (zF (zA (hK475 _ _ ?_)))
 obtain rfl := someI hF
 refine (yB (post1 (v1 := .bool false) rfl rfl ?_))
 exact ⟨rfl, H.pick [] (by decide)⟩
theorem F_ref6_unnamed_s : S_ref6_unnamed (F_ref6_unnamed) := by
 have h : ∀ n, S_ref6_unnamed (F_ref6_unnamed_R n) := by
  intro n
  induction n with
  | zero => intro p0 p1 p2 v1 v2 v3 v7 r hF; cases hF
  | succ n ih => intro p0 p1 p2 v1 v2 v3 v7 r hF; exact F_ref6_unnamed_B_w (F_ref6_unnamed_R n) ih p0 p1 p2 v1 v2 v3 v7 r hF
 exact h FU
set_option maxHeartbeats 4000000 in
set_option maxRecDepth 100000 in
theorem F_ref6_Check_w (p0 : Rules) (v1 : Value) (v2 : Value) (v3 : Value) (r : Int) (hF : F_ref6_Check p0 = some r) (O S : List Nat) (w : World) (H : Hd O w w S [.fz (.sl Rp.str v1 p0.Phases), .fz (.sl rMoveT v2 p0.Moves), .fz (.sl rRule v3 p0.Rules)]) :
  Calls Tryz.prog 49 ([.agg [v1, v2, v3].toArray] : List Value).toArray w fun e w' => e = .returned (.int .i64 r) ∧ Hd O w w' S [] := by
 unfold F_ref6_Check at hF
 refine yC 131 Tryz.func49 rfl rfl rfl ?_
 refine zC fun K7 hK7 => ?_
 refine zB ?_
 refine yT rfl rfl (wL (cs := [v1, v2, v3]) rfl H) ?_
 rintro _ w10 ⟨b8, rfl, H⟩
 refine zI (.int .i64 0) ?_
 refine (zF (zA (hK7 _ _ ?_)))
 refine zC fun K42 hK42 => ?_
 obtain ⟨g69, hF, hK71⟩ := zD hF
 refine yO [10, 11, 12, 13, 14, 15, 16, 17, 18, 19, 20, 21, 22, 23, 24, 25] (fun (g : Unit) => [(25, .bool g69)]) (fun g wl => Hd O w wl S [.fz (.sl Rp.str v1 p0.Phases), .fz (.sl rMoveT v2 p0.Moves), .fz (.sl rRule v3 p0.Rules), .blk b8 [v1, v2, v3] 26]) ?_ ?_
 ·skip
  refine zB ?_
  refine zH (fa26_0 rfl) ?_
  refine zH (zM one22 rfl (Cells.get (Blk.cells (H.item (i := 3) rfl)) (i := 0) rfl)) ?_
  obtain ⟨x72, e73, hF⟩ := zG hF
  obtain ⟨a74, c75, q76⟩ := SlF.len ((H.item (i := 0) rfl))
  refine zH (yL (xW u22 q76) (congrArg (Value.int .i64) e73)) ?_
  obtain ⟨x77, e78, hF⟩ := zG hF
  refine zH (zV (Do_gtr (a := x72) (b := 20) rfl rfl) e78) ?_
  obtain ⟨j79, hF, hK80⟩ := zD hF
  refine RL_cutS 6 [14, 15, 16, 17, 18, 19] [(19, .bool j79)] (fun wl => Hd O w wl S [.fz (.sl Rp.str v1 p0.Phases), .fz (.sl rMoveT v2 p0.Moves), .fz (.sl rRule v3 p0.Rules), .blk b8 [v1, v2, v3] 26]) ?_ ?_
  ·skip
   refine yQ (b := x77) rfl rfl rfl (fun c82 => ?_) (fun c82 => ?_)
   ·have hF := zQ c82 hF
    refine yG ?_
    refine yG ?_
    refine yG ?_
    refine yG ?_
    refine zH (yP (v := .bool true) rfl rfl) ?_
    obtain rfl := someI hF
    exact zF (zA (meet ⟨(zL rfl zO), H.pick [0, 1, 2, 3] (by decide)⟩))
   have hF := zS c82 hF
   refine zH (fa26_1 rfl) ?_
   refine zH (zM one23 rfl (Cells.get (Blk.cells (H.item (i := 3) rfl)) (i := 1) rfl)) ?_
   obtain ⟨x83, e84, hF⟩ := zG hF
   obtain ⟨a85, c86, q87⟩ := SlF.len ((H.item (i := 1) rfl))
   refine zH (yL (xW u23 q87) (congrArg (Value.int .i64) e84)) ?_
   obtain ⟨x88, e89, hF⟩ := zG hF
   refine zH (zV (Do_gtr (a := x83) (b := 60) rfl rfl) e89) ?_
   refine zH (yJ (v := .bool x88) rfl rfl) ?_
   obtain rfl := someI hF
   exact zF (zA (meet ⟨(zL rfl zO), H.pick [0, 1, 2, 3] (by decide)⟩))
  rintro ρ w81 H
  have hF := hK80
  refine yQ (b := j79) rfl rfl rfl (fun c90 => ?_) (fun c90 => ?_)
  ·have hF := zQ c90 hF
   refine yG ?_
   refine yG ?_
   refine yG ?_
   refine yG ?_
   refine zH (yP (v := .bool true) rfl rfl) ?_
   obtain rfl := someI hF
   exact (zF (zA (meet ⟨(), (zL rfl zO), H.pick [0, 1, 2, 3] (by decide)⟩)))
  have hF := zS c90 hF
  refine zH (fa26_2 rfl) ?_
  refine zH (zM one24 rfl (Cells.get (Blk.cells (H.item (i := 3) rfl)) (i := 2) rfl)) ?_
  obtain ⟨x91, e92, hF⟩ := zG hF
  obtain ⟨a93, c94, q95⟩ := SlF.len ((H.item (i := 2) rfl))
  refine zH (yL (xW u24 q95) (congrArg (Value.int .i64) e92)) ?_
  obtain ⟨x96, e97, hF⟩ := zG hF
  refine zH (zV (Do_gtr (a := x91) (b := 60) rfl rfl) e97) ?_
  refine zH (yJ (v := .bool x96) rfl rfl) ?_
  obtain rfl := someI hF
  exact (zF (zA (meet ⟨(), (zL rfl zO), H.pick [0, 1, 2, 3] (by decide)⟩)))
 rintro _ ρ w70 H
 have hF := hK71
 refine zZ (b := g69) rfl (fun c98 => ?_) (fun c98 => ?_)
 ·have hF := zQ c98 hF
  refine zC fun K99 hK99 => ?_
  refine zB ?_
  refine zI (.int .i64 3) ?_
  refine (zF (zA (hK99 _ _ ?_)))
  obtain rfl := someI hF
  refine (yB (zX (post1 (v1 := .int .i64 3) rfl rfl ?_)))
  exact ⟨rfl, H.pick [] (by decide)⟩
 have hF := zS c98 hF
 refine (yA (zA (hK42 _ _ ?_)))
 obtain ⟨k445, ek446, hF⟩ := xZ hF
 refine yO [2, 3, 26, 27, 28, 29, 30, 31, 32, 33, 34, 35, 36, 37, 38, 39, 40, 41, 42, 43, 44, 45, 46, 47, 48, 49, 50] (fun (g : Unit) => []) (fun g wl => Hd O w wl S [.fz (.sl Rp.str v1 p0.Phases), .fz (.sl rMoveT v2 p0.Moves), .fz (.sl rRule v3 p0.Rules), .blk b8 [v1, v2, v3] 26] ∧ k445 () = some r) ?_ ?_
 ·skip
  refine zC fun K447 hK447 => ?_
  refine zB ?_
  refine zI (.int .i64 0) ?_
  refine (zF (zA (hK447 _ _ ?_)))
  refine yF ?_
  unfold F_ref6_Check_L1 at hF
  obtain ⟨B786, n787, eB788, hF⟩ := yV hF
  refine xJ [2, 3, 26, 27, 28, 29, 30, 31, 32, 33, 34, 35, 36, 37, 38, 39, 40, 41, 42, 43, 44, 45, 46, 47, 48, 49, 50] (fun (g : Nat × Int) => [(3, .int .i64 g.2)]) (fun g wl => Hd O w wl S [.fz (.sl Rp.str v1 p0.Phases), .fz (.sl rMoveT v2 p0.Moves), .fz (.sl rRule v3 p0.Rules), .blk b8 [v1, v2, v3] 26] ∧ loopN B786 g.1 g.2 = some r) (fun g => g.1) (n787, 0) (zL rfl zO) ⟨H.pick [0, 1, 2, 3] (by decide), hF⟩ ?_
  clear H hF
  rintro ⟨n787, g785⟩ ρ w790 ⟨H, hF⟩
  obtain ⟨n791, rfl, hF⟩ := xB hF
  have hF := yZ eB788 hF
  refine zC fun K801 hK801 => ?_
  refine zC fun K802 hK802 => ?_
  refine zB ?_
  refine zN (.int .i64 g785) ?_
  refine zH (fa26_0 rfl) ?_
  refine zH (zM one22 rfl (Cells.get (Blk.cells (H.item (i := 3) rfl)) (i := 0) rfl)) ?_
  obtain ⟨x803, e804, hF⟩ := zG hF
  obtain ⟨a805, c806, q807⟩ := SlF.len ((H.item (i := 0) rfl))
  refine zH (yL (xW u22 q807) (congrArg (Value.int .i64) e804)) ?_
  obtain ⟨x808, e809, hF⟩ := zG hF
  refine zH (zV (xQ (a := g785) (b := x803) rfl rfl) e809) ?_
  refine (zF (zA (hK802 _ _ ?_)))
  refine zZ (b := x808) rfl (fun c810 => ?_) (fun c810 => ?_)
  ·have hF := zQ c810 hF
   refine (yA (zA (hK801 _ _ ?_)))
   refine zC fun K884 hK884 => ?_
   refine yF ?_
   refine zC fun K907 hK907 => ?_
   refine zC fun K908 hK908 => ?_
   refine zB ?_
   refine zH (fa26_0 rfl) ?_
   refine zH (zM one22 rfl (Cells.get (Blk.cells (H.item (i := 3) rfl)) (i := 0) rfl)) ?_
   refine zN (.int .i64 g785) ?_
   obtain ⟨x909, e910, hF⟩ := zD hF
   obtain ⟨b911, o912, c913, cs914, q915, h918, h916, h917, h919⟩ := wQ (H.item (i := 0) rfl) e910
   obtain rfl : cs914 = [.string (bs x909)] := h918
   have H := H.fz (.at b911 (o912 + g785.toNat * 1) _) ⟨h916, h917, h919⟩
   refine zH (xY u22 sz9 q915 rfl (yN e910).1 (yN e910).2.1 rfl rfl) ?_
   refine zH (zM one9 rfl (Cells.get (H.item (i := 4) rfl).2.2 (i := 0) rfl)) ?_
   have H921 := H
   obtain ⟨x922, e923, hF⟩ := zD hF
   refine zW rfl rfl (zT en72 rfl) (F_ref6_IsName_w x909 _ e923 _ _ _ (H.enter [] [] (by decide) rfl)) ?_
   rintro _ w924 ⟨rfl, G925⟩
   have H := H921.step (G925.only : Only [] _ _)
   refine ⟨_, rfl, ?_⟩
   obtain ⟨x926, e927, hF⟩ := zG hF
   refine zH (zV (wO (p := x922) rfl) e927) ?_
   refine (zF (zA (hK908 _ _ ?_)))
   refine zZ (b := x926) rfl (fun c928 => ?_) (fun c928 => ?_)
   ·have hF := zQ c928 hF
    refine zC fun K929 hK929 => ?_
    refine zB ?_
    refine zI (.int .i64 8) ?_
    refine (zF (zA (hK929 _ _ ?_)))
    obtain rfl := someI hF
    refine (yB (zX (yE (zX (zX (yE (zX (post1 (v1 := .int .i64 8) rfl rfl ?_))))))))
    exact ⟨rfl, H.pick [] (by decide)⟩
   have hF := zS c928 hF
   refine (yA (zA (hK907 _ _ ?_)))
   refine zC fun K930 hK930 => ?_
   have H931 := H
   have H := H.rebase
   have H932 := H
   refine WP_mix0 H [0, 1, 2, 3, 4, 5, 6, 7, 8, 9, 10] [.pure, .read, .pure, .pure, .pure, .read, .pure, .pure, .read, .read, .pure] mixed (by kernel_rfl) (by kernel_rfl) (by kernel_rfl) rfl ?_
   refine Mx.zU rfl rfl rfl (fun w' hw' => fa26_0 rfl) ?_
   refine Mx.xC oS rfl rfl rfl (fun w' hw' => zM one22 rfl (Cells.get (Blk.cells ((H.sees hw').item (i := 3) rfl)) (i := 0) rfl)) ?_
   refine Mx.zU rfl rfl rfl (fun w' hw' => xI (v := .int .i64 g785) rfl) ?_
   obtain ⟨x933, e934, hF⟩ := zD hF
   refine Mx.XL_exP rfl rfl rfl (Lx_slice_h u22 sz9 (H.item (i := 0) rfl) rfl rfl e934) ?_
   rintro v935 h936
   have H := H.fz (.sl Rp.str v935 x933) h936
   refine Mx.zU rfl rfl rfl (fun w' hw' => fa26_0 rfl) ?_
   refine Mx.xC oS rfl rfl rfl (fun w' hw' => zM one22 rfl (Cells.get (Blk.cells ((H.sees hw').item (i := 3) rfl)) (i := 0) rfl)) ?_
   refine Mx.zU rfl rfl rfl (fun w' hw' => xI (v := .int .i64 g785) rfl) ?_
   obtain ⟨x938, e939, hF⟩ := zD hF
   obtain ⟨b940, o941, c942, cs943, q944, h947, h945, h946, h948⟩ := wQ (H.item (i := 0) rfl) e939
   obtain rfl : cs943 = [.string (bs x938)] := h947
   have H := H.fz (.at b940 (o941 + g785.toNat * 1) _) ⟨h945, h946, h948⟩
   refine Mx.zU rfl rfl rfl (fun w' hw' => xY u22 sz9 q944 rfl (yN e939).1 (yN e939).2.1 rfl rfl) ?_
   refine Mx.xC oS rfl rfl rfl (fun w' hw' => zM one9 rfl (Cells.get ((H.sees hw').item (i := 6) rfl).2.2 (i := 0) rfl)) ?_
   have H950 := H
   obtain ⟨x951, e952, hF⟩ := zD hF
   refine Mx.XL_call oS rfl rfl rfl (v := .int .i64 x951) (fun w' hw' => zT en67 rfl) (fun w' hw' => call_read (F_ref6_place_w x933 x938 v935 _ e952 _ _ _ ((H.sees hw').enter [] [5] (by decide) rfl))) ?_
   have H := H950
   obtain ⟨x953, e954, hF⟩ := zG hF
   refine Mx.zU rfl rfl rfl (fun w' hw' => zV (Do_geq (a := x951) (b := 0) rfl rfl) e954) ?_
   refine Mx.XL_nil fun w955 hS => ?_
   have H := H.sees hS
   have H := H931.rejoin H
   refine (zA (hK930 _ _ ?_))
   refine zZ (b := x953) rfl (fun c956 => ?_) (fun c956 => ?_)
   ·have hF := zQ c956 hF
    refine zC fun K957 hK957 => ?_
    refine zB ?_
    refine zI (.int .i64 5) ?_
    refine (zF (zA (hK957 _ _ ?_)))
    obtain rfl := someI hF
    refine (yB (yE (zX (zX (yE (zX (post1 (v1 := .int .i64 5) rfl rfl ?_)))))))
    exact ⟨rfl, H.pick [] (by decide)⟩
   have hF := zS c956 hF
   refine (yA (yU (zA (hK884 _ _ ?_))))
   refine zB ?_
   refine zN (.int .i64 g785) ?_
   obtain ⟨x958, e959, hF⟩ := zG hF
   refine zH (xX (a := g785) (b := 1) rfl rfl e959) ?_
   refine zI (.int .i64 x958) ?_
   exact (zF (zA (meet ⟨(n791, x958), (zL rfl zO), ⟨H.pick [0, 1, 2, 3] (by decide), hF⟩, Nat.lt_succ_self _⟩)))
  have hF := zS c810 hF
  exact (xP (yR (yR (xA (zA (meet ⟨(), zO, ⟨H.pick [0, 1, 2, 3] (by decide), hF⟩⟩))))))
 rintro _ ρ w444 ⟨H, hF⟩
 have hF := wI ek446 hF
 obtain ⟨k1381, ek1382, hF⟩ := xZ hF
 refine yO [2, 4, 5, 6, 51, 52, 53, 54, 55, 56, 57, 58, 59, 60, 61, 62, 63, 64, 65, 66, 67, 68, 69, 70, 71, 72, 73, 74, 75, 76, 77, 78, 79, 80, 81, 82, 83, 84, 85] (fun (g : Unit) => []) (fun g wl => Hd O w wl S [.fz (.sl Rp.str v1 p0.Phases), .fz (.sl rMoveT v2 p0.Moves), .fz (.sl rRule v3 p0.Rules), .blk b8 [v1, v2, v3] 26] ∧ k1381 () = some r) ?_ ?_
 ·skip
  refine zC fun K1383 hK1383 => ?_
  refine zB ?_
  refine zI (.int .i64 0) ?_
  refine (zF (zA (hK1383 _ _ ?_)))
  refine yF ?_
  unfold F_ref6_Check_L2 at hF
  obtain ⟨B1798, n1799, eB1800, hF⟩ := yV hF
  refine xJ [2, 4, 5, 6, 51, 52, 53, 54, 55, 56, 57, 58, 59, 60, 61, 62, 63, 64, 65, 66, 67, 68, 69, 70, 71, 72, 73, 74, 75, 76, 77, 78, 79, 80, 81, 82, 83, 84, 85] (fun (g : Nat × Int) => [(4, .int .i64 g.2)]) (fun g wl => Hd O w wl S [.fz (.sl Rp.str v1 p0.Phases), .fz (.sl rMoveT v2 p0.Moves), .fz (.sl rRule v3 p0.Rules), .blk b8 [v1, v2, v3] 26] ∧ loopN B1798 g.1 g.2 = some r) (fun g => g.1) (n1799, 0) (zL rfl zO) ⟨H.pick [0, 1, 2, 3] (by decide), hF⟩ ?_
  clear H hF
  rintro ⟨n1799, g1797⟩ ρ w1802 ⟨H, hF⟩
  obtain ⟨n1803, rfl, hF⟩ := xB hF
  have hF := yZ eB1800 hF
  refine zC fun K1813 hK1813 => ?_
  refine zC fun K1814 hK1814 => ?_
  refine zB ?_
  refine zN (.int .i64 g1797) ?_
  refine zH (fa26_1 rfl) ?_
  refine zH (zM one23 rfl (Cells.get (Blk.cells (H.item (i := 3) rfl)) (i := 1) rfl)) ?_
  obtain ⟨x1815, e1816, hF⟩ := zG hF
  obtain ⟨a1817, c1818, q1819⟩ := SlF.len ((H.item (i := 1) rfl))
  refine zH (yL (xW u23 q1819) (congrArg (Value.int .i64) e1816)) ?_
  obtain ⟨x1820, e1821, hF⟩ := zG hF
  refine zH (zV (xQ (a := g1797) (b := x1815) rfl rfl) e1821) ?_
  refine (zF (zA (hK1814 _ _ ?_)))
  refine zZ (b := x1820) rfl (fun c1822 => ?_) (fun c1822 => ?_)
  ·have hF := zQ c1822 hF
   refine (yA (zA (hK1813 _ _ ?_)))
   refine zC fun K1915 hK1915 => ?_
   refine yF ?_
   refine zC fun K1916 hK1916 => ?_
   refine zB ?_
   refine zH (fa26_1 rfl) ?_
   refine zH (zM one23 rfl (Cells.get (Blk.cells (H.item (i := 3) rfl)) (i := 1) rfl)) ?_
   refine zN (.int .i64 g1797) ?_
   obtain ⟨x1917, e1918, hF⟩ := zD hF
   obtain ⟨b1919, o1920, c1921, cs1922, q1923, h1926, h1924, h1925, h1927⟩ := wQ (H.item (i := 1) rfl) e1918
   obtain ⟨v1928, rfl, h1929⟩ := rMoveT_open h1926
   have H := H.fzs [.at b1919 (o1920 + g1797.toNat * 9) _, .sl rCond v1928 x1917.When.Kids] ⟨⟨h1924, h1925, h1927⟩, h1929, trivial⟩
   refine zH (xY u23 sz102 q1923 rfl (yN e1918).1 (yN e1918).2.1 rfl rfl) ?_
   refine zH (yL (yH (cs := [.string (bs x1917.From), .string (bs x1917.To), .int .i64 x1917.When.Kind, .string (bs x1917.When.Name), .string (bs x1917.When.Other), .int .i64 x1917.When.Op, .int .i64 x1917.When.N, .int .i64 x1917.When.Frames, v1928]) agg102 rfl sz102 rfl (H.item (i := 4) rfl).2.2) rfl) ?_
   refine yT rfl rfl (xG zero102 H) ?_
   rintro _ w1934 ⟨b1932, rfl, H⟩
   refine yS rfl (yI (vs := [.string (bs x1917.From), .string (bs x1917.To), .int .i64 x1917.When.Kind, .string (bs x1917.When.Name), .string (bs x1917.When.Other), .int .i64 x1917.When.Op, .int .i64 x1917.When.N, .int .i64 x1917.When.Frames, v1928]) H 6 rfl sz102 rfl rfl rfl ⟨rfl, rfl, rfl, rfl, rfl, rfl, rfl, rfl, (xR (H.item (i := 5) rfl)), trivial⟩ rfl) ?_
   rintro w1935 H
   refine (zF (zA (hK1916 _ _ ?_)))
   refine zC fun K1956 hK1956 => ?_
   obtain ⟨g1972, hF, hK1974⟩ := zD hF
   refine yO [63, 64, 65, 66, 67, 68, 69, 70, 71, 72, 73, 74, 75, 76] (fun (g : Unit) => [(76, .bool g1972)]) (fun g wl => Hd O w wl S [.fz (.sl Rp.str v1 p0.Phases), .fz (.sl rMoveT v2 p0.Moves), .fz (.sl rRule v3 p0.Rules), .blk b8 [v1, v2, v3] 26, .fz (.sl rCond v1928 x1917.When.Kids), .blk b1932 [.string (bs x1917.From), .string (bs x1917.To), .int .i64 x1917.When.Kind, .string (bs x1917.When.Name), .string (bs x1917.When.Other), .int .i64 x1917.When.Op, .int .i64 x1917.When.N, .int .i64 x1917.When.Frames, v1928] 102]) ?_ ?_
   ·skip
    refine zB ?_
    refine zH (fa26_0 rfl) ?_
    refine zH (zM one22 rfl (Cells.get (Blk.cells (H.item (i := 3) rfl)) (i := 0) rfl)) ?_
    refine zH (fa102_0 rfl) ?_
    refine zH (zM one9 rfl (Cells.get (Blk.cells (H.item (i := 6) rfl)) (i := 0) rfl)) ?_
    have H1975 := H
    obtain ⟨x1976, e1977, hF⟩ := zD hF
    refine zW rfl rfl (zT en67 rfl) (F_ref6_place_w p0.Phases x1917.From v1 _ e1977 _ _ _ (H.enter [] [0] (by decide) rfl)) ?_
    rintro _ w1978 ⟨rfl, G1979⟩
    have H := H1975.step (G1979.only : Only [] _ _)
    refine ⟨_, rfl, ?_⟩
    obtain ⟨x1980, e1981, hF⟩ := zG hF
    refine zH (zV (xQ (a := x1976) (b := 0) rfl rfl) e1981) ?_
    refine yQ (b := x1980) rfl rfl rfl (fun c1982 => ?_) (fun c1982 => ?_)
    ·have hF := zQ c1982 hF
     refine yG ?_
     refine yG ?_
     refine yG ?_
     refine yG ?_
     refine yG ?_
     refine yG ?_
     refine zH (yP (v := .bool true) rfl rfl) ?_
     obtain rfl := someI hF
     exact (zF (zA (meet ⟨(), (zL rfl zO), H.pick [0, 1, 2, 3, 5, 6] (by decide)⟩)))
    have hF := zS c1982 hF
    refine zH (fa26_0 rfl) ?_
    refine zH (zM one22 rfl (Cells.get (Blk.cells (H.item (i := 3) rfl)) (i := 0) rfl)) ?_
    refine zH (fa102_1 rfl) ?_
    refine zH (zM one9 rfl (Cells.get (Blk.cells (H.item (i := 6) rfl)) (i := 1) rfl)) ?_
    have H1983 := H
    obtain ⟨x1984, e1985, hF⟩ := zD hF
    refine zW rfl rfl (zT en67 rfl) (F_ref6_place_w p0.Phases x1917.To v1 _ e1985 _ _ _ (H.enter [] [0] (by decide) rfl)) ?_
    rintro _ w1986 ⟨rfl, G1987⟩
    have H := H1983.step (G1987.only : Only [] _ _)
    refine ⟨_, rfl, ?_⟩
    obtain ⟨x1988, e1989, hF⟩ := zG hF
    refine zH (zV (xQ (a := x1984) (b := 0) rfl rfl) e1989) ?_
    refine zH (yJ (v := .bool x1988) rfl rfl) ?_
    obtain rfl := someI hF
    exact (zF (zA (meet ⟨(), (zL rfl zO), H.pick [0, 1, 2, 3, 5, 6] (by decide)⟩)))
   rintro _ ρ w1973 H
   have hF := hK1974
   refine zZ (b := g1972) rfl (fun c1990 => ?_) (fun c1990 => ?_)
   ·have hF := zQ c1990 hF
    refine zC fun K1991 hK1991 => ?_
    refine zB ?_
    refine zI (.int .i64 4) ?_
    refine (zF (zA (hK1991 _ _ ?_)))
    obtain rfl := someI hF
    refine (yB (zX (yE (zX (zX (yE (zX (post1 (v1 := .int .i64 4) rfl rfl ?_))))))))
    exact ⟨rfl, H.pick [] (by decide)⟩
   have hF := zS c1990 hF
   refine (yA (zA (hK1956 _ _ ?_)))
   refine zC fun K2003 hK2003 => ?_
   refine zC fun K2004 hK2004 => ?_
   refine zB ?_
   refine zH (fa102_2 rfl) ?_
   refine zH (yL (yH (cs := [.int .i64 x1917.When.Kind, .string (bs x1917.When.Name), .string (bs x1917.When.Other), .int .i64 x1917.When.Op, .int .i64 x1917.When.N, .int .i64 x1917.When.Frames, v1928]) agg54 rfl sz54 rfl (Cells.drop (Blk.cells (H.item (i := 5) rfl)) 2 7)) rfl) ?_
   have H2005 := H
   obtain ⟨x2006, e2007, hF⟩ := zD hF
   refine zW rfl rfl (zT en58 rfl) (F_ref6_CheckCond_w x1917.When v1928 _ e2007 _ _ _ (H.enter [] [4] (by decide) rfl)) ?_
   rintro _ w2008 ⟨rfl, G2009⟩
   have H := H2005.step (G2009.only : Only [] _ _)
   refine ⟨_, rfl, ?_⟩
   refine zI (.int .i64 x2006) ?_
   refine (zF (zA (hK2004 _ _ ?_)))
   refine zC fun K2010 hK2010 => ?_
   refine zB ?_
   refine zN (.int .i64 x2006) ?_
   obtain ⟨x2011, e2012, hF⟩ := zG hF
   refine zH (zV (Do_neq (a := x2006) (b := 0) rfl rfl) e2012) ?_
   refine (zF (zA (hK2010 _ _ ?_)))
   refine zZ (b := x2011) rfl (fun c2013 => ?_) (fun c2013 => ?_)
   ·have hF := zQ c2013 hF
    refine zC fun K2014 hK2014 => ?_
    refine zB ?_
    refine zN (.int .i64 x2006) ?_
    refine zI (.int .i64 x2006) ?_
    refine (zF (zA (hK2014 _ _ ?_)))
    obtain rfl := someI hF
    refine (yB (zX (yE (zX (zX (yE (zX (post1 (v1 := .int .i64 x2006) rfl rfl ?_))))))))
    exact ⟨rfl, H.pick [] (by decide)⟩
   have hF := zS c2013 hF
   refine (yA (zA (hK2003 _ _ ?_)))
   refine zC fun K2015 hK2015 => ?_
   refine zB ?_
   refine zH (fa102_2 rfl) ?_
   refine zH (yL (yH (cs := [.int .i64 x1917.When.Kind, .string (bs x1917.When.Name), .string (bs x1917.When.Other), .int .i64 x1917.When.Op, .int .i64 x1917.When.N, .int .i64 x1917.When.Frames, v1928]) agg54 rfl sz54 rfl (Cells.drop (Blk.cells (H.item (i := 5) rfl)) 2 7)) rfl) ?_
   have H2016 := H
   obtain ⟨x2017, e2018, hF⟩ := zD hF
   refine zW rfl rfl (zT en98 rfl) (F_ref6_refers_s x1917.When v1928 _ e2018 _ _ _ (H.enter [] [4] (by decide) rfl)) ?_
   rintro _ w2019 ⟨rfl, G2020⟩
   have H := H2016.step (G2020.only : Only [] _ _)
   refine ⟨_, rfl, ?_⟩
   refine (zF (zA (hK2015 _ _ ?_)))
   refine zZ (b := x2017) rfl (fun c2021 => ?_) (fun c2021 => ?_)
   ·have hF := zQ c2021 hF
    refine zC fun K2022 hK2022 => ?_
    refine zB ?_
    refine zI (.int .i64 2) ?_
    refine (zF (zA (hK2022 _ _ ?_)))
    obtain rfl := someI hF
    refine (yB (yE (zX (zX (yE (zX (post1 (v1 := .int .i64 2) rfl rfl ?_)))))))
    exact ⟨rfl, H.pick [] (by decide)⟩
   have hF := zS c2021 hF
   refine (yA (yU (zA (hK1915 _ _ ?_))))
   refine zB ?_
   refine zN (.int .i64 g1797) ?_
   obtain ⟨x2023, e2024, hF⟩ := zG hF
   refine zH (xX (a := g1797) (b := 1) rfl rfl e2024) ?_
   refine zI (.int .i64 x2023) ?_
   exact (zF (zA (meet ⟨(n1803, x2023), (zL rfl zO), ⟨H.pick [0, 1, 2, 3] (by decide), hF⟩, Nat.lt_succ_self _⟩)))
  have hF := zS c1822 hF
  exact (xP (yR (yR (xA (zA (meet ⟨(), zO, ⟨H.pick [0, 1, 2, 3] (by decide), hF⟩⟩))))))
 rintro _ ρ w1380 ⟨H, hF⟩
 have hF := wI ek1382 hF
 obtain ⟨k2810, ek2811, hF⟩ := xZ hF
 refine yO [2, 7, 8, 9, 86, 87, 88, 89, 90, 91, 92, 93, 94, 95, 96, 97, 98, 99, 100, 101, 102, 103, 104, 105, 106, 107, 108, 109, 110, 111, 112, 113, 114, 115, 116, 117, 118, 119, 120, 121, 122, 123, 124, 125, 126, 127, 128, 129, 130] (fun (g : Unit) => []) (fun g wl => Hd O w wl S [] ∧ k2810 () = some r) ?_ ?_
 ·skip
  refine zC fun K2812 hK2812 => ?_
  refine zB ?_
  refine zI (.int .i64 0) ?_
  refine (zF (zA (hK2812 _ _ ?_)))
  refine yF ?_
  unfold F_ref6_Check_L3 at hF
  obtain ⟨B3591, n3592, eB3593, hF⟩ := yV hF
  refine xJ [2, 7, 8, 9, 86, 87, 88, 89, 90, 91, 92, 93, 94, 95, 96, 97, 98, 99, 100, 101, 102, 103, 104, 105, 106, 107, 108, 109, 110, 111, 112, 113, 114, 115, 116, 117, 118, 119, 120, 121, 122, 123, 124, 125, 126, 127, 128, 129, 130] (fun (g : Nat × Int) => [(7, .int .i64 g.2)]) (fun g wl => Hd O w wl S [.fz (.sl Rp.str v1 p0.Phases), .fz (.sl rMoveT v2 p0.Moves), .fz (.sl rRule v3 p0.Rules), .blk b8 [v1, v2, v3] 26] ∧ loopN B3591 g.1 g.2 = some r) (fun g => g.1) (n3592, 0) (zL rfl zO) ⟨H.pick [0, 1, 2, 3] (by decide), hF⟩ ?_
  clear H hF
  rintro ⟨n3592, g3590⟩ ρ w3595 ⟨H, hF⟩
  obtain ⟨n3596, rfl, hF⟩ := xB hF
  have hF := yZ eB3593 hF
  refine zC fun K3606 hK3606 => ?_
  refine zC fun K3607 hK3607 => ?_
  refine zB ?_
  refine zN (.int .i64 g3590) ?_
  refine zH (fa26_2 rfl) ?_
  refine zH (zM one24 rfl (Cells.get (Blk.cells (H.item (i := 3) rfl)) (i := 2) rfl)) ?_
  obtain ⟨x3608, e3609, hF⟩ := zG hF
  obtain ⟨a3610, c3611, q3612⟩ := SlF.len ((H.item (i := 2) rfl))
  refine zH (yL (xW u24 q3612) (congrArg (Value.int .i64) e3609)) ?_
  obtain ⟨x3613, e3614, hF⟩ := zG hF
  refine zH (zV (xQ (a := g3590) (b := x3608) rfl rfl) e3614) ?_
  refine (zF (zA (hK3607 _ _ ?_)))
  refine zZ (b := x3613) rfl (fun c3615 => ?_) (fun c3615 => ?_)
  ·have hF := zQ c3615 hF
   refine (yA (zA (hK3606 _ _ ?_)))
   refine zC fun K3799 hK3799 => ?_
   refine yF ?_
   refine zC fun K3825 hK3825 => ?_
   refine zC fun K3826 hK3826 => ?_
   refine zB ?_
   refine zH (fa26_2 rfl) ?_
   refine zH (zM one24 rfl (Cells.get (Blk.cells (H.item (i := 3) rfl)) (i := 2) rfl)) ?_
   refine zN (.int .i64 g3590) ?_
   obtain ⟨x3827, e3828, hF⟩ := zD hF
   obtain ⟨b3829, o3830, c3831, cs3832, q3833, h3836, h3834, h3835, h3837⟩ := wQ (H.item (i := 2) rfl) e3828
   obtain ⟨v3838, rfl, h3839⟩ := rRule_open h3836
   have H := H.fzs [.at b3829 (o3830 + g3590.toNat * 8) _, .sl rCond v3838 x3827.When.Kids] ⟨⟨h3834, h3835, h3837⟩, h3839, trivial⟩
   refine zH (xY u24 sz106 q3833 rfl (yN e3828).1 (yN e3828).2.1 rfl rfl) ?_
   refine zH (fa106_0 rfl) ?_
   refine zH (zM one9 rfl (Cells.get (H.item (i := 4) rfl).2.2 (i := 0) rfl)) ?_
   have H3842 := H
   obtain ⟨x3843, e3844, hF⟩ := zD hF
   refine zW rfl rfl (zT en72 rfl) (F_ref6_IsName_w x3827.Name _ e3844 _ _ _ (H.enter [] [] (by decide) rfl)) ?_
   rintro _ w3845 ⟨rfl, G3846⟩
   have H := H3842.step (G3846.only : Only [] _ _)
   refine ⟨_, rfl, ?_⟩
   obtain ⟨x3847, e3848, hF⟩ := zG hF
   refine zH (zV (wO (p := x3843) rfl) e3848) ?_
   refine (zF (zA (hK3826 _ _ ?_)))
   refine zZ (b := x3847) rfl (fun c3849 => ?_) (fun c3849 => ?_)
   ·have hF := zQ c3849 hF
    refine zC fun K3850 hK3850 => ?_
    refine zB ?_
    refine zI (.int .i64 8) ?_
    refine (zF (zA (hK3850 _ _ ?_)))
    obtain rfl := someI hF
    refine (yB (zX (yE (zX (zX (yE (zX (post1 (v1 := .int .i64 8) rfl rfl ?_))))))))
    exact ⟨rfl, H.pick [] (by decide)⟩
   have hF := zS c3849 hF
   refine (yA (zA (hK3825 _ _ ?_)))
   refine zC fun K3878 hK3878 => ?_
   refine zC fun K3879 hK3879 => ?_
   have H3880 := H
   have H := H.rebase
   have H3881 := H
   refine WP_mix0 H [0, 1, 2, 3, 4, 5, 6, 7, 8] [.read, .pure, .read, .pure, .pure, .pure, .read, .read, .pure] mixed (by kernel_rfl) (by kernel_rfl) (by kernel_rfl) rfl ?_
   refine Mx.xC oS rfl rfl rfl (fun w' hw' => yL (yH (cs := [v1, v2, v3]) agg26 rfl sz26 rfl (Blk.cells ((H.sees hw').item (i := 3) rfl))) rfl) ?_
   refine Mx.zU rfl rfl rfl (fun w' hw' => fa26_2 rfl) ?_
   refine Mx.xC oS rfl rfl rfl (fun w' hw' => zM one24 rfl (Cells.get (Blk.cells ((H.sees hw').item (i := 3) rfl)) (i := 2) rfl)) ?_
   refine Mx.zU rfl rfl rfl (fun w' hw' => xI (v := .int .i64 g3590) rfl) ?_
   obtain ⟨x3882, e3883, hF⟩ := zD hF
   obtain ⟨b3884, o3885, c3886, cs3887, q3888, h3891, h3889, h3890, h3892⟩ := wQ (H.item (i := 2) rfl) e3883
   obtain ⟨v3893, rfl, h3894⟩ := rRule_open h3891
   have H := H.fzs [.at b3884 (o3885 + g3590.toNat * 8) _, .sl rCond v3893 x3882.When.Kids] ⟨⟨h3889, h3890, h3892⟩, h3894, trivial⟩
   refine Mx.zU rfl rfl rfl (fun w' hw' => xY u24 sz106 q3888 rfl (yN e3883).1 (yN e3883).2.1 rfl rfl) ?_
   refine Mx.zU rfl rfl rfl (fun w' hw' => fa106_0 rfl) ?_
   refine Mx.xC oS rfl rfl rfl (fun w' hw' => zM one9 rfl (Cells.get ((H.sees hw').item (i := 6) rfl).2.2 (i := 0) rfl)) ?_
   have H3897 := H
   obtain ⟨x3898, e3899, hF⟩ := zD hF
   refine Mx.XL_call oS rfl rfl rfl (v := .int .i64 x3898) (fun w' hw' => zT en99 rfl) (fun w' hw' => call_read (F_ref6_RuleOf_w p0 x3882.Name v1 v2 v3 _ e3899 _ _ _ ((H.sees hw').enter [] [0, 1, 2] (by decide) rfl))) ?_
   have H := H3897
   refine Mx.zU rfl rfl rfl (fun w' hw' => wJ (v := .int .i64 x3898) rfl) ?_
   refine Mx.XL_nil fun w3900 hS => ?_
   have H := H.sees hS
   have H := H3880.rejoin H
   refine (zA (hK3879 _ _ ?_))
   refine zC fun K3901 hK3901 => ?_
   refine zB ?_
   refine zN (.int .i64 x3898) ?_
   refine zN (.int .i64 g3590) ?_
   obtain ⟨x3902, e3903, hF⟩ := zG hF
   refine zH (zV (xQ (a := x3898) (b := g3590) rfl rfl) e3903) ?_
   refine (zF (zA (hK3901 _ _ ?_)))
   refine zZ (b := x3902) rfl (fun c3904 => ?_) (fun c3904 => ?_)
   ·have hF := zQ c3904 hF
    refine zC fun K3905 hK3905 => ?_
    refine zB ?_
    refine zI (.int .i64 5) ?_
    refine (zF (zA (hK3905 _ _ ?_)))
    obtain rfl := someI hF
    refine (yB (zX (yE (zX (zX (yE (zX (post1 (v1 := .int .i64 5) rfl rfl ?_))))))))
    exact ⟨rfl, H.pick [] (by decide)⟩
   have hF := zS c3904 hF
   refine (yA (zA (hK3878 _ _ ?_)))
   refine zC fun K3932 hK3932 => ?_
   refine zC fun K3933 hK3933 => ?_
   refine zB ?_
   refine zH (fa26_2 rfl) ?_
   refine zH (zM one24 rfl (Cells.get (Blk.cells (H.item (i := 3) rfl)) (i := 2) rfl)) ?_
   refine zN (.int .i64 g3590) ?_
   obtain ⟨x3934, e3935, hF⟩ := zD hF
   obtain ⟨b3936, o3937, c3938, cs3939, q3940, h3943, h3941, h3942, h3944⟩ := wQ (H.item (i := 2) rfl) e3935
   obtain ⟨v3945, rfl, h3946⟩ := rRule_open h3943
   have H := H.fzs [.at b3936 (o3937 + g3590.toNat * 8) _, .sl rCond v3945 x3934.When.Kids] ⟨⟨h3941, h3942, h3944⟩, h3946, trivial⟩
   refine zH (xY u24 sz106 q3940 rfl (yN e3935).1 (yN e3935).2.1 rfl rfl) ?_
   refine zH (fa106_1 rfl) ?_
   refine zH (yL (yH (cs := [.int .i64 x3934.When.Kind, .string (bs x3934.When.Name), .string (bs x3934.When.Other), .int .i64 x3934.When.Op, .int .i64 x3934.When.N, .int .i64 x3934.When.Frames, v3945]) agg54 rfl sz54 rfl (Cells.drop (H.item (i := 8) rfl).2.2 1 7)) rfl) ?_
   have H3949 := H
   obtain ⟨x3950, e3951, hF⟩ := zD hF
   refine zW rfl rfl (zT en58 rfl) (F_ref6_CheckCond_w x3934.When v3945 _ e3951 _ _ _ (H.enter [] [9] (by decide) rfl)) ?_
   rintro _ w3952 ⟨rfl, G3953⟩
   have H := H3949.step (G3953.only : Only [] _ _)
   refine ⟨_, rfl, ?_⟩
   refine zI (.int .i64 x3950) ?_
   refine (zF (zA (hK3933 _ _ ?_)))
   refine zC fun K3954 hK3954 => ?_
   refine zB ?_
   refine zN (.int .i64 x3950) ?_
   obtain ⟨x3955, e3956, hF⟩ := zG hF
   refine zH (zV (Do_neq (a := x3950) (b := 0) rfl rfl) e3956) ?_
   refine (zF (zA (hK3954 _ _ ?_)))
   refine zZ (b := x3955) rfl (fun c3957 => ?_) (fun c3957 => ?_)
   ·have hF := zQ c3957 hF
    refine zC fun K3958 hK3958 => ?_
    refine zB ?_
    refine zN (.int .i64 x3950) ?_
    refine zI (.int .i64 x3950) ?_
    refine (zF (zA (hK3958 _ _ ?_)))
    obtain rfl := someI hF
    refine (yB (zX (yE (zX (zX (yE (zX (post1 (v1 := .int .i64 x3950) rfl rfl ?_))))))))
    exact ⟨rfl, H.pick [] (by decide)⟩
   have hF := zS c3957 hF
   refine (yA (zA (hK3932 _ _ ?_)))
   refine zC fun K3959 hK3959 => ?_
   have H3960 := H
   have H := H.rebase
   have H3961 := H
   refine WP_mix0 H [0, 1, 2, 3, 4, 5, 6, 7, 8] [.read, .pure, .pure, .read, .pure, .pure, .pure, .read, .read] mixed (by kernel_rfl) (by kernel_rfl) (by kernel_rfl) rfl ?_
   refine Mx.xC oS rfl rfl rfl (fun w' hw' => yL (yH (cs := [v1, v2, v3]) agg26 rfl sz26 rfl (Blk.cells ((H.sees hw').item (i := 3) rfl))) rfl) ?_
   refine Mx.zU rfl rfl rfl (fun w' hw' => xI (v := .int .i64 g3590) rfl) ?_
   refine Mx.zU rfl rfl rfl (fun w' hw' => fa26_2 rfl) ?_
   refine Mx.xC oS rfl rfl rfl (fun w' hw' => zM one24 rfl (Cells.get (Blk.cells ((H.sees hw').item (i := 3) rfl)) (i := 2) rfl)) ?_
   refine Mx.zU rfl rfl rfl (fun w' hw' => xI (v := .int .i64 g3590) rfl) ?_
   obtain ⟨x3962, e3963, hF⟩ := zD hF
   obtain ⟨b3964, o3965, c3966, cs3967, q3968, h3971, h3969, h3970, h3972⟩ := wQ (H.item (i := 2) rfl) e3963
   obtain ⟨v3973, rfl, h3974⟩ := rRule_open h3971
   have H := H.fzs [.at b3964 (o3965 + g3590.toNat * 8) _, .sl rCond v3973 x3962.When.Kids] ⟨⟨h3969, h3970, h3972⟩, h3974, trivial⟩
   refine Mx.zU rfl rfl rfl (fun w' hw' => xY u24 sz106 q3968 rfl (yN e3963).1 (yN e3963).2.1 rfl rfl) ?_
   refine Mx.zU rfl rfl rfl (fun w' hw' => fa106_1 rfl) ?_
   refine Mx.xC oS rfl rfl rfl (fun w' hw' => yL (yH (cs := [.int .i64 x3962.When.Kind, .string (bs x3962.When.Name), .string (bs x3962.When.Other), .int .i64 x3962.When.Op, .int .i64 x3962.When.N, .int .i64 x3962.When.Frames, v3973]) agg54 rfl sz54 rfl (Cells.drop ((H.sees hw').item (i := 10) rfl).2.2 1 7)) rfl) ?_
   have H3977 := H
   obtain ⟨x3978, e3979, hF⟩ := zD hF
   refine Mx.XL_call oS rfl rfl rfl (v := .bool x3978) (fun w' hw' => zT en100 rfl) (fun w' hw' => call_read (F_ref6_unnamed_s p0 g3590 x3962.When v1 v2 v3 v3973 _ e3979 _ _ _ ((H.sees hw').enter [] [0, 1, 2, 11] (by decide) rfl))) ?_
   have H := H3977
   refine Mx.XL_nil fun w3980 hS => ?_
   have H := H.sees hS
   have H := H3960.rejoin H
   refine (zA (hK3959 _ _ ?_))
   have H : Hd O w w3980 S [.fz (.sl Rp.str v1 p0.Phases), .fz (.sl rMoveT v2 p0.Moves), .fz (.sl rRule v3 p0.Rules), .blk b8 [v1, v2, v3] 26] := H.pick [0, 1, 2, 3] (by decide)
   refine zZ (b := x3978) rfl (fun c3981 => ?_) (fun c3981 => ?_)
   ·have hF := zQ c3981 hF
    refine zC fun K3982 hK3982 => ?_
    refine zB ?_
    refine zI (.int .i64 4) ?_
    refine (zF (zA (hK3982 _ _ ?_)))
    obtain rfl := someI hF
    refine (yB (yE (zX (zX (yE (zX (post1 (v1 := .int .i64 4) rfl rfl ?_)))))))
    exact ⟨rfl, H.pick [] (by decide)⟩
   have hF := zS c3981 hF
   refine (yA (yU (zA (hK3799 _ _ ?_))))
   refine zB ?_
   refine zN (.int .i64 g3590) ?_
   obtain ⟨x3983, e3984, hF⟩ := zG hF
   refine zH (xX (a := g3590) (b := 1) rfl rfl e3984) ?_
   refine zI (.int .i64 x3983) ?_
   exact (zF (zA (meet ⟨(n3596, x3983), (zL rfl zO), ⟨H.pick [0, 1, 2, 3] (by decide), hF⟩, Nat.lt_succ_self _⟩)))
  have hF := zS c3615 hF
  exact (xP (yR (yR (xA (zA (meet ⟨(), zO, ⟨H.pick [] (by decide), hF⟩⟩))))))
 rintro _ ρ w2809 ⟨H, hF⟩
 have hF := wI ek2811 hF
 refine zC fun K3985 hK3985 => ?_
 refine zB ?_
 refine zI (.int .i64 0) ?_
 refine (zF (zA (hK3985 _ _ ?_)))
 obtain rfl := someI hF
 refine (yB (post1 (v1 := .int .i64 0) rfl rfl ?_))
 exact ⟨rfl, H.pick [] (by decide)⟩
set_option maxHeartbeats 4000000 in
theorem F_ref6_up_w (p0 : Int) (p1 : Int) (r : Int) (hF : F_ref6_up p0 p1 = some r) (O S : List Nat) (w : World) (H : Hd O w w S []) :
  Calls Tryz.prog 117 ([.int .i64 p0, .int .i64 p1] : List Value).toArray w fun e w' => e = .returned (.int .i64 r) ∧ Hd O w w' S [] := by
 unfold F_ref6_up at hF
 refine yC 11 Tryz.func117 rfl rfl rfl ?_
 refine zC fun K1 hK1 => ?_
 refine zB ?_
 refine zI (.int .i64 0) ?_
 refine (zF (zA (hK1 _ _ ?_)))
 refine zC fun K2 hK2 => ?_
 refine zB ?_
 refine zN (.int .i64 p0) ?_
 refine zN (.int .i64 p1) ?_
 obtain ⟨x3, e4, hF⟩ := zG hF
 refine zH (xX (a := p0) (b := p1) rfl rfl e4) ?_
 obtain ⟨x5, e6, hF⟩ := zG hF
 refine zH (Do_sub (a := x3) (b := 1) rfl rfl e6) ?_
 refine zN (.int .i64 p1) ?_
 obtain ⟨x7, e8, hF⟩ := zD hF
 refine zH (Do_quo' (j := x5) (q := p1) rfl rfl e8) ?_
 refine zI (.int .i64 x7) ?_
 refine (zF (zA (hK2 _ _ ?_)))
 obtain rfl := someI hF
 refine (yB (post1 (v1 := .int .i64 x7) rfl rfl ?_))
 exact ⟨rfl, H.pick [] (by decide)⟩
abbrev S_ref6_slower (f : Cond → Int → Option Cond) : Prop := ∀ (p0 : Cond) (p1 : Int) (v1 : Value) (r : Cond) (hF : f p0 p1 = some r) (O S : List Nat) (w : World) (H : Hd O w w S [.fz (.sl rCond v1 p0.Kids)]),
  Calls Tryz.prog 64 ([.agg [.int .i64 p0.Kind, .string (bs p0.Name), .string (bs p0.Other), .int .i64 p0.Op, .int .i64 p0.N, .int .i64 p0.Frames, v1].toArray, .int .i64 p1] : List Value).toArray w fun e w' => ∃ u3, e = .returned (.agg [.int .i64 r.Kind, .string (bs r.Name), .string (bs r.Other), .int .i64 r.Op, .int .i64 r.N, .int .i64 r.Frames, u3].toArray) ∧ Hd O w w' S [.fz (.sl rCond u3 r.Kids)]
set_option maxHeartbeats 4000000 in
theorem F_ref6_slower_B_w (rfM : Cond → Int → Option Cond) (rhM : S_ref6_slower rfM) (p0 : Cond) (p1 : Int) (v1 : Value) (r : Cond) (hF : F_ref6_slower_B rfM p0 p1 = some r) (O S : List Nat) (w : World) (H : Hd O w w S [.fz (.sl rCond v1 p0.Kids)]) :
  Calls Tryz.prog 64 ([.agg [.int .i64 p0.Kind, .string (bs p0.Name), .string (bs p0.Other), .int .i64 p0.Op, .int .i64 p0.N, .int .i64 p0.Frames, v1].toArray, .int .i64 p1] : List Value).toArray w fun e w' => ∃ u3, e = .returned (.agg [.int .i64 r.Kind, .string (bs r.Name), .string (bs r.Other), .int .i64 r.Op, .int .i64 r.N, .int .i64 r.Frames, u3].toArray) ∧ Hd O w w' S [.fz (.sl rCond u3 r.Kids)] := by
 unfold F_ref6_slower_B at hF
 refine yC 42 Tryz.func64 rfl rfl rfl ?_
 refine zC fun K4 hK4 => ?_
 refine zB ?_
 refine yT rfl rfl (wL (cs := [.int .i64 p0.Kind, .string (bs p0.Name), .string (bs p0.Other), .int .i64 p0.Op, .int .i64 p0.N, .int .i64 p0.Frames, v1]) rfl H) ?_
 rintro _ w7 ⟨b5, rfl, H⟩
 refine yT rfl rfl (xG zero54 H) ?_
 rintro _ w10 ⟨b8, rfl, H⟩
 refine (zF (zA (hK4 _ _ ?_)))
 refine zC fun K11 hK11 => ?_
 refine zB ?_
 refine zH (yL (yH (cs := [.int .i64 p0.Kind, .string (bs p0.Name), .string (bs p0.Other), .int .i64 p0.Op, .int .i64 p0.N, .int .i64 p0.Frames, v1]) agg54 rfl sz54 rfl (Blk.cells (H.item (i := 1) rfl))) rfl) ?_
 refine yT rfl rfl (xG zero54 H) ?_
 rintro _ w14 ⟨b12, rfl, H⟩
 refine yS rfl (yI (vs := [.int .i64 p0.Kind, .string (bs p0.Name), .string (bs p0.Other), .int .i64 p0.Op, .int .i64 p0.N, .int .i64 p0.Frames, v1]) H 3 rfl sz54 rfl rfl rfl ⟨rfl, rfl, rfl, rfl, rfl, rfl, (xR (H.item (i := 0) rfl)), trivial⟩ rfl) ?_
 rintro w15 H
 refine (zF (zA (hK11 _ _ ?_)))
 refine zC fun K16 hK16 => ?_
 refine zB ?_
 refine zH (fa54_5 rfl) ?_
 refine zH (zM one3 rfl (Cells.get (Blk.cells (H.item (i := 1) rfl)) (i := 5) rfl)) ?_
 refine zN (.int .i64 p1) ?_
 have H17 := H
 obtain ⟨x18, e19, hF⟩ := zD hF
 refine zW rfl rfl (zT en117 rfl) (F_ref6_up_w p0.Frames p1 _ e19 _ _ _ (H.enter [] [] (by decide) rfl)) ?_
 rintro _ w20 ⟨rfl, G21⟩
 have H := H17.step (G21.only : Only [] _ _)
 refine ⟨_, rfl, ?_⟩
 refine zH (fa54_5 rfl) ?_
 refine yS rfl (xM H 3 rfl sz3 rfl (v := .int .i64 x18) rfl rfl rfl) ?_
 rintro w22 H
 refine (zF (zA (hK16 _ _ ?_)))
 obtain ⟨g33, hF, hK35⟩ := zD hF
 refine yO [13, 14, 15, 16, 17, 18, 19, 20] (fun (g : Unit) => []) (fun g wl => Hd O w wl S [.fz (.sl rCond v1 p0.Kids), .blk b5 [.int .i64 p0.Kind, .string (bs p0.Name), .string (bs p0.Other), .int .i64 p0.Op, .int .i64 p0.N, .int .i64 p0.Frames, v1] 54, .blk b8 [.int .i64 0, .string (bs []), .string (bs []), .int .i64 0, .int .i64 0, .int .i64 0, .slice none 0 0] 54, .blk b12 [.int .i64 p0.Kind, .string (bs p0.Name), .string (bs p0.Other), .int .i64 p0.Op, .int .i64 g33, .int .i64 x18, v1] 54]) ?_ ?_
 ·skip
  refine zC fun K36 hK36 => ?_
  refine zB ?_
  refine zH (fa54_0 rfl) ?_
  refine zH (zM one3 rfl (Cells.get (Blk.cells (H.item (i := 1) rfl)) (i := 0) rfl)) ?_
  obtain ⟨x37, e38, hF⟩ := zG hF
  refine zH (zV (xH (a := p0.Kind) (b := 13) rfl rfl) e38) ?_
  refine (zF (zA (hK36 _ _ ?_)))
  refine zZ (b := x37) rfl (fun c39 => ?_) (fun c39 => ?_)
  ·have hF := zQ c39 hF
   refine zB ?_
   refine zH (fa54_4 rfl) ?_
   refine zH (zM one3 rfl (Cells.get (Blk.cells (H.item (i := 1) rfl)) (i := 4) rfl)) ?_
   refine zN (.int .i64 p1) ?_
   have H40 := H
   obtain ⟨x41, e42, hF⟩ := zD hF
   refine zW rfl rfl (zT en117 rfl) (F_ref6_up_w p0.N p1 _ e42 _ _ _ (H.enter [] [] (by decide) rfl)) ?_
   rintro _ w43 ⟨rfl, G44⟩
   have H := H40.step (G44.only : Only [] _ _)
   refine ⟨_, rfl, ?_⟩
   refine zH (fa54_4 rfl) ?_
   refine yS rfl (xM H 3 rfl sz3 rfl (v := .int .i64 x41) rfl rfl rfl) ?_
   rintro w45 H
   obtain rfl := someI hF
   exact (zF (zA (meet ⟨(), zO, H.pick [0, 1, 2, 3] (by decide)⟩)))
  have hF := zS c39 hF
  obtain rfl := someI hF
  exact (yA (zA (meet ⟨(), zO, H.pick [0, 1, 2, 3] (by decide)⟩)))
 rintro _ ρ w34 H
 have hF := hK35
 refine zC fun K46 hK46 => ?_
 refine zB ?_
 refine zH (fa54_6 rfl) ?_
 refine yS rfl (xM H 3 rfl sz52 rfl (v := .slice none 0 0) rfl rfl rfl) ?_
 rintro w47 H
 refine (zF (zA (hK46 _ _ ?_)))
 obtain ⟨g243, hF, hK246⟩ := zD hF
 refine yO [6, 22, 23, 24, 25, 26, 27, 28, 29, 30, 31, 32, 33, 34, 35, 36, 37, 38, 39, 40] (fun (g : Value) => []) (fun g wl => Hd O w wl S [.blk b8 [.int .i64 0, .string (bs []), .string (bs []), .int .i64 0, .int .i64 0, .int .i64 0, .slice none 0 0] 54, .blk b12 [.int .i64 p0.Kind, .string (bs p0.Name), .string (bs p0.Other), .int .i64 p0.Op, .int .i64 g33, .int .i64 x18, g] 54, .own rCond g 54 g243]) ?_ ?_
 ·skip
  refine zC fun K247 hK247 => ?_
  refine zB ?_
  refine zI (.int .i64 0) ?_
  refine (zF (zA (hK247 _ _ ?_)))
  refine yF ?_
  have H := own_nil H rCond 54
  unfold F_ref6_slower_B_L1 at hF
  obtain ⟨B439, n440, eB441, hF⟩ := yV hF
  refine xJ [6, 22, 23, 24, 25, 26, 27, 28, 29, 30, 31, 32, 33, 34, 35, 36, 37, 38, 39, 40] (fun (g : Nat × Int × (List Cond) × Value) => [(6, .int .i64 g.2.1)]) (fun g wl => Hd O w wl S [.fz (.sl rCond v1 p0.Kids), .blk b5 [.int .i64 p0.Kind, .string (bs p0.Name), .string (bs p0.Other), .int .i64 p0.Op, .int .i64 p0.N, .int .i64 p0.Frames, v1] 54, .blk b8 [.int .i64 0, .string (bs []), .string (bs []), .int .i64 0, .int .i64 0, .int .i64 0, .slice none 0 0] 54, .blk b12 [.int .i64 p0.Kind, .string (bs p0.Name), .string (bs p0.Other), .int .i64 p0.Op, .int .i64 g33, .int .i64 x18, g.2.2.2] 54, .own rCond g.2.2.2 54 g.2.2.1] ∧ loopN B439 g.1 (g.2.1, g.2.2.1) = some g243) (fun g => g.1) (n440, 0, [], .slice none 0 0) (zL rfl zO) ⟨H.pick [0, 1, 2, 3, 4] (by decide), hF⟩ ?_
  clear H hF
  rintro ⟨n440, g434, g436, v437⟩ ρ w443 ⟨H, hF⟩
  obtain ⟨n444, rfl, hF⟩ := xB hF
  have hF := yZ eB441 hF
  refine zC fun K454 hK454 => ?_
  refine zC fun K455 hK455 => ?_
  refine zB ?_
  refine zN (.int .i64 g434) ?_
  refine zH (fa54_6 rfl) ?_
  refine zH (zM one52 rfl (Cells.get (Blk.cells (H.item (i := 1) rfl)) (i := 6) rfl)) ?_
  obtain ⟨x456, e457, hF⟩ := zG hF
  obtain ⟨a458, c459, q460⟩ := SlF.len ((H.item (i := 0) rfl))
  refine zH (yL (xW u52 q460) (congrArg (Value.int .i64) e457)) ?_
  obtain ⟨x461, e462, hF⟩ := zG hF
  refine zH (zV (xQ (a := g434) (b := x456) rfl rfl) e462) ?_
  refine (zF (zA (hK455 _ _ ?_)))
  refine zZ (b := x461) rfl (fun c463 => ?_) (fun c463 => ?_)
  ·have hF := zQ c463 hF
   refine (yA (zA (hK454 _ _ ?_)))
   refine zC fun K498 hK498 => ?_
   refine yF ?_
   have H499 := H
   have H := H.rebase
   have H500 := H
   refine WP_mix0 H [0, 1, 2, 3, 4, 5, 6, 7, 8, 9, 10, 11, 12] [.pure, .read, .pure, .read, .pure, .pure, .read, .pure, .new, .new, .eff, .pure, .eff] mixed (by kernel_rfl) (by kernel_rfl) (by kernel_rfl) rfl ?_
   refine Mx.zU rfl rfl rfl (fun w' hw' => fa54_6 rfl) ?_
   refine Mx.xC oS rfl rfl rfl (fun w' hw' => zM one52 rfl (Cells.get (Blk.cells ((H.sees hw').item (i := 3) rfl)) (i := 6) rfl)) ?_
   refine Mx.zU rfl rfl rfl (fun w' hw' => fa54_6 rfl) ?_
   refine Mx.xC oS rfl rfl rfl (fun w' hw' => zM one52 rfl (Cells.get (Blk.cells ((H.sees hw').item (i := 1) rfl)) (i := 6) rfl)) ?_
   refine Mx.zU rfl rfl rfl (fun w' hw' => xI (v := .int .i64 g434) rfl) ?_
   obtain ⟨x501, e502, hF⟩ := zD hF
   obtain ⟨b503, o504, c505, cs506, q507, h510, h508, h509, h511⟩ := wQ (H.item (i := 0) rfl) e502
   obtain ⟨v512, rfl, h513⟩ := wK h510
   have H := H.fzs [.at b503 (o504 + g434.toNat * 7) _, .sl rCond v512 x501.Kids] ⟨⟨h508, h509, h511⟩, h513, trivial⟩
   refine Mx.zU rfl rfl rfl (fun w' hw' => xY u52 sz54 q507 rfl (yN e502).1 (yN e502).2.1 rfl rfl) ?_
   refine Mx.xC oS rfl rfl rfl (fun w' hw' => yL (yH (cs := [.int .i64 x501.Kind, .string (bs x501.Name), .string (bs x501.Other), .int .i64 x501.Op, .int .i64 x501.N, .int .i64 x501.Frames, v512]) agg54 rfl sz54 rfl ((H.sees hw').item (i := 5) rfl).2.2) rfl) ?_
   refine Mx.zU rfl rfl rfl (fun w' hw' => xI (v := .int .i64 p1) rfl) ?_
   obtain ⟨x516, e517, hF⟩ := zD hF
   refine Mx.XL_newC oS rfl rfl rfl (fun w' hw' => zT en64 rfl) (fun w' hw' => rhM x501 p1 v512 _ e517 _ _ _ ((H.sees hw').enter [] [6] (by decide) rfl)) ?_
   rintro w' _ w520 hw' ⟨v518, rfl, G521⟩
   have H := (H.sees hw').back1 [6] rfl G521
   refine ⟨_, rfl, (G521.only : Only [] _ _).below, ?_⟩
   obtain ⟨x522, e523, hF⟩ := zG hF
   subst e523
   refine Mx.XL_exN oS rfl rfl rfl (fun w' hw' => Ls_of (Lx_bs (r := rCond) (xl := [x516]) (cs := [.int .i64 x516.Kind, .string (bs x516.Name), .string (bs x516.Other), .int .i64 x516.Op, .int .i64 x516.N, .int .i64 x516.Frames, v518]) u52 el54 (by decide) (by decide) rfl (xK (vs := [.agg [.int .i64 x516.Kind, .string (bs x516.Name), .string (bs x516.Other), .int .i64 x516.Op, .int .i64 x516.N, .int .i64 x516.Frames, v518].toArray]) (by decide) rfl rfl ⟨rfl, trivial⟩ rfl) (H.sees hw') ⟨[.int .i64 x516.Kind, .string (bs x516.Name), .string (bs x516.Other), .int .i64 x516.Op, .int .i64 x516.N, .int .i64 x516.Frames, v518], [], rfl, (rCond_mk (x := x516) ((H.sees hw').item (i := 7) rfl)), rfl⟩) (Ys_bs (cs := [.int .i64 x516.Kind, .string (bs x516.Name), .string (bs x516.Other), .int .i64 x516.Op, .int .i64 x516.N, .int .i64 x516.Frames, v518]) u52 el54 (by decide) (by decide) (xK (vs := [.agg [.int .i64 x516.Kind, .string (bs x516.Name), .string (bs x516.Other), .int .i64 x516.Op, .int .i64 x516.N, .int .i64 x516.Frames, v518].toArray]) (by decide) rfl rfl ⟨rfl, trivial⟩ rfl))) ?_
   rintro w' v525 w526 hw' H
   obtain ⟨x527, e528, hF⟩ := zD hF
   refine Mx.XL_ex oS rfl rfl rfl (fun w' hw' => Lx_app (H.sees hw') (i := 4) rfl u52 el54 rfl rfl (Sr.of_own ((H.sees hw').item (i := 8) rfl)) e528) ?_
   rintro w' v529 w530 hw' H
   refine ⟨H.only, ?_⟩
   refine Mx.zU rfl rfl rfl (fun w' hw' => fa54_6 rfl) ?_
   refine Mx.XL_exU oS rfl rfl (fun w' hw' => xM (H.sees hw') 3 rfl sz52 rfl (v := v529) rfl (xU ((H.sees hw').item (i := 4) rfl)) rfl) ?_
   rintro w' w531 hw' H
   refine ⟨H.only, ?_⟩
   refine Mx.XL_nil fun w532 hS => ?_
   have H := H.sees hS
   have H := H499.rejoin H
   refine (yU (zA (hK498 _ _ ?_)))
   refine zB ?_
   refine zN (.int .i64 g434) ?_
   obtain ⟨x533, e534, hF⟩ := zG hF
   refine zH (xX (a := g434) (b := 1) rfl rfl e534) ?_
   refine zI (.int .i64 x533) ?_
   exact (zF (zA (meet ⟨(n444, x533, x527, v529), (zL rfl zO), ⟨H.pick [0, 1, 2, 3, 4] (by decide), hF⟩, Nat.lt_succ_self _⟩)))
  have hF := zS c463 hF
  obtain rfl := someI hF
  exact (xP (yR (yR (xA (zA (meet ⟨v437, zO, H.pick [2, 3, 4] (by decide)⟩))))))
 rintro v244 ρ w245 H
 have hF := hK246
 refine zC fun K535 hK535 => ?_
 refine zB ?_
 refine zH (yL (yH (cs := [.int .i64 p0.Kind, .string (bs p0.Name), .string (bs p0.Other), .int .i64 p0.Op, .int .i64 g33, .int .i64 x18, v244]) agg54 rfl sz54 rfl (Blk.cells (H.item (i := 1) rfl))) rfl) ?_
 refine yS rfl (yI (vs := [.int .i64 p0.Kind, .string (bs p0.Name), .string (bs p0.Other), .int .i64 p0.Op, .int .i64 g33, .int .i64 x18, v244]) H 0 rfl sz54 rfl rfl rfl ⟨rfl, rfl, rfl, rfl, rfl, rfl, (xU (H.item (i := 2) rfl)), trivial⟩ rfl) ?_
 rintro w536 H
 refine (zF (zA (hK535 _ _ ?_)))
 have H := H.freeze (i := 2) rfl
 obtain rfl := someI hF
 refine (yB (postc  rfl rfl (yD agg54 sz54 rfl (Blk.cells (H.item (i := 0) rfl))) ?_))
 exact ⟨v244, rfl, H.pick [2] (by decide)⟩
theorem F_ref6_slower_s : S_ref6_slower (F_ref6_slower) := by
 have h : ∀ n, S_ref6_slower (F_ref6_slower_R n) := by
  intro n
  induction n with
  | zero => intro p0 p1 v1 r hF; cases hF
  | succ n ih => intro p0 p1 v1 r hF; exact F_ref6_slower_B_w (F_ref6_slower_R n) ih p0 p1 v1 r hF
 exact h FU
end Go.Proofs.YtnajnkghilemhaaGreatDoor.L
