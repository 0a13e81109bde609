/- Walks: what each function computes, for every argument; no condition but those that stand in the statements. -/
import Derived.Test.YtckmiljbaejijaaGreatDoorKV0
import Derived.Test.YtckmiljbaejijaaGreatDoorKV5
import Derived.Test.YtckmiljbaejijaaGreatDoorKV3
import Derived.Test.YtckmiljbaejijaaGreatDoorKV4
namespace Go.Proofs.YtckmiljbaejijaaGreatDoor.L
open Go.RowKit Go.OB Go.Lf
set_option maxHeartbeats 4000000 in
set_option maxRecDepth 100000 in
theorem F_event_depth_B_w (rfN : Cond → (List (Str × Int)) → Option Int) (rhN : S_event_depth rfN) (p0 : Cond) (p1 : List (Str × Int)) (v1 : Value) (b3 : Nat) (r : Int) (hF : F_event_depth_B rfN p0 p1 = some r) (O S : List Nat) (w : World) (H : Hd O w w S [.fz (.sl rCond v1 p0.Kids), .fz (.mp b3 (mcells Ky.str (fun v => Value.int .i64 v) p1))]) :
  Calls Tryz.prog 97 ([.agg [.int .i64 p0.Kind, .string (bs p0.Name), .string (bs p0.Other), .int .i64 p0.Op, .int .i64 p0.N, .int .i64 p0.Frames, v1].toArray, .map (some b3)] : List Value).toArray w fun e w' => e = .returned (.int .i64 r) ∧ Hd O w w' S [] := by
 unfold F_event_depth_B at hF
 refine zY 58 Tryz.func97 rfl rfl rfl ?_
 refine zC fun K5 hK5 => ?_
 refine zB ?_
 refine yZ rfl rfl (wF (cs := [.int .i64 p0.Kind, .string (bs p0.Name), .string (bs p0.Other), .int .i64 p0.Op, .int .i64 p0.N, .int .i64 p0.Frames, v1]) rfl H) ?_
 rintro _ w8 ⟨b6, rfl, H⟩
 refine zI (.int .i64 0) ?_
 refine (zD (zA (hK5 _ _ ?_)))
 refine zC fun K9 hK9 => ?_
 refine zB ?_
 refine zI (.int .i64 0) ?_
 refine (zD (zA (hK9 _ _ ?_)))
 obtain ⟨k200, ek201, hF⟩ := xQ hF
 refine yL [4, 5, 7, 8, 9, 10, 11, 12, 13, 14, 15, 16, 17, 18, 19, 20, 21, 22, 23, 24] (fun (g : Int) => [(5, .int .i64 g)]) (fun g wl => Hd O w wl S [.fz (.sl rCond v1 p0.Kids), .fz (.mp b3 (mcells Ky.str (fun v => Value.int .i64 v) p1)), .blk b6 [.int .i64 p0.Kind, .string (bs p0.Name), .string (bs p0.Other), .int .i64 p0.Op, .int .i64 p0.N, .int .i64 p0.Frames, v1] 70] ∧ k200 g = some r) ?_ ?_
 ·skip
  refine zC fun K202 hK202 => ?_
  refine zB ?_
  refine zH (fa70_6 rfl) ?_
  refine zH (zO one68 rfl (Cells.get (Blk.cells (H.item (i := 2) rfl)) (i := 6) rfl)) ?_
  obtain ⟨x203, e204, hF⟩ := zF hF
  obtain ⟨a205, c206, q207⟩ := SlF.len ((H.item (i := 0) rfl))
  refine zH (yN (xM u68 q207) (congrArg (Value.int .i64) e204)) ?_
  refine zK (.int .i64 0) ?_
  refine (zD (zA (hK202 _ _ ?_)))
  refine yG ?_
  unfold F_event_depth_B_L1 at hF
  obtain ⟨B386, n387, eB388, hF⟩ := yS hF
  refine xE [4, 5, 7, 8, 12, 13, 14, 15, 16, 17, 18, 19, 20, 21, 22, 23, 24] (fun (g : Nat × Int × Int) => [(5, .int .i64 g.2.1), (12, .int .i64 g.2.2)]) (fun g wl => Hd O w wl S [.fz (.sl rCond v1 p0.Kids), .fz (.mp b3 (mcells Ky.str (fun v => Value.int .i64 v) p1)), .blk b6 [.int .i64 p0.Kind, .string (bs p0.Name), .string (bs p0.Other), .int .i64 p0.Op, .int .i64 p0.N, .int .i64 p0.Frames, v1] 70] ∧ loopN B386 g.1 (g.2.1, g.2.2) = some r) (fun g => g.1) (n387, 0, 0) (zJ rfl (zJ rfl zL)) ⟨H.pick [0, 1, 2] (by decide), hF⟩ ?_
  clear H hF
  rintro ⟨n387, g384, g385⟩ ρ w390 ⟨H, hF⟩
  obtain ⟨n391, rfl, hF⟩ := yX hF
  have hF := yY eB388 hF
  refine zC fun K392 hK392 => ?_
  refine zB ?_
  obtain ⟨x393, e394, hF⟩ := zF hF
  refine zH (zM (xI (a := g385) (b := x203) rfl rfl) e394) ?_
  refine (zD (zA (hK392 _ _ ?_)))
  refine zC fun K396 hK396 => ?_
  refine yA (b := x393) rfl (fun c397 => ?_) (fun c397 => ?_)
  ·have hF := zQ c397 hF
   refine (zX (zA (hK396 _ _ ?_)))
   refine zC fun K437 hK437 => ?_
   refine yG ?_
   refine zC fun K438 hK438 => ?_
   refine zB ?_
   obtain ⟨x439, e440, hF⟩ := zG hF
   obtain ⟨b441, o442, c443, cs444, q445, h448, h446, h447, h449⟩ := rd_at (H.item (i := 0) rfl) e440
   obtain ⟨v450, rfl, h451⟩ := wI h448
   have H := H.fzs [.at b441 (o442 + g385.toNat * 7) _, .sl rCond v450 x439.Kids] ⟨⟨h446, h447, h449⟩, h451, trivial⟩
   refine zH (wC u68 sz70 q445 rfl (yP e440).1 (yP e440).2.1 rfl rfl) ?_
   refine zH (yN (yJ (cs := [.int .i64 x439.Kind, .string (bs x439.Name), .string (bs x439.Other), .int .i64 x439.Op, .int .i64 x439.N, .int .i64 x439.Frames, v450]) agg70 rfl sz70 rfl (H.item (i := 3) rfl).2.2) rfl) ?_
   refine yZ rfl rfl (xN zero70 H) ?_
   rintro _ w456 ⟨b454, rfl, H⟩
   refine xH rfl (xC (vs := [.int .i64 x439.Kind, .string (bs x439.Name), .string (bs x439.Other), .int .i64 x439.Op, .int .i64 x439.N, .int .i64 x439.Frames, v450]) H 5 rfl sz70 rfl rfl rfl ⟨rfl, rfl, rfl, rfl, rfl, rfl, (slf_one (H.item (i := 4) rfl)), trivial⟩ rfl) ?_
   rintro w457 H
   refine (zD (zA (hK438 _ _ ?_)))
   refine zC fun K458 hK458 => ?_
   refine zB ?_
   refine zH (yN (yJ (cs := [.int .i64 x439.Kind, .string (bs x439.Name), .string (bs x439.Other), .int .i64 x439.Op, .int .i64 x439.N, .int .i64 x439.Frames, v450]) agg70 rfl sz70 rfl (Blk.cells (H.item (i := 5) rfl))) rfl) ?_
   refine zK (.map (some b3)) ?_
   have H459 := H
   obtain ⟨x460, e461, hF⟩ := zG hF
   refine zZ rfl rfl (zT en97 rfl) (rhN x439 p1 v450 b3 _ e461 _ _ _ (H.enter [] [4, 1] (by decide) rfl)) ?_
   rintro _ w462 ⟨rfl, G463⟩
   have H := H459.step (G463.only : Only [] _ _)
   refine ⟨_, rfl, ?_⟩
   refine zI (.int .i64 x460) ?_
   refine (zD (zA (hK458 _ _ ?_)))
   refine zC fun K469 hK469 => ?_
   refine zC fun K470 hK470 => ?_
   refine zB ?_
   refine zK (.int .i64 x460) ?_
   obtain ⟨x471, e472, hF⟩ := zF hF
   refine zH (zM (xI (a := x460) (b := 0) rfl rfl) e472) ?_
   refine (zD (zA (hK470 _ _ ?_)))
   refine yA (b := x471) rfl (fun c473 => ?_) (fun c473 => ?_)
   ·have hF := zQ c473 hF
    refine zC fun K474 hK474 => ?_
    refine zB ?_
    refine zI (.int .i64 (-1)) ?_
    refine (zD (zA (hK474 _ _ ?_)))
    obtain rfl := someI hF
    refine (yB (zW (yE (zW (zW (yE (zW (post1 (v1 := .int .i64 (-1)) rfl rfl ?_))))))))
    exact ⟨rfl, H.pick [] (by decide)⟩
   have hF := zS c473 hF
   refine (zX (zA (hK469 _ _ ?_)))
   refine zB ?_
   refine zK (.int .i64 g384) ?_
   refine zK (.int .i64 x460) ?_
   obtain ⟨x475, e476, hF⟩ := zF hF
   refine zH (Do_max (j := g384) (q := x460) rfl rfl e476) ?_
   refine zI (.int .i64 x475) ?_
   refine (zD (yT (zA (hK437 _ _ ?_))))
   refine zB ?_
   obtain ⟨x477, e478, hF⟩ := zF hF
   refine zH (xP (a := g385) (b := 1) rfl rfl e478) ?_
   refine zK (.int .i64 x477) ?_
   exact (zD (zA (meet ⟨(n391, x475, x477), (zJ rfl (zJ rfl zL)), ⟨H.pick [0, 1, 2] (by decide), hF⟩, Nat.lt_succ_self _⟩)))
  have hF := zS c397 hF
  exact (xJ (yO (yO (xB (zA (meet ⟨g384, (zJ rfl zL), ⟨H.pick [0, 1, 2] (by decide), hF⟩⟩))))))
 rintro g198 ρ w199 ⟨H, hF⟩
 have hF := wB ek201 hF
 refine zC fun K544 hK544 => ?_
 refine zC fun K545 hK545 => ?_
 refine zB ?_
 refine zH (fa70_0 rfl) ?_
 refine zH (zO one3 rfl (Cells.get (Blk.cells (H.item (i := 2) rfl)) (i := 0) rfl)) ?_
 refine (zD (zA (hK545 _ _ ?_)))
 refine yG ?_
 refine zC fun K546 hK546 => ?_
 refine zB ?_
 obtain ⟨x547, e548, hF⟩ := zF hF
 refine zH (zM (yR (a := p0.Kind) (b := 5) rfl rfl) e548) ?_
 refine zI (.bool x547) ?_
 refine (zD (zA (hK546 _ _ ?_)))
 refine yA (b := x547) rfl (fun c549 => ?_) (fun c549 => ?_)
 ·have hF := zQ c549 hF
  refine zC fun K550 hK550 => ?_
  refine zB ?_
  refine zH (fa70_5 rfl) ?_
  refine zH (zO one3 rfl (Cells.get (Blk.cells (H.item (i := 2) rfl)) (i := 5) rfl)) ?_
  refine zI (.int .i64 p0.Frames) ?_
  refine (zD (zA (hK550 _ _ ?_)))
  obtain rfl := someI hF
  refine (yB (yE (zW (post1 (v1 := .int .i64 p0.Frames) rfl rfl ?_))))
  exact ⟨rfl, H.pick [] (by decide)⟩
 have hF := zS c549 hF
 obtain ⟨g557, hF, hK559⟩ := zG hF
 refine yL [31, 32, 33] (fun (g : Unit) => [(31, .bool g557)]) (fun g wl => Hd O w wl S [.fz (.sl rCond v1 p0.Kids), .fz (.mp b3 (mcells Ky.str (fun v => Value.int .i64 v) p1)), .blk b6 [.int .i64 p0.Kind, .string (bs p0.Name), .string (bs p0.Other), .int .i64 p0.Op, .int .i64 p0.N, .int .i64 p0.Frames, v1] 70]) ?_ ?_
 ·skip
  refine zC fun K560 hK560 => ?_
  refine zB ?_
  obtain ⟨x561, e562, hF⟩ := zF hF
  refine zH (zM (yR (a := p0.Kind) (b := 6) rfl rfl) e562) ?_
  refine zI (.bool x561) ?_
  refine (zD (zA (hK560 _ _ ?_)))
  refine yA (b := x561) rfl (fun c563 => ?_) (fun c563 => ?_)
  ·have hF := zQ c563 hF
   obtain rfl := someI hF
   exact (zX (zA (meet ⟨(), (zJ rfl zL), H.pick [0, 1, 2] (by decide)⟩)))
  have hF := zS c563 hF
  refine zB ?_
  obtain ⟨x564, e565, hF⟩ := zF hF
  refine zH (zM (yR (a := p0.Kind) (b := 14) rfl rfl) e565) ?_
  refine zI (.bool x564) ?_
  obtain rfl := someI hF
  exact (zD (zA (meet ⟨(), (zJ rfl zL), H.pick [0, 1, 2] (by decide)⟩)))
 rintro _ ρ w558 H
 have hF := hK559
 refine yA (b := g557) rfl (fun c566 => ?_) (fun c566 => ?_)
 ·have hF := zQ c566 hF
  refine zC fun K567 hK567 => ?_
  refine zB ?_
  refine zI (.int .i64 (-1)) ?_
  refine (zD (zA (hK567 _ _ ?_)))
  obtain rfl := someI hF
  refine (yB (yE (zW (post1 (v1 := .int .i64 (-1)) rfl rfl ?_))))
  exact ⟨rfl, H.pick [] (by decide)⟩
 have hF := zS c566 hF
 refine zC fun K568 hK568 => ?_
 refine zB ?_
 obtain ⟨x569, e570, hF⟩ := zF hF
 refine zH (zM (yR (a := p0.Kind) (b := 7) rfl rfl) e570) ?_
 refine zI (.bool x569) ?_
 refine (zD (zA (hK568 _ _ ?_)))
 refine yA (b := x569) rfl (fun c571 => ?_) (fun c571 => ?_)
 ·have hF := zQ c571 hF
  refine zC fun K572 hK572 => ?_
  refine zB ?_
  refine zK (.map (some b3)) ?_
  refine zH (fa70_1 rfl) ?_
  refine zH (zO one9 rfl (Cells.get (Blk.cells (H.item (i := 2) rfl)) (i := 1) rfl)) ?_
  obtain ⟨x573, e574, hF⟩ := zF hF
  refine zH (yN (Do_lookupZ (K := Ky.str) (G := (fun v => Value.int .i64 v)) (m := p1) (k := p0.Name) (zv := 0) (H.item (i := 1) rfl) u163 u9 rfl rfl (Tryz.zeroValue3 w558)) (congrArg (fun v => Value.int .i64 v) e574)) ?_
  refine zI (.int .i64 x573) ?_
  refine (zD (zA (hK572 _ _ ?_)))
  obtain rfl := someI hF
  refine (yB (yE (zW (post1 (v1 := .int .i64 x573) rfl rfl ?_))))
  exact ⟨rfl, H.pick [] (by decide)⟩
 have hF := zS c571 hF
 obtain ⟨g585, hF, hK587⟩ := zG hF
 refine yL [40, 41, 42, 43] (fun (g : Unit) => [(40, .bool g585)]) (fun g wl => Hd O w wl S [.fz (.sl rCond v1 p0.Kids), .blk b6 [.int .i64 p0.Kind, .string (bs p0.Name), .string (bs p0.Other), .int .i64 p0.Op, .int .i64 p0.N, .int .i64 p0.Frames, v1] 70]) ?_ ?_
 ·skip
  refine zC fun K588 hK588 => ?_
  refine zB ?_
  obtain ⟨x589, e590, hF⟩ := zF hF
  refine zH (zM (yR (a := p0.Kind) (b := 8) rfl rfl) e590) ?_
  refine zI (.bool x589) ?_
  refine (zD (zA (hK588 _ _ ?_)))
  refine yA (b := x589) rfl (fun c591 => ?_) (fun c591 => ?_)
  ·have hF := zQ c591 hF
   obtain rfl := someI hF
   exact (zX (zA (meet ⟨(), (zJ rfl zL), H.pick [0, 2] (by decide)⟩)))
  have hF := zS c591 hF
  refine zC fun K592 hK592 => ?_
  refine zB ?_
  obtain ⟨x593, e594, hF⟩ := zF hF
  refine zH (zM (yR (a := p0.Kind) (b := 9) rfl rfl) e594) ?_
  refine zI (.bool x593) ?_
  refine (zD (zA (hK592 _ _ ?_)))
  refine yA (b := x593) rfl (fun c595 => ?_) (fun c595 => ?_)
  ·have hF := zQ c595 hF
   obtain rfl := someI hF
   exact (zX (zA (meet ⟨(), (zJ rfl zL), H.pick [0, 2] (by decide)⟩)))
  have hF := zS c595 hF
  refine zB ?_
  obtain ⟨x596, e597, hF⟩ := zF hF
  refine zH (zM (yR (a := p0.Kind) (b := 10) rfl rfl) e597) ?_
  refine zI (.bool x596) ?_
  obtain rfl := someI hF
  exact (zD (zA (meet ⟨(), (zJ rfl zL), H.pick [0, 2] (by decide)⟩)))
 rintro _ ρ w586 H
 have hF := hK587
 refine yA (b := g585) rfl (fun c598 => ?_) (fun c598 => ?_)
 ·have hF := zQ c598 hF
  refine zC fun K599 hK599 => ?_
  refine zB ?_
  refine zK (.int .i64 g198) ?_
  refine zI (.int .i64 g198) ?_
  refine (zD (zA (hK599 _ _ ?_)))
  obtain rfl := someI hF
  refine (yB (yE (zW (post1 (v1 := .int .i64 g198) rfl rfl ?_))))
  exact ⟨rfl, H.pick [] (by decide)⟩
 have hF := zS c598 hF
 obtain ⟨g610, hF, hK612⟩ := zG hF
 refine yL [45, 46, 47, 48] (fun (g : Unit) => [(45, .bool g610)]) (fun g wl => Hd O w wl S [.fz (.sl rCond v1 p0.Kids), .blk b6 [.int .i64 p0.Kind, .string (bs p0.Name), .string (bs p0.Other), .int .i64 p0.Op, .int .i64 p0.N, .int .i64 p0.Frames, v1] 70]) ?_ ?_
 ·skip
  refine zC fun K613 hK613 => ?_
  refine zB ?_
  obtain ⟨x614, e615, hF⟩ := zF hF
  refine zH (zM (yR (a := p0.Kind) (b := 11) rfl rfl) e615) ?_
  refine zI (.bool x614) ?_
  refine (zD (zA (hK613 _ _ ?_)))
  refine yA (b := x614) rfl (fun c616 => ?_) (fun c616 => ?_)
  ·have hF := zQ c616 hF
   obtain rfl := someI hF
   exact (zX (zA (meet ⟨(), (zJ rfl zL), H.pick [0, 1] (by decide)⟩)))
  have hF := zS c616 hF
  refine zC fun K617 hK617 => ?_
  refine zB ?_
  obtain ⟨x618, e619, hF⟩ := zF hF
  refine zH (zM (yR (a := p0.Kind) (b := 12) rfl rfl) e619) ?_
  refine zI (.bool x618) ?_
  refine (zD (zA (hK617 _ _ ?_)))
  refine yA (b := x618) rfl (fun c620 => ?_) (fun c620 => ?_)
  ·have hF := zQ c620 hF
   obtain rfl := someI hF
   exact (zX (zA (meet ⟨(), (zJ rfl zL), H.pick [0, 1] (by decide)⟩)))
  have hF := zS c620 hF
  refine zB ?_
  obtain ⟨x621, e622, hF⟩ := zF hF
  refine zH (zM (yR (a := p0.Kind) (b := 13) rfl rfl) e622) ?_
  refine zI (.bool x621) ?_
  obtain rfl := someI hF
  exact (zD (zA (meet ⟨(), (zJ rfl zL), H.pick [0, 1] (by decide)⟩)))
 rintro _ ρ w611 H
 have hF := hK612
 refine yA (b := g610) rfl (fun c623 => ?_) (fun c623 => ?_)
 ·have hF := zQ c623 hF
  refine zC fun K624 hK624 => ?_
  refine zB ?_
  refine zK (.int .i64 g198) ?_
  refine zH (fa70_5 rfl) ?_
  refine zH (zO one3 rfl (Cells.get (Blk.cells (H.item (i := 1) rfl)) (i := 5) rfl)) ?_
  obtain ⟨x625, e626, hF⟩ := zF hF
  refine zH (xP (a := g198) (b := p0.Frames) rfl rfl e626) ?_
  obtain ⟨x627, e628, hF⟩ := zF hF
  refine zH (Do_sub (a := x625) (b := 1) rfl rfl e628) ?_
  refine zI (.int .i64 x627) ?_
  refine (zD (zA (hK624 _ _ ?_)))
  obtain rfl := someI hF
  refine (yB (yE (zW (post1 (v1 := .int .i64 x627) rfl rfl ?_))))
  exact ⟨rfl, H.pick [] (by decide)⟩
 have hF := zS c623 hF
 refine zC fun K629 hK629 => ?_
 refine zB ?_
 obtain ⟨x630, e631, hF⟩ := zF hF
 refine zH (zM (yR (a := p0.Kind) (b := 15) rfl rfl) e631) ?_
 refine zI (.bool x630) ?_
 refine (zD (zA (hK629 _ _ ?_)))
 refine yA (b := x630) rfl (fun c632 => ?_) (fun c632 => ?_)
 ·have hF := zQ c632 hF
  refine zC fun K633 hK633 => ?_
  refine zB ?_
  refine zK (.int .i64 g198) ?_
  obtain ⟨x634, e635, hF⟩ := zF hF
  refine zH (xP (a := g198) (b := 1) rfl rfl e635) ?_
  refine zI (.int .i64 x634) ?_
  refine (zD (zA (hK633 _ _ ?_)))
  obtain rfl := someI hF
  refine (yB (yE (zW (post1 (v1 := .int .i64 x634) rfl rfl ?_))))
  exact ⟨rfl, H.pick [] (by decide)⟩
 have hF := zS c632 hF
 refine (zX (yT (zA (hK544 _ _ ?_))))
 refine zC fun K636 hK636 => ?_
 refine zB ?_
 refine zI (.int .i64 1) ?_
 refine (zD (zA (hK636 _ _ ?_)))
 obtain rfl := someI hF
 refine (yB (post1 (v1 := .int .i64 1) rfl rfl ?_))
 exact ⟨rfl, H.pick [] (by decide)⟩
theorem F_event_depth_s : S_event_depth (F_event_depth) := by
 have h : ∀ n, S_event_depth (F_event_depth_R n) := by
  intro n
  induction n with
  | zero => intro p0 p1 v1 b3 r hF; cases hF
  | succ n ih => intro p0 p1 v1 b3 r hF; exact F_event_depth_B_w (F_event_depth_R n) ih p0 p1 v1 b3 r hF
 exact h FU
set_option maxHeartbeats 4000000 in
theorem F_event_Depths_w (p0 : Rules) (v1 : Value) (v2 : Value) (v3 : Value) (r : (List Int) × Int) (hF : F_event_Depths p0 = some r) (O S : List Nat) (w : World) (H : Hd O w w S [.fz (.sl Rp.str v1 p0.Phases), .fz (.sl rMoveT v2 p0.Moves), .fz (.sl rRule v3 p0.Rules)]) :
  Calls Tryz.prog 36 ([.agg [v1, v2, v3].toArray] : List Value).toArray w fun e w' => ∃ u7, e = .returned (.tuple #[u7, .int .i64 r.2]) ∧ Hd O w w' S [.own (Rp.int .i64) u7 3 r.1] := by
 unfold F_event_Depths at hF
 refine zY 38 Tryz.func36 rfl rfl rfl ?_
 refine zC fun K8 hK8 => ?_
 refine zB ?_
 refine yZ rfl rfl (wF (cs := [v1, v2, v3]) rfl H) ?_
 rintro _ w11 ⟨b9, rfl, H⟩
 refine zI (.slice none 0 0) ?_
 refine zI (.int .i64 0) ?_
 refine (zD (zA (hK8 _ _ ?_)))
 refine zC fun K23 hK23 => ?_
 refine zC fun K24 hK24 => ?_
 refine zB ?_
 refine zH (yN (yJ (cs := [v1, v2, v3]) agg26 rfl sz26 rfl (Blk.cells (H.item (i := 3) rfl))) rfl) ?_
 have H25 := H
 obtain ⟨x26, e27, hF⟩ := zG hF
 refine zZ rfl rfl (zT en31 rfl) (F_event_Check_w p0 v1 v2 v3 _ e27 _ _ _ (H.enter [] [0, 1, 2] (by decide) rfl)) ?_
 rintro _ w28 ⟨rfl, G29⟩
 have H := H25.step (G29.only : Only [] _ _)
 refine ⟨_, rfl, ?_⟩
 refine zI (.int .i64 x26) ?_
 refine (zD (zA (hK24 _ _ ?_)))
 refine zC fun K30 hK30 => ?_
 refine zB ?_
 refine zK (.int .i64 x26) ?_
 obtain ⟨x31, e32, hF⟩ := zF hF
 refine zH (zM (Do_neq (a := x26) (b := 0) rfl rfl) e32) ?_
 refine (zD (zA (hK30 _ _ ?_)))
 refine yA (b := x31) rfl (fun c33 => ?_) (fun c33 => ?_)
 ·have hF := zQ c33 hF
  refine zC fun K34 hK34 => ?_
  refine zB ?_
  refine zK (.int .i64 x26) ?_
  refine zI (.slice none 0 0) ?_
  refine zI (.int .i64 x26) ?_
  refine (zD (zA (hK34 _ _ ?_)))
  have H := own_nil H (Rp.int .i64) 3
  obtain rfl := someI hF
  refine (yB (zW (post2 (v1 := .slice none 0 0) (v2 := .int .i64 x26) rfl rfl rfl ?_)))
  exact ⟨.slice none 0 0, rfl, H.pick [4] (by decide)⟩
 have hF := zS c33 hF
 refine (zX (zA (hK23 _ _ ?_)))
 refine zC fun K36 hK36 => ?_
 refine zB ?_
 refine zI (.slice none 0 0) ?_
 refine (zD (zA (hK36 _ _ ?_)))
 refine zC fun K37 hK37 => ?_
 refine zB ?_
 refine yZ rfl rfl (Lx_mkmap H) ?_
 rintro _ w40 ⟨b38, rfl, H⟩
 refine zI (.map (some b38)) ?_
 refine (zD (zA (hK37 _ _ ?_)))
 obtain ⟨g244, hF, hK247⟩ := zG hF
 refine yL [5, 8, 15, 16, 17, 18, 19, 20, 21, 22, 23, 24, 25, 26, 27, 28, 29, 30, 31, 32, 33, 34, 35, 36] (fun (g : Value) => [(5, g)]) (fun g wl => Hd O w wl S [.own (Rp.int .i64) g 3 g244]) ?_ ?_
 ·skip
  refine zC fun K248 hK248 => ?_
  refine zB ?_
  refine zH (fa26_2 rfl) ?_
  refine zH (zO one24 rfl (Cells.get (Blk.cells (H.item (i := 3) rfl)) (i := 2) rfl)) ?_
  obtain ⟨x249, e250, hF⟩ := zF hF
  obtain ⟨a251, c252, q253⟩ := SlF.len ((H.item (i := 2) rfl))
  refine zH (yN (xM u24 q253) (congrArg (Value.int .i64) e250)) ?_
  refine zK (.int .i64 0) ?_
  refine (zD (zA (hK248 _ _ ?_)))
  refine yG ?_
  have H := own_nil H (Rp.int .i64) 3
  unfold F_event_Depths_L1 at hF
  obtain ⟨B449, n450, eB451, hF⟩ := yS hF
  refine xE [5, 8, 18, 19, 20, 21, 22, 23, 24, 25, 26, 27, 28, 29, 30, 31, 32, 33, 34, 35, 36] (fun (g : Nat × (List Int) × Int × (List (Str × Int)) × Value) => [(5, g.2.2.2.2), (18, .int .i64 g.2.2.1)]) (fun g wl => Hd O w wl S [.own (Rp.int .i64) g.2.2.2.2 3 g.2.1, .fz (.sl rRule v3 p0.Rules), .mp b38 (mcells Ky.str (fun v => Value.int .i64 v) g.2.2.2.1)] ∧ loopN B449 g.1 (g.2.1, g.2.2.1, g.2.2.2.1) = some g244) (fun g => g.1) (n450, [], 0, ([] : List (Str × Int)), .slice none 0 0) (zJ rfl (zJ rfl zL)) ⟨H.pick [5, 2, 4] (by decide), hF⟩ ?_
  clear H hF
  rintro ⟨n450, g444, g446, g447, v445⟩ ρ w453 ⟨H, hF⟩
  obtain ⟨n454, rfl, hF⟩ := yX hF
  have hF := yY eB451 hF
  refine zC fun K455 hK455 => ?_
  refine zB ?_
  obtain ⟨x456, e457, hF⟩ := zF hF
  refine zH (zM (xI (a := g446) (b := x249) rfl rfl) e457) ?_
  refine (zD (zA (hK455 _ _ ?_)))
  refine zC fun K459 hK459 => ?_
  refine yA (b := x456) rfl (fun c460 => ?_) (fun c460 => ?_)
  ·have hF := zQ c460 hF
   refine (zX (zA (hK459 _ _ ?_)))
   refine zC fun K502 hK502 => ?_
   refine yG ?_
   refine zC fun K503 hK503 => ?_
   refine zB ?_
   obtain ⟨x504, e505, hF⟩ := zG hF
   obtain ⟨b506, o507, c508, cs509, q510, h513, h511, h512, h514⟩ := rd_at (H.item (i := 1) rfl) e505
   obtain ⟨v515, rfl, h516⟩ := rRule_open h513
   have H := H.fzs [.at b506 (o507 + g446.toNat * 8) _, .sl rCond v515 x504.When.Kids] ⟨⟨h511, h512, h514⟩, h516, trivial⟩
   refine zH (wC u24 sz95 q510 rfl (yP e505).1 (yP e505).2.1 rfl rfl) ?_
   refine zH (yN (yJ (cs := [.string (bs x504.Name), .int .i64 x504.When.Kind, .string (bs x504.When.Name), .string (bs x504.When.Other), .int .i64 x504.When.Op, .int .i64 x504.When.N, .int .i64 x504.When.Frames, v515]) agg95 rfl sz95 rfl (H.item (i := 3) rfl).2.2) rfl) ?_
   refine yZ rfl rfl (xN zero95 H) ?_
   rintro _ w521 ⟨b519, rfl, H⟩
   refine xH rfl (xC (vs := [.string (bs x504.Name), .int .i64 x504.When.Kind, .string (bs x504.When.Name), .string (bs x504.When.Other), .int .i64 x504.When.Op, .int .i64 x504.When.N, .int .i64 x504.When.Frames, v515]) H 5 rfl sz95 rfl rfl rfl ⟨rfl, rfl, rfl, rfl, rfl, rfl, rfl, (slf_one (H.item (i := 4) rfl)), trivial⟩ rfl) ?_
   rintro w522 H
   refine (zD (zA (hK503 _ _ ?_)))
   refine zC fun K523 hK523 => ?_
   have H524 := H
   have H := H.rebase
   have H525 := H
   refine WP_mix0 H [0, 1, 2, 3, 4, 5, 6, 7] [.pure, .pure, .read, .pure, .read, .pure, .read, .eff] mixed (by kernel_rfl) (by kernel_rfl) (by kernel_rfl) rfl ?_
   refine Mx.yD rfl rfl rfl (fun w' hw' => xK (v := .map (some b38)) rfl) ?_
   refine Mx.yD rfl rfl rfl (fun w' hw' => fa95_0 rfl) ?_
   refine Mx.xO oS rfl rfl rfl (fun w' hw' => zO one9 rfl (Cells.get (Blk.cells ((H.sees hw').item (i := 5) rfl)) (i := 0) rfl)) ?_
   refine Mx.yD rfl rfl rfl (fun w' hw' => fa95_1 rfl) ?_
   refine Mx.xO oS rfl rfl rfl (fun w' hw' => yN (yJ (cs := [.int .i64 x504.When.Kind, .string (bs x504.When.Name), .string (bs x504.When.Other), .int .i64 x504.When.Op, .int .i64 x504.When.N, .int .i64 x504.When.Frames, v515]) agg70 rfl sz70 rfl (Cells.drop (Blk.cells ((H.sees hw').item (i := 5) rfl)) 1 7)) rfl) ?_
   refine Mx.yD rfl rfl rfl (fun w' hw' => xK (v := .map (some b38)) rfl) ?_
   have H526 := H
   have H := H.freezeM (i := 2) rfl
   obtain ⟨x527, e528, hF⟩ := zG hF
   refine Mx.XL_call oS rfl rfl rfl (v := .int .i64 x527) (fun w' hw' => zT en97 rfl) (fun w' hw' => call_read (F_event_depth_s x504.When g447 v515 b38 _ e528 _ _ _ ((H.sees hw').enter [] [4, 2] (by decide) rfl))) ?_
   have H := H526
   obtain ⟨x529, e530, hF⟩ := zF hF
   refine Mx.XL_exU oS rfl rfl (fun w' hw' => Lx_mapset (K := Ky.str) (G := (fun v => Value.int .i64 v)) (m := g447) (k := x504.Name) (v := x527) (H.sees hw') 2 rfl u163 u9 rfl rfl rfl e530) ?_
   rintro w' w531 hw' H
   refine ⟨H.only, ?_⟩
   refine Mx.XL_nil fun w532 hS => ?_
   have H := H.sees hS
   have H := H524.rejoin H
   refine (zA (hK523 _ _ ?_))
   refine zB ?_
   refine zK v445 ?_
   refine zK (.map (some b38)) ?_
   refine zH (fa95_0 rfl) ?_
   refine zH (zO one9 rfl (Cells.get (Blk.cells (H.item (i := 5) rfl)) (i := 0) rfl)) ?_
   obtain ⟨x533, e534, hF⟩ := zF hF
   refine zH (yN (Do_lookup (K := Ky.str) (G := (fun v => Value.int .i64 v)) (m := x529) (k := x504.Name) (zv := 0) (H.item (i := 2) rfl) u163 u9 rfl rfl (Tryz.zeroValue3 w532)) (congrArg (fun v => Value.int .i64 v) e534)) ?_
   obtain ⟨x535, e536, hF⟩ := zF hF
   subst e536
   refine yZ rfl rfl (Lx_bs (r := (Rp.int .i64)) (xl := [x533]) (cs := [.int .i64 x533]) u38 el3 (by decide) (by decide) rfl (xU (vs := [.int .i64 x533]) (by decide) rfl rfl ⟨rfl, trivial⟩ rfl) H ⟨[.int .i64 x533], [], rfl, rfl, rfl⟩) ?_
   rintro v538 w539 H
   obtain ⟨x540, e541, hF⟩ := zG hF
   refine yZ rfl rfl (Lx_app H (i := 0) rfl u38 el3 rfl rfl (Sr.of_own (H.item (i := 6) rfl)) e541) ?_
   rintro v542 w543 H
   refine zI v542 ?_
   refine (zD (yT (zA (hK502 _ _ ?_))))
   refine zB ?_
   obtain ⟨x544, e545, hF⟩ := zF hF
   refine zH (xP (a := g446) (b := 1) rfl rfl e545) ?_
   refine zK (.int .i64 x544) ?_
   exact (zD (zA (meet ⟨(n454, x540, x544, x529, v542), (zJ rfl (zJ rfl zL)), ⟨H.pick [0, 1, 2] (by decide), hF⟩, Nat.lt_succ_self _⟩)))
  have hF := zS c460 hF
  obtain rfl := someI hF
  exact (xJ (yO (yO (xB (zA (meet ⟨v445, (zJ rfl zL), H.pick [0] (by decide)⟩))))))
 rintro v245 ρ w246 H
 have hF := hK247
 refine zC fun K546 hK546 => ?_
 refine zB ?_
 refine zK v245 ?_
 refine zI v245 ?_
 refine zI (.int .i64 0) ?_
 refine (zD (zA (hK546 _ _ ?_)))
 obtain rfl := someI hF
 refine (yB (post2 (v1 := v245) (v2 := .int .i64 0) rfl rfl rfl ?_))
 exact ⟨v245, rfl, H.pick [0] (by decide)⟩
abbrev S_ref6_depth (f : Rules → Cond → (List Int) → Option Int) : Prop := ∀ (p0 : Rules) (p1 : Cond) (p2 : List Int) (v1 : Value) (v2 : Value) (v3 : Value) (v7 : Value) (v9 : Value) (r : Int) (_ : f p0 p1 p2 = some r) (O S : List Nat) (w : World) (_ : Hd O w w S [.fz (.sl Rp.str v1 p0.Phases), .fz (.sl rMoveT v2 p0.Moves), .fz (.sl rRule v3 p0.Rules), .fz (.sl rCond v7 p1.Kids), .fz (.sl (Rp.int .i64) v9 p2)]),
  Calls Tryz.prog 98 ([.agg [v1, v2, v3].toArray, .agg [.int .i64 p1.Kind, .string (bs p1.Name), .string (bs p1.Other), .int .i64 p1.Op, .int .i64 p1.N, .int .i64 p1.Frames, v7].toArray, v9] : List Value).toArray w fun e w' => e = .returned (.int .i64 r) ∧ Hd O w w' S []
set_option maxHeartbeats 4000000 in
set_option maxRecDepth 100000 in
theorem F_ref6_depth_B_w (rfO : Rules → Cond → (List Int) → Option Int) (rhO : S_ref6_depth rfO) (p0 : Rules) (p1 : Cond) (p2 : List Int) (v1 : Value) (v2 : Value) (v3 : Value) (v7 : Value) (v9 : Value) (r : Int) (hF : F_ref6_depth_B rfO p0 p1 p2 = some r) (O S : List Nat) (w : World) (H : Hd O w w S [.fz (.sl Rp.str v1 p0.Phases), .fz (.sl rMoveT v2 p0.Moves), .fz (.sl rRule v3 p0.Rules), .fz (.sl rCond v7 p1.Kids), .fz (.sl (Rp.int .i64) v9 p2)]) :
  Calls Tryz.prog 98 ([.agg [v1, v2, v3].toArray, .agg [.int .i64 p1.Kind, .string (bs p1.Name), .string (bs p1.Other), .int .i64 p1.Op, .int .i64 p1.N, .int .i64 p1.Frames, v7].toArray, v9] : List Value).toArray w fun e w' => e = .returned (.int .i64 r) ∧ Hd O w w' S [] := by
 unfold F_ref6_depth_B at hF
 refine zY 68 Tryz.func98 rfl rfl rfl ?_
 refine zC fun K11 hK11 => ?_
 refine zB ?_
 refine yZ rfl rfl (wF (cs := [v1, v2, v3]) rfl H) ?_
 rintro _ w14 ⟨b12, rfl, H⟩
 refine yZ rfl rfl (wF (cs := [.int .i64 p1.Kind, .string (bs p1.Name), .string (bs p1.Other), .int .i64 p1.Op, .int .i64 p1.N, .int .i64 p1.Frames, v7]) rfl H) ?_
 rintro _ w17 ⟨b15, rfl, H⟩
 refine zI (.int .i64 0) ?_
 refine (zD (zA (hK11 _ _ ?_)))
 refine zC fun K57 hK57 => ?_
 refine zC fun K58 hK58 => ?_
 refine zB ?_
 refine zH (fa70_0 rfl) ?_
 refine zH (zO one3 rfl (Cells.get (Blk.cells (H.item (i := 6) rfl)) (i := 0) rfl)) ?_
 refine (zD (zA (hK58 _ _ ?_)))
 refine yG ?_
 refine zC fun K59 hK59 => ?_
 refine zB ?_
 obtain ⟨x60, e61, hF⟩ := zF hF
 refine zH (zM (yR (a := p1.Kind) (b := 5) rfl rfl) e61) ?_
 refine zI (.bool x60) ?_
 refine (zD (zA (hK59 _ _ ?_)))
 refine yA (b := x60) rfl (fun c62 => ?_) (fun c62 => ?_)
 ·have hF := zQ c62 hF
  refine zC fun K63 hK63 => ?_
  refine zB ?_
  refine zH (fa70_5 rfl) ?_
  refine zH (zO one3 rfl (Cells.get (Blk.cells (H.item (i := 6) rfl)) (i := 5) rfl)) ?_
  refine zI (.int .i64 p1.Frames) ?_
  refine (zD (zA (hK63 _ _ ?_)))
  obtain rfl := someI hF
  refine (yB (yE (zW (post1 (v1 := .int .i64 p1.Frames) rfl rfl ?_))))
  exact ⟨rfl, H.pick [] (by decide)⟩
 have hF := zS c62 hF
 obtain ⟨g70, hF, hK72⟩ := zG hF
 refine yL [16, 17, 18] (fun (g : Unit) => [(16, .bool g70)]) (fun g wl => Hd O w wl S [.fz (.sl Rp.str v1 p0.Phases), .fz (.sl rMoveT v2 p0.Moves), .fz (.sl rRule v3 p0.Rules), .fz (.sl rCond v7 p1.Kids), .fz (.sl (Rp.int .i64) v9 p2), .blk b12 [v1, v2, v3] 26, .blk b15 [.int .i64 p1.Kind, .string (bs p1.Name), .string (bs p1.Other), .int .i64 p1.Op, .int .i64 p1.N, .int .i64 p1.Frames, v7] 70]) ?_ ?_
 ·skip
  refine zC fun K73 hK73 => ?_
  refine zB ?_
  obtain ⟨x74, e75, hF⟩ := zF hF
  refine zH (zM (yR (a := p1.Kind) (b := 6) rfl rfl) e75) ?_
  refine zI (.bool x74) ?_
  refine (zD (zA (hK73 _ _ ?_)))
  refine yA (b := x74) rfl (fun c76 => ?_) (fun c76 => ?_)
  ·have hF := zQ c76 hF
   obtain rfl := someI hF
   exact (zX (zA (meet ⟨(), (zJ rfl zL), H.pick [0, 1, 2, 3, 4, 5, 6] (by decide)⟩)))
  have hF := zS c76 hF
  refine zB ?_
  obtain ⟨x77, e78, hF⟩ := zF hF
  refine zH (zM (yR (a := p1.Kind) (b := 14) rfl rfl) e78) ?_
  refine zI (.bool x77) ?_
  obtain rfl := someI hF
  exact (zD (zA (meet ⟨(), (zJ rfl zL), H.pick [0, 1, 2, 3, 4, 5, 6] (by decide)⟩)))
 rintro _ ρ w71 H
 have hF := hK72
 refine yA (b := g70) rfl (fun c79 => ?_) (fun c79 => ?_)
 ·have hF := zQ c79 hF
  refine zC fun K80 hK80 => ?_
  refine zB ?_
  refine zI (.int .i64 (-1)) ?_
  refine (zD (zA (hK80 _ _ ?_)))
  obtain rfl := someI hF
  refine (yB (yE (zW (post1 (v1 := .int .i64 (-1)) rfl rfl ?_))))
  exact ⟨rfl, H.pick [] (by decide)⟩
 have hF := zS c79 hF
 refine zC fun K81 hK81 => ?_
 refine zB ?_
 obtain ⟨x82, e83, hF⟩ := zF hF
 refine zH (zM (yR (a := p1.Kind) (b := 7) rfl rfl) e83) ?_
 refine zI (.bool x82) ?_
 refine (zD (zA (hK81 _ _ ?_)))
 refine yA (b := x82) rfl (fun c84 => ?_) (fun c84 => ?_)
 ·have hF := zQ c84 hF
  refine zC fun K85 hK85 => ?_
  refine zB ?_
  refine zK v9 ?_
  refine zH (yN (yJ (cs := [v1, v2, v3]) agg26 rfl sz26 rfl (Blk.cells (H.item (i := 5) rfl))) rfl) ?_
  refine zH (fa70_1 rfl) ?_
  refine zH (zO one9 rfl (Cells.get (Blk.cells (H.item (i := 6) rfl)) (i := 1) rfl)) ?_
  have H86 := H
  obtain ⟨x87, e88, hF⟩ := zG hF
  refine zZ rfl rfl (zT en93 rfl) (F_ref6_RuleOf_w p0 p1.Name v1 v2 v3 _ e88 _ _ _ (H.enter [] [0, 1, 2] (by decide) rfl)) ?_
  rintro _ w89 ⟨rfl, G90⟩
  have H := H86.step (G90.only : Only [] _ _)
  refine ⟨_, rfl, ?_⟩
  obtain ⟨x91, e92, hF⟩ := zG hF
  obtain ⟨b93, o94, c95, cs96, q97, h100, h98, h99, h101⟩ := rd_at (H.item (i := 4) rfl) e92
  obtain rfl : cs96 = [.int .i64 x91] := h100
  have H := H.fz (.at b93 (o94 + x87.toNat * 1) _) ⟨h98, h99, h101⟩
  refine zH (wC u38 sz3 q97 rfl (yP e92).1 (yP e92).2.1 rfl rfl) ?_
  refine zH (zO one3 rfl (Cells.get (H.item (i := 7) rfl).2.2 (i := 0) rfl)) ?_
  refine zI (.int .i64 x91) ?_
  refine (zD (zA (hK85 _ _ ?_)))
  obtain rfl := someI hF
  refine (yB (yE (zW (post1 (v1 := .int .i64 x91) rfl rfl ?_))))
  exact ⟨rfl, H.pick [] (by decide)⟩
 have hF := zS c84 hF
 refine (zX (yT (zA (hK57 _ _ ?_))))
 refine zC fun K113 hK113 => ?_
 refine zC fun K114 hK114 => ?_
 refine zB ?_
 refine zH (fa70_6 rfl) ?_
 refine zH (zO one68 rfl (Cells.get (Blk.cells (H.item (i := 6) rfl)) (i := 6) rfl)) ?_
 obtain ⟨x115, e116, hF⟩ := zF hF
 obtain ⟨a117, c118, q119⟩ := SlF.len ((H.item (i := 3) rfl))
 refine zH (yN (xM u68 q119) (congrArg (Value.int .i64) e116)) ?_
 obtain ⟨x120, e121, hF⟩ := zF hF
 refine zH (zM (yR (a := x115) (b := 0) rfl rfl) e121) ?_
 refine (zD (zA (hK114 _ _ ?_)))
 refine yA (b := x120) rfl (fun c122 => ?_) (fun c122 => ?_)
 ·have hF := zQ c122 hF
  refine zC fun K123 hK123 => ?_
  refine zB ?_
  refine zI (.int .i64 1) ?_
  refine (zD (zA (hK123 _ _ ?_)))
  obtain rfl := someI hF
  refine (yB (zW (post1 (v1 := .int .i64 1) rfl rfl ?_)))
  exact ⟨rfl, H.pick [] (by decide)⟩
 have hF := zS c122 hF
 refine (zX (zA (hK113 _ _ ?_)))
 refine zC fun K124 hK124 => ?_
 refine zB ?_
 refine zI (.int .i64 0) ?_
 refine (zD (zA (hK124 _ _ ?_)))
 obtain ⟨k320, ek321, hF⟩ := xQ hF
 refine yL [6, 7, 8, 9, 32, 33, 34, 35, 36, 37, 38, 39, 40, 41, 42, 43, 44, 45, 46, 47, 48, 49, 50, 51] (fun (g : Int) => [(7, .int .i64 g)]) (fun g wl => Hd O w wl S [.fz (.sl rCond v7 p1.Kids), .blk b15 [.int .i64 p1.Kind, .string (bs p1.Name), .string (bs p1.Other), .int .i64 p1.Op, .int .i64 p1.N, .int .i64 p1.Frames, v7] 70] ∧ k320 g = some r) ?_ ?_
 ·skip
  refine zC fun K322 hK322 => ?_
  refine zB ?_
  refine zI (.int .i64 0) ?_
  refine (zD (zA (hK322 _ _ ?_)))
  refine yG ?_
  unfold F_ref6_depth_B_L1 at hF
  obtain ⟨B511, n512, eB513, hF⟩ := yS hF
  refine xE [6, 7, 8, 9, 32, 33, 34, 35, 36, 37, 38, 39, 40, 41, 42, 43, 44, 45, 46, 47, 48, 49, 50, 51] (fun (g : Nat × Int × Int) => [(7, .int .i64 g.2.1), (8, .int .i64 g.2.2)]) (fun g wl => Hd O w wl S [.fz (.sl Rp.str v1 p0.Phases), .fz (.sl rMoveT v2 p0.Moves), .fz (.sl rRule v3 p0.Rules), .fz (.sl rCond v7 p1.Kids), .fz (.sl (Rp.int .i64) v9 p2), .blk b12 [v1, v2, v3] 26, .blk b15 [.int .i64 p1.Kind, .string (bs p1.Name), .string (bs p1.Other), .int .i64 p1.Op, .int .i64 p1.N, .int .i64 p1.Frames, v7] 70] ∧ loopN B511 g.1 (g.2.1, g.2.2) = some r) (fun g => g.1) (n512, 0, 0) (zJ rfl (zJ rfl zL)) ⟨H.pick [0, 1, 2, 3, 4, 5, 6] (by decide), hF⟩ ?_
  clear H hF
  rintro ⟨n512, g509, g510⟩ ρ w515 ⟨H, hF⟩
  obtain ⟨n516, rfl, hF⟩ := yX hF
  have hF := yY eB513 hF
  refine zC fun K526 hK526 => ?_
  refine zC fun K527 hK527 => ?_
  refine zB ?_
  refine zK (.int .i64 g510) ?_
  refine zH (fa70_6 rfl) ?_
  refine zH (zO one68 rfl (Cells.get (Blk.cells (H.item (i := 6) rfl)) (i := 6) rfl)) ?_
  obtain ⟨x528, e529, hF⟩ := zF hF
  obtain ⟨a530, c531, q532⟩ := SlF.len ((H.item (i := 3) rfl))
  refine zH (yN (xM u68 q532) (congrArg (Value.int .i64) e529)) ?_
  obtain ⟨x533, e534, hF⟩ := zF hF
  refine zH (zM (xI (a := g510) (b := x528) rfl rfl) e534) ?_
  refine (zD (zA (hK527 _ _ ?_)))
  refine yA (b := x533) rfl (fun c535 => ?_) (fun c535 => ?_)
  ·have hF := zQ c535 hF
   refine (zX (zA (hK526 _ _ ?_)))
   refine zC fun K571 hK571 => ?_
   refine yG ?_
   refine zC fun K572 hK572 => ?_
   have H573 := H
   have H := H.rebase
   have H574 := H
   refine WP_mix0 H [0, 1, 2, 3, 4, 5, 6, 7, 8] [.read, .pure, .read, .pure, .pure, .read, .pure, .read, .pure] mixed (by kernel_rfl) (by kernel_rfl) (by kernel_rfl) rfl ?_
   refine Mx.xO oS rfl rfl rfl (fun w' hw' => yN (yJ (cs := [v1, v2, v3]) agg26 rfl sz26 rfl (Blk.cells ((H.sees hw').item (i := 5) rfl))) rfl) ?_
   refine Mx.yD rfl rfl rfl (fun w' hw' => fa70_6 rfl) ?_
   refine Mx.xO oS rfl rfl rfl (fun w' hw' => zO one68 rfl (Cells.get (Blk.cells ((H.sees hw').item (i := 6) rfl)) (i := 6) rfl)) ?_
   refine Mx.yD rfl rfl rfl (fun w' hw' => xK (v := .int .i64 g510) rfl) ?_
   obtain ⟨x575, e576, hF⟩ := zG hF
   obtain ⟨b577, o578, c579, cs580, q581, h584, h582, h583, h585⟩ := rd_at (H.item (i := 3) rfl) e576
   obtain ⟨v586, rfl, h587⟩ := wI h584
   have H := H.fzs [.at b577 (o578 + g510.toNat * 7) _, .sl rCond v586 x575.Kids] ⟨⟨h582, h583, h585⟩, h587, trivial⟩
   refine Mx.yD rfl rfl rfl (fun w' hw' => wC u68 sz70 q581 rfl (yP e576).1 (yP e576).2.1 rfl rfl) ?_
   refine Mx.xO oS rfl rfl rfl (fun w' hw' => yN (yJ (cs := [.int .i64 x575.Kind, .string (bs x575.Name), .string (bs x575.Other), .int .i64 x575.Op, .int .i64 x575.N, .int .i64 x575.Frames, v586]) agg70 rfl sz70 rfl ((H.sees hw').item (i := 7) rfl).2.2) rfl) ?_
   refine Mx.yD rfl rfl rfl (fun w' hw' => xK (v := v9) rfl) ?_
   have H590 := H
   obtain ⟨x591, e592, hF⟩ := zG hF
   refine Mx.XL_call oS rfl rfl rfl (v := .int .i64 x591) (fun w' hw' => zT en98 rfl) (fun w' hw' => call_read (rhO p0 x575 p2 v1 v2 v3 v586 v9 _ e592 _ _ _ ((H.sees hw').enter [] [0, 1, 2, 8, 4] (by decide) rfl))) ?_
   have H := H590
   refine Mx.yD rfl rfl rfl (fun w' hw' => Do_assign (v := .int .i64 x591) rfl) ?_
   refine Mx.XL_nil fun w593 hS => ?_
   have H := H.sees hS
   have H := H573.rejoin H
   refine (zA (hK572 _ _ ?_))
   refine zC fun K599 hK599 => ?_
   refine zC fun K600 hK600 => ?_
   refine zB ?_
   refine zK (.int .i64 x591) ?_
   obtain ⟨x601, e602, hF⟩ := zF hF
   refine zH (zM (xI (a := x591) (b := 0) rfl rfl) e602) ?_
   refine (zD (zA (hK600 _ _ ?_)))
   refine yA (b := x601) rfl (fun c603 => ?_) (fun c603 => ?_)
   ·have hF := zQ c603 hF
    refine zC fun K604 hK604 => ?_
    refine zB ?_
    refine zI (.int .i64 (-1)) ?_
    refine (zD (zA (hK604 _ _ ?_)))
    obtain rfl := someI hF
    refine (yB (zW (yE (zW (zW (yE (zW (post1 (v1 := .int .i64 (-1)) rfl rfl ?_))))))))
    exact ⟨rfl, H.pick [] (by decide)⟩
   have hF := zS c603 hF
   refine (zX (zA (hK599 _ _ ?_)))
   refine zB ?_
   refine zK (.int .i64 g509) ?_
   refine zK (.int .i64 x591) ?_
   obtain ⟨x605, e606, hF⟩ := zF hF
   refine zH (Do_max (j := g509) (q := x591) rfl rfl e606) ?_
   refine zI (.int .i64 x605) ?_
   refine (zD (yT (zA (hK571 _ _ ?_))))
   refine zB ?_
   refine zK (.int .i64 g510) ?_
   obtain ⟨x607, e608, hF⟩ := zF hF
   refine zH (xP (a := g510) (b := 1) rfl rfl e608) ?_
   refine zI (.int .i64 x607) ?_
   exact (zD (zA (meet ⟨(n516, x605, x607), (zJ rfl (zJ rfl zL)), ⟨H.pick [0, 1, 2, 3, 4, 5, 6] (by decide), hF⟩, Nat.lt_succ_self _⟩)))
  have hF := zS c535 hF
  exact (xJ (yO (yO (xB (zA (meet ⟨g509, (zJ rfl zL), ⟨H.pick [3, 6] (by decide), hF⟩⟩))))))
 rintro g318 ρ w319 ⟨H, hF⟩
 have hF := wB ek321 hF
 refine zC fun K636 hK636 => ?_
 refine zC fun K637 hK637 => ?_
 refine zB ?_
 refine zH (fa70_0 rfl) ?_
 refine zH (zO one3 rfl (Cells.get (Blk.cells (H.item (i := 1) rfl)) (i := 0) rfl)) ?_
 refine (zD (zA (hK637 _ _ ?_)))
 refine yG ?_
 obtain ⟨g648, hF, hK650⟩ := zG hF
 refine yL [54, 55, 56, 57] (fun (g : Unit) => [(54, .bool g648)]) (fun g wl => Hd O w wl S [.fz (.sl rCond v7 p1.Kids), .blk b15 [.int .i64 p1.Kind, .string (bs p1.Name), .string (bs p1.Other), .int .i64 p1.Op, .int .i64 p1.N, .int .i64 p1.Frames, v7] 70]) ?_ ?_
 ·skip
  refine zC fun K651 hK651 => ?_
  refine zB ?_
  obtain ⟨x652, e653, hF⟩ := zF hF
  refine zH (zM (yR (a := p1.Kind) (b := 11) rfl rfl) e653) ?_
  refine zI (.bool x652) ?_
  refine (zD (zA (hK651 _ _ ?_)))
  refine yA (b := x652) rfl (fun c654 => ?_) (fun c654 => ?_)
  ·have hF := zQ c654 hF
   obtain rfl := someI hF
   exact (zX (zA (meet ⟨(), (zJ rfl zL), H.pick [0, 1] (by decide)⟩)))
  have hF := zS c654 hF
  refine zC fun K655 hK655 => ?_
  refine zB ?_
  obtain ⟨x656, e657, hF⟩ := zF hF
  refine zH (zM (yR (a := p1.Kind) (b := 12) rfl rfl) e657) ?_
  refine zI (.bool x656) ?_
  refine (zD (zA (hK655 _ _ ?_)))
  refine yA (b := x656) rfl (fun c658 => ?_) (fun c658 => ?_)
  ·have hF := zQ c658 hF
   obtain rfl := someI hF
   exact (zX (zA (meet ⟨(), (zJ rfl zL), H.pick [0, 1] (by decide)⟩)))
  have hF := zS c658 hF
  refine zB ?_
  obtain ⟨x659, e660, hF⟩ := zF hF
  refine zH (zM (yR (a := p1.Kind) (b := 13) rfl rfl) e660) ?_
  refine zI (.bool x659) ?_
  obtain rfl := someI hF
  exact (zD (zA (meet ⟨(), (zJ rfl zL), H.pick [0, 1] (by decide)⟩)))
 rintro _ ρ w649 H
 have hF := hK650
 refine yA (b := g648) rfl (fun c661 => ?_) (fun c661 => ?_)
 ·have hF := zQ c661 hF
  refine zC fun K662 hK662 => ?_
  refine zB ?_
  refine zK (.int .i64 g318) ?_
  refine zH (fa70_5 rfl) ?_
  refine zH (zO one3 rfl (Cells.get (Blk.cells (H.item (i := 1) rfl)) (i := 5) rfl)) ?_
  obtain ⟨x663, e664, hF⟩ := zF hF
  refine zH (xP (a := g318) (b := p1.Frames) rfl rfl e664) ?_
  obtain ⟨x665, e666, hF⟩ := zF hF
  refine zH (Do_sub (a := x663) (b := 1) rfl rfl e666) ?_
  refine zI (.int .i64 x665) ?_
  refine (zD (zA (hK662 _ _ ?_)))
  obtain rfl := someI hF
  refine (yB (yE (zW (post1 (v1 := .int .i64 x665) rfl rfl ?_))))
  exact ⟨rfl, H.pick [] (by decide)⟩
 have hF := zS c661 hF
 refine zC fun K667 hK667 => ?_
 refine zB ?_
 obtain ⟨x668, e669, hF⟩ := zF hF
 refine zH (zM (yR (a := p1.Kind) (b := 15) rfl rfl) e669) ?_
 refine zI (.bool x668) ?_
 refine (zD (zA (hK667 _ _ ?_)))
 refine yA (b := x668) rfl (fun c670 => ?_) (fun c670 => ?_)
 ·have hF := zQ c670 hF
  refine zC fun K671 hK671 => ?_
  refine zB ?_
  refine zK (.int .i64 g318) ?_
  obtain ⟨x672, e673, hF⟩ := zF hF
  refine zH (xP (a := g318) (b := 1) rfl rfl e673) ?_
  refine zI (.int .i64 x672) ?_
  refine (zD (zA (hK671 _ _ ?_)))
  obtain rfl := someI hF
  refine (yB (yE (zW (post1 (v1 := .int .i64 x672) rfl rfl ?_))))
  exact ⟨rfl, H.pick [] (by decide)⟩
 have hF := zS c670 hF
 refine (zX (yT (zA (hK636 _ _ ?_))))
 refine zC fun K674 hK674 => ?_
 refine zB ?_
 refine zK (.int .i64 g318) ?_
 refine zI (.int .i64 g318) ?_
 refine (zD (zA (hK674 _ _ ?_)))
 obtain rfl := someI hF
 refine (yB (post1 (v1 := .int .i64 g318) rfl rfl ?_))
 exact ⟨rfl, H.pick [] (by decide)⟩
theorem F_ref6_depth_s : S_ref6_depth (F_ref6_depth) := by
 have h : ∀ n, S_ref6_depth (F_ref6_depth_R n) := by
  intro n
  induction n with
  | zero => intro p0 p1 p2 v1 v2 v3 v7 v9 r hF; cases hF
  | succ n ih => intro p0 p1 p2 v1 v2 v3 v7 v9 r hF; exact F_ref6_depth_B_w (F_ref6_depth_R n) ih p0 p1 p2 v1 v2 v3 v7 v9 r hF
 exact h FU
set_option maxHeartbeats 4000000 in
theorem F_ref6_Depths_w (p0 : Rules) (v1 : Value) (v2 : Value) (v3 : Value) (r : (List Int) × Int) (hF : F_ref6_Depths p0 = some r) (O S : List Nat) (w : World) (H : Hd O w w S [.fz (.sl Rp.str v1 p0.Phases), .fz (.sl rMoveT v2 p0.Moves), .fz (.sl rRule v3 p0.Rules)]) :
  Calls Tryz.prog 37 ([.agg [v1, v2, v3].toArray] : List Value).toArray w fun e w' => ∃ u7, e = .returned (.tuple #[u7, .int .i64 r.2]) ∧ Hd O w w' S [.own (Rp.int .i64) u7 3 r.1] := by
 unfold F_ref6_Depths at hF
 refine zY 32 Tryz.func37 rfl rfl rfl ?_
 refine zC fun K8 hK8 => ?_
 refine zB ?_
 refine yZ rfl rfl (wF (cs := [v1, v2, v3]) rfl H) ?_
 rintro _ w11 ⟨b9, rfl, H⟩
 refine zI (.slice none 0 0) ?_
 refine zI (.int .i64 0) ?_
 refine (zD (zA (hK8 _ _ ?_)))
 refine zC fun K23 hK23 => ?_
 refine zC fun K24 hK24 => ?_
 refine zB ?_
 refine zH (yN (yJ (cs := [v1, v2, v3]) agg26 rfl sz26 rfl (Blk.cells (H.item (i := 3) rfl))) rfl) ?_
 have H25 := H
 obtain ⟨x26, e27, hF⟩ := zG hF
 refine zZ rfl rfl (zT en32 rfl) (F_ref6_Check_w p0 v1 v2 v3 _ e27 _ _ _ (H.enter [] [0, 1, 2] (by decide) rfl)) ?_
 rintro _ w28 ⟨rfl, G29⟩
 have H := H25.step (G29.only : Only [] _ _)
 refine ⟨_, rfl, ?_⟩
 refine zI (.int .i64 x26) ?_
 refine (zD (zA (hK24 _ _ ?_)))
 refine zC fun K30 hK30 => ?_
 refine zB ?_
 refine zK (.int .i64 x26) ?_
 obtain ⟨x31, e32, hF⟩ := zF hF
 refine zH (zM (Do_neq (a := x26) (b := 0) rfl rfl) e32) ?_
 refine (zD (zA (hK30 _ _ ?_)))
 refine yA (b := x31) rfl (fun c33 => ?_) (fun c33 => ?_)
 ·have hF := zQ c33 hF
  refine zC fun K34 hK34 => ?_
  refine zB ?_
  refine zK (.int .i64 x26) ?_
  refine zI (.slice none 0 0) ?_
  refine zI (.int .i64 x26) ?_
  refine (zD (zA (hK34 _ _ ?_)))
  have H := own_nil H (Rp.int .i64) 3
  obtain rfl := someI hF
  refine (yB (zW (post2 (v1 := .slice none 0 0) (v2 := .int .i64 x26) rfl rfl rfl ?_)))
  exact ⟨.slice none 0 0, rfl, H.pick [4] (by decide)⟩
 have hF := zS c33 hF
 refine (zX (zA (hK23 _ _ ?_)))
 refine zC fun K36 hK36 => ?_
 refine zB ?_
 refine zI (.slice none 0 0) ?_
 refine (zD (zA (hK36 _ _ ?_)))
 obtain ⟨g218, hF, hK221⟩ := zG hF
 refine yL [5, 6, 12, 13, 14, 15, 16, 17, 18, 19, 20, 21, 22, 23, 24, 25, 26, 27, 28, 29, 30] (fun (g : Value) => [(5, g)]) (fun g wl => Hd O w wl S [.own (Rp.int .i64) g 3 g218]) ?_ ?_
 ·skip
  refine zC fun K222 hK222 => ?_
  refine zB ?_
  refine zI (.int .i64 0) ?_
  refine (zD (zA (hK222 _ _ ?_)))
  refine yG ?_
  have H := own_nil H (Rp.int .i64) 3
  unfold F_ref6_Depths_L1 at hF
  obtain ⟨B400, n401, eB402, hF⟩ := yS hF
  refine xE [5, 6, 12, 13, 14, 15, 16, 17, 18, 19, 20, 21, 22, 23, 24, 25, 26, 27, 28, 29, 30] (fun (g : Nat × (List Int) × Int × Value) => [(5, g.2.2.2), (6, .int .i64 g.2.2.1)]) (fun g wl => Hd O w wl S [.own (Rp.int .i64) g.2.2.2 3 g.2.1, .fz (.sl Rp.str v1 p0.Phases), .fz (.sl rMoveT v2 p0.Moves), .fz (.sl rRule v3 p0.Rules), .blk b9 [v1, v2, v3] 26] ∧ loopN B400 g.1 (g.2.1, g.2.2.1) = some g218) (fun g => g.1) (n401, [], 0, .slice none 0 0) (zJ rfl (zJ rfl zL)) ⟨H.pick [4, 0, 1, 2, 3] (by decide), hF⟩ ?_
  clear H hF
  rintro ⟨n401, g396, g398, v397⟩ ρ w404 ⟨H, hF⟩
  obtain ⟨n405, rfl, hF⟩ := yX hF
  have hF := yY eB402 hF
  refine zC fun K415 hK415 => ?_
  refine zC fun K416 hK416 => ?_
  refine zB ?_
  refine zK (.int .i64 g398) ?_
  refine zH (fa26_2 rfl) ?_
  refine zH (zO one24 rfl (Cells.get (Blk.cells (H.item (i := 4) rfl)) (i := 2) rfl)) ?_
  obtain ⟨x417, e418, hF⟩ := zF hF
  obtain ⟨a419, c420, q421⟩ := SlF.len ((H.item (i := 3) rfl))
  refine zH (yN (xM u24 q421) (congrArg (Value.int .i64) e418)) ?_
  obtain ⟨x422, e423, hF⟩ := zF hF
  refine zH (zM (xI (a := g398) (b := x417) rfl rfl) e423) ?_
  refine (zD (zA (hK416 _ _ ?_)))
  refine yA (b := x422) rfl (fun c424 => ?_) (fun c424 => ?_)
  ·have hF := zQ c424 hF
   refine (zX (zA (hK415 _ _ ?_)))
   refine zC fun K455 hK455 => ?_
   refine yG ?_
   have H456 := H
   have H := H.rebase
   have H457 := H
   refine WP_mix0 H [0, 1, 2, 3, 4, 5, 6, 7, 8, 9, 10, 11, 12] [.pure, .read, .pure, .read, .pure, .pure, .pure, .read, .pure, .read, .new, .eff, .pure] mixed (by kernel_rfl) (by kernel_rfl) (by kernel_rfl) rfl ?_
   refine Mx.yD rfl rfl rfl (fun w' hw' => xK (v := v397) rfl) ?_
   refine Mx.xO oS rfl rfl rfl (fun w' hw' => yN (yJ (cs := [v1, v2, v3]) agg26 rfl sz26 rfl (Blk.cells ((H.sees hw').item (i := 4) rfl))) rfl) ?_
   refine Mx.yD rfl rfl rfl (fun w' hw' => fa26_2 rfl) ?_
   refine Mx.xO oS rfl rfl rfl (fun w' hw' => zO one24 rfl (Cells.get (Blk.cells ((H.sees hw').item (i := 4) rfl)) (i := 2) rfl)) ?_
   refine Mx.yD rfl rfl rfl (fun w' hw' => xK (v := .int .i64 g398) rfl) ?_
   obtain ⟨x458, e459, hF⟩ := zG hF
   obtain ⟨b460, o461, c462, cs463, q464, h467, h465, h466, h468⟩ := rd_at (H.item (i := 3) rfl) e459
   obtain ⟨v469, rfl, h470⟩ := rRule_open h467
   have H := H.fzs [.at b460 (o461 + g398.toNat * 8) _, .sl rCond v469 x458.When.Kids] ⟨⟨h465, h466, h468⟩, h470, trivial⟩
   refine Mx.yD rfl rfl rfl (fun w' hw' => wC u24 sz95 q464 rfl (yP e459).1 (yP e459).2.1 rfl rfl) ?_
   refine Mx.yD rfl rfl rfl (fun w' hw' => fa95_1 rfl) ?_
   refine Mx.xO oS rfl rfl rfl (fun w' hw' => yN (yJ (cs := [.int .i64 x458.When.Kind, .string (bs x458.When.Name), .string (bs x458.When.Other), .int .i64 x458.When.Op, .int .i64 x458.When.N, .int .i64 x458.When.Frames, v469]) agg70 rfl sz70 rfl (Cells.drop ((H.sees hw').item (i := 5) rfl).2.2 1 7)) rfl) ?_
   refine Mx.yD rfl rfl rfl (fun w' hw' => xK (v := v397) rfl) ?_
   have H473 := H
   have H := H.freeze (i := 0) rfl
   obtain ⟨x474, e475, hF⟩ := zG hF
   refine Mx.XL_call oS rfl rfl rfl (v := .int .i64 x474) (fun w' hw' => zT en98 rfl) (fun w' hw' => call_read (F_ref6_depth_s p0 x458.When g396 v1 v2 v3 v469 v397 _ e475 _ _ _ ((H.sees hw').enter [] [1, 2, 3, 6, 0] (by decide) rfl))) ?_
   have H := H473
   obtain ⟨x476, e477, hF⟩ := zF hF
   subst e477
   refine Mx.XL_exN oS rfl rfl rfl (fun w' hw' => Ls_of (Lx_bs (r := (Rp.int .i64)) (xl := [x474]) (cs := [.int .i64 x474]) u38 el3 (by decide) (by decide) rfl (xU (vs := [.int .i64 x474]) (by decide) rfl rfl ⟨rfl, trivial⟩ rfl) (H.sees hw') ⟨[.int .i64 x474], [], rfl, rfl, rfl⟩) (Ys_bs (cs := [.int .i64 x474]) u38 el3 (by decide) (by decide) (xU (vs := [.int .i64 x474]) (by decide) rfl rfl ⟨rfl, trivial⟩ rfl))) ?_
   rintro w' v479 w480 hw' H
   obtain ⟨x481, e482, hF⟩ := zG hF
   refine Mx.XL_ex oS rfl rfl rfl (fun w' hw' => Lx_app (H.sees hw') (i := 0) rfl u38 el3 rfl rfl (Sr.of_own ((H.sees hw').item (i := 7) rfl)) e482) ?_
   rintro w' v483 w484 hw' H
   refine ⟨H.only, ?_⟩
   refine Mx.yD rfl rfl rfl (fun w' hw' => Do_assign (v := v483) rfl) ?_
   refine Mx.XL_nil fun w485 hS => ?_
   have H := H.sees hS
   have H := H456.rejoin H
   refine (yT (zA (hK455 _ _ ?_)))
   refine zB ?_
   refine zK (.int .i64 g398) ?_
   obtain ⟨x486, e487, hF⟩ := zF hF
   refine zH (xP (a := g398) (b := 1) rfl rfl e487) ?_
   refine zI (.int .i64 x486) ?_
   exact (zD (zA (meet ⟨(n405, x481, x486, v483), (zJ rfl (zJ rfl zL)), ⟨H.pick [0, 1, 2, 3, 4] (by decide), hF⟩, Nat.lt_succ_self _⟩)))
  have hF := zS c424 hF
  obtain rfl := someI hF
  exact (xJ (yO (yO (xB (zA (meet ⟨v397, (zJ rfl zL), H.pick [0] (by decide)⟩))))))
 rintro v219 ρ w220 H
 have hF := hK221
 refine zC fun K488 hK488 => ?_
 refine zB ?_
 refine zK v219 ?_
 refine zI v219 ?_
 refine zI (.int .i64 0) ?_
 refine (zD (zA (hK488 _ _ ?_)))
 obtain rfl := someI hF
 refine (yB (post2 (v1 := v219) (v2 := .int .i64 0) rfl rfl rfl ?_))
 exact ⟨v219, rfl, H.pick [0] (by decide)⟩
set_option maxHeartbeats 4000000 in
theorem F_ref0_Ink_Ints_w (p0 : Orangeboxref0Ink) (p1 : List Int) (b1 : Nat) (v2 : Value) (v5 : Value) (r : Orangeboxref0Ink) (hF : F_ref0_Ink_Ints p0 p1 = some r) (O S : List Nat) (w : World) (H : Hd O w w S [.own (Rp.int .u8) v2 5 p0.out, .blk b1 [v2] 63, .fz (.sl (Rp.int .i64) v5 p1), .fz (.at 3 0 ((Fl.arr 20 (Fl.int .u64)).f zN))]) :
  Calls Tryz.prog 157 ([.pointer (some ⟨b1, 0, none⟩), v5] : List Value).toArray w fun e w' => ∃ u8, e = .returned (.tuple #[]) ∧ Hd O w w' S [.own (Rp.int .u8) u8 5 r.out, .blk b1 [u8] 63] := by
 unfold F_ref0_Ink_Ints at hF
 refine zY 21 Tryz.func157 rfl rfl rfl ?_
 refine zC fun K9 hK9 => ?_
 refine zB ?_
 refine zK (.pointer (some ⟨b1, 0, none⟩)) ?_
 refine zK v5 ?_
 obtain ⟨x10, e11, hF⟩ := zF hF
 obtain ⟨a12, c13, q14⟩ := SlF.len ((H.item (i := 2) rfl))
 refine zH (yN (xM u38 q14) (congrArg (Value.int .i64) e11)) ?_
 obtain ⟨x15, e16, hF⟩ := zG hF
 refine zZ rfl rfl (zT en47 rfl) (F_ref0_Ink_Int_w p0 x10 b1 v2 _ e16 _ _ _ (H.enter [0, 1] [3] (by decide) rfl)) ?_
 rintro _ w19 ⟨v17, rfl, G20⟩
 have H : Hd O _ w19 _ [.fz (.sl (Rp.int .i64) v5 p1), .fz (.at 3 0 ((Fl.arr 20 (Fl.int .u64)).f zN)), .own (Rp.int .u8) v17 5 x15.out, .blk b1 [v17] 63] := H.back [0, 1] [3] rfl G20
 refine ⟨_, rfl, ?_⟩
 refine (zD (zA (hK9 _ _ ?_)))
 refine zC fun K21 hK21 => ?_
 refine zB ?_
 refine zI (.int .i64 0) ?_
 refine (zD (zA (hK21 _ _ ?_)))
 refine yG ?_
 unfold F_ref0_Ink_Ints_L1 at hF
 obtain ⟨B146, n147, eB148, hF⟩ := yS hF
 refine xE [4, 9, 10, 11, 12, 13, 14, 15, 16, 17, 18, 19, 20] (fun (g : Nat × Int × (List Int) × Value) => [(4, .int .i64 g.2.1)]) (fun g wl => Hd O w wl S [.fz (.sl (Rp.int .i64) v5 p1), .fz (.at 3 0 ((Fl.arr 20 (Fl.int .u64)).f zN)), .blk b1 [g.2.2.2] 63, .own (Rp.int .u8) g.2.2.2 5 g.2.2.1] ∧ loopN B146 g.1 (g.2.1, g.2.2.1) = some r) (fun g => g.1) (n147, 0, x15.out, v17) (zJ rfl zL) ⟨H.pick [0, 1, 3, 2] (by decide), hF⟩ ?_
 clear H hF
 rintro ⟨n147, g142, g144, v145⟩ ρ w150 ⟨H, hF⟩
 obtain ⟨n151, rfl, hF⟩ := yX hF
 have hF := yY eB148 hF
 refine zC fun K161 hK161 => ?_
 refine zC fun K162 hK162 => ?_
 refine zB ?_
 refine zK (.int .i64 g142) ?_
 refine zK v5 ?_
 obtain ⟨x163, e164, hF⟩ := zF hF
 obtain ⟨a165, c166, q167⟩ := SlF.len ((H.item (i := 0) rfl))
 refine zH (yN (xM u38 q167) (congrArg (Value.int .i64) e164)) ?_
 obtain ⟨x168, e169, hF⟩ := zF hF
 refine zH (zM (xI (a := g142) (b := x163) rfl rfl) e169) ?_
 refine (zD (zA (hK162 _ _ ?_)))
 refine yA (b := x168) rfl (fun c170 => ?_) (fun c170 => ?_)
 ·have hF := zQ c170 hF
  refine (zX (zA (hK161 _ _ ?_)))
  refine zC fun K189 hK189 => ?_
  refine yG ?_
  refine zB ?_
  refine zK (.pointer (some ⟨b1, 0, none⟩)) ?_
  refine zK v5 ?_
  refine zK (.int .i64 g142) ?_
  obtain ⟨x190, e191, hF⟩ := zG hF
  obtain ⟨b192, o193, c194, cs195, q196, h199, h197, h198, h200⟩ := rd_at (H.item (i := 0) rfl) e191
  obtain rfl : cs195 = [.int .i64 x190] := h199
  have H := H.fz (.at b192 (o193 + g142.toNat * 1) _) ⟨h197, h198, h200⟩
  refine zH (wC u38 sz3 q196 rfl (yP e191).1 (yP e191).2.1 rfl rfl) ?_
  refine zH (zO one3 rfl (Cells.get (H.item (i := 4) rfl).2.2 (i := 0) rfl)) ?_
  obtain ⟨x202, e203, hF⟩ := zG hF
  refine zZ rfl rfl (zT en47 rfl) (F_ref0_Ink_Int_w (Orangeboxref0Ink.mk g144) x190 b1 v145 _ e203 _ _ _ (H.enter [3, 2] [1] (by decide) rfl)) ?_
  rintro _ w206 ⟨v204, rfl, G207⟩
  have H : Hd O _ w206 _ [.fz (.sl (Rp.int .i64) v5 p1), .fz (.at 3 0 ((Fl.arr 20 (Fl.int .u64)).f zN)), .fz (.at b192 (o193 + g142.toNat * 1) [.int .i64 x190]), .own (Rp.int .u8) v204 5 x202.out, .blk b1 [v204] 63] := H.back [3, 2] [1] rfl G207
  refine ⟨_, rfl, ?_⟩
  refine (zD (yT (zA (hK189 _ _ ?_))))
  refine zB ?_
  refine zK (.int .i64 g142) ?_
  obtain ⟨x208, e209, hF⟩ := zF hF
  refine zH (xP (a := g142) (b := 1) rfl rfl e209) ?_
  refine zI (.int .i64 x208) ?_
  exact (zD (zA (meet ⟨(n151, x208, x202.out, v204), (zJ rfl zL), ⟨H.pick [0, 1, 4, 3] (by decide), hF⟩, Nat.lt_succ_self _⟩)))
 have hF := zS c170 hF
 obtain rfl := someI hF
 refine (xJ (yO (yO (xB (post0n rfl ?_)))))
 exact ⟨v145, rfl, H.pick [3, 2] (by decide)⟩
set_option maxHeartbeats 4000000 in
theorem F_ref0_Ink_Lists_w (p0 : Orangeboxref0Ink) (p1 : List (List Int)) (b1 : Nat) (v2 : Value) (v5 : Value) (r : Orangeboxref0Ink) (hF : F_ref0_Ink_Lists p0 p1 = some r) (O S : List Nat) (w : World) (H : Hd O w w S [.own (Rp.int .u8) v2 5 p0.out, .blk b1 [v2] 63, .fz (.sl (Rp.sl (Rp.int .i64)) v5 p1), .fz (.at 3 0 ((Fl.arr 20 (Fl.int .u64)).f zN))]) :
  Calls Tryz.prog 99 ([.pointer (some ⟨b1, 0, none⟩), v5] : List Value).toArray w fun e w' => ∃ u8, e = .returned (.tuple #[]) ∧ Hd O w w' S [.own (Rp.int .u8) u8 5 r.out, .blk b1 [u8] 63] := by
 unfold F_ref0_Ink_Lists at hF
 refine zY 21 Tryz.func99 rfl rfl rfl ?_
 refine zC fun K9 hK9 => ?_
 refine zB ?_
 refine zK (.pointer (some ⟨b1, 0, none⟩)) ?_
 refine zK v5 ?_
 obtain ⟨x10, e11, hF⟩ := zF hF
 obtain ⟨a12, c13, q14⟩ := SlF.len ((H.item (i := 2) rfl))
 refine zH (yN (xM u28 q14) (congrArg (Value.int .i64) e11)) ?_
 obtain ⟨x15, e16, hF⟩ := zG hF
 refine zZ rfl rfl (zT en47 rfl) (F_ref0_Ink_Int_w p0 x10 b1 v2 _ e16 _ _ _ (H.enter [0, 1] [3] (by decide) rfl)) ?_
 rintro _ w19 ⟨v17, rfl, G20⟩
 have H : Hd O _ w19 _ [.fz (.sl (Rp.sl (Rp.int .i64)) v5 p1), .fz (.at 3 0 ((Fl.arr 20 (Fl.int .u64)).f zN)), .own (Rp.int .u8) v17 5 x15.out, .blk b1 [v17] 63] := H.back [0, 1] [3] rfl G20
 refine ⟨_, rfl, ?_⟩
 refine (zD (zA (hK9 _ _ ?_)))
 refine zC fun K21 hK21 => ?_
 refine zB ?_
 refine zI (.int .i64 0) ?_
 refine (zD (zA (hK21 _ _ ?_)))
 refine yG ?_
 unfold F_ref0_Ink_Lists_L1 at hF
 obtain ⟨B158, n159, eB160, hF⟩ := yS hF
 refine xE [4, 9, 10, 11, 12, 13, 14, 15, 16, 17, 18, 19, 20] (fun (g : Nat × Int × (List Int) × Value) => [(4, .int .i64 g.2.1)]) (fun g wl => Hd O w wl S [.fz (.sl (Rp.sl (Rp.int .i64)) v5 p1), .fz (.at 3 0 ((Fl.arr 20 (Fl.int .u64)).f zN)), .blk b1 [g.2.2.2] 63, .own (Rp.int .u8) g.2.2.2 5 g.2.2.1] ∧ loopN B158 g.1 (g.2.1, g.2.2.1) = some r) (fun g => g.1) (n159, 0, x15.out, v17) (zJ rfl zL) ⟨H.pick [0, 1, 3, 2] (by decide), hF⟩ ?_
 clear H hF
 rintro ⟨n159, g154, g156, v157⟩ ρ w162 ⟨H, hF⟩
 obtain ⟨n163, rfl, hF⟩ := yX hF
 have hF := yY eB160 hF
 refine zC fun K173 hK173 => ?_
 refine zC fun K174 hK174 => ?_
 refine zB ?_
 refine zK (.int .i64 g154) ?_
 refine zK v5 ?_
 obtain ⟨x175, e176, hF⟩ := zF hF
 obtain ⟨a177, c178, q179⟩ := SlF.len ((H.item (i := 0) rfl))
 refine zH (yN (xM u28 q179) (congrArg (Value.int .i64) e176)) ?_
 obtain ⟨x180, e181, hF⟩ := zF hF
 refine zH (zM (xI (a := g154) (b := x175) rfl rfl) e181) ?_
 refine (zD (zA (hK174 _ _ ?_)))
 refine yA (b := x180) rfl (fun c182 => ?_) (fun c182 => ?_)
 ·have hF := zQ c182 hF
  refine (zX (zA (hK173 _ _ ?_)))
  refine zC fun K204 hK204 => ?_
  refine yG ?_
  refine zB ?_
  refine zK (.pointer (some ⟨b1, 0, none⟩)) ?_
  refine zK v5 ?_
  refine zK (.int .i64 g154) ?_
  obtain ⟨x205, e206, hF⟩ := zG hF
  obtain ⟨b207, o208, c209, cs210, q211, h214, h212, h213, h215⟩ := rd_at (H.item (i := 0) rfl) e206
  obtain ⟨v216, rfl, h217⟩ := h214
  have H := H.fzs [.at b207 (o208 + g154.toNat * 1) _, .sl (Rp.int .i64) v216 x205] ⟨⟨h212, h213, h215⟩, h217, trivial⟩
  refine zH (wC u28 sz38 q211 rfl (yP e206).1 (yP e206).2.1 rfl rfl) ?_
  refine zH (zO one38 rfl (Cells.get (H.item (i := 4) rfl).2.2 (i := 0) rfl)) ?_
  obtain ⟨x220, e221, hF⟩ := zG hF
  refine zZ rfl rfl (zT en157 rfl) (F_ref0_Ink_Ints_w (Orangeboxref0Ink.mk g156) x205 b1 v157 v216 _ e221 _ _ _ (H.enter [3, 2] [5, 1] (by decide) rfl)) ?_
  rintro _ w224 ⟨v222, rfl, G225⟩
  have H : Hd O _ w224 _ [.fz (.sl (Rp.sl (Rp.int .i64)) v5 p1), .fz (.at 3 0 ((Fl.arr 20 (Fl.int .u64)).f zN)), .fz (.at b207 (o208 + g154.toNat * 1) [v216]), .fz (.sl (Rp.int .i64) v216 x205), .own (Rp.int .u8) v222 5 x220.out, .blk b1 [v222] 63] := H.back [3, 2] [5, 1] rfl G225
  refine ⟨_, rfl, ?_⟩
  refine (zD (yT (zA (hK204 _ _ ?_))))
  refine zB ?_
  refine zK (.int .i64 g154) ?_
  obtain ⟨x226, e227, hF⟩ := zF hF
  refine zH (xP (a := g154) (b := 1) rfl rfl e227) ?_
  refine zI (.int .i64 x226) ?_
  exact (zD (zA (meet ⟨(n163, x226, x220.out, v222), (zJ rfl zL), ⟨H.pick [0, 1, 5, 4] (by decide), hF⟩, Nat.lt_succ_self _⟩)))
 have hF := zS c182 hF
 obtain rfl := someI hF
 refine (xJ (yO (yO (xB (post0n rfl ?_)))))
 exact ⟨v157, rfl, H.pick [3, 2] (by decide)⟩
set_option maxHeartbeats 4000000 in
theorem F_law6_lists_w (p0 : List (List Int)) (p1 : Int) (v1 : Value) (r : Str) (hF : F_law6_lists p0 p1 = some r) (O S : List Nat) (w : World) (H : Hd O w w S [.fz (.sl (Rp.sl (Rp.int .i64)) v1 p0), .fz (.at 3 0 ((Fl.arr 20 (Fl.int .u64)).f zN))]) :
  Calls Tryz.prog 38 ([v1, .int .i64 p1] : List Value).toArray w fun e w' => e = .returned (.string (bs r)) ∧ Hd O w w' S [] := by
 unfold F_law6_lists at hF
 refine zY 16 Tryz.func38 rfl rfl rfl ?_
 refine zC fun K4 hK4 => ?_
 refine zB ?_
 refine zI (.string (bs [])) ?_
 refine (zD (zA (hK4 _ _ ?_)))
 refine zC fun K5 hK5 => ?_
 refine zB ?_
 refine zH (Do_build (cs := [.slice none 0 0]) bz63) ?_
 refine yZ rfl rfl (wF (cs := [.slice none 0 0]) rfl H) ?_
 rintro _ w8 ⟨b6, rfl, H⟩
 refine zI (.pointer (some ⟨b6, 0, none⟩)) ?_
 refine (zD (zA (hK5 _ _ ?_)))
 refine zC fun K9 hK9 => ?_
 refine zB ?_
 refine zK (.pointer (some ⟨b6, 0, none⟩)) ?_
 refine zK v1 ?_
 have H := own_nil H (Rp.int .u8) 5
 obtain ⟨x11, e12, hF⟩ := zG hF
 refine zZ rfl rfl (zT en99 rfl) (F_ref0_Ink_Lists_w (Orangeboxref0Ink.mk []) p0 b6 (.slice none 0 0) v1 _ e12 _ _ _ (H.enter [3, 2] [0, 1] (by decide) rfl)) ?_
 rintro _ w15 ⟨v13, rfl, G16⟩
 have H : Hd O _ w15 _ [.fz (.sl (Rp.sl (Rp.int .i64)) v1 p0), .fz (.at 3 0 ((Fl.arr 20 (Fl.int .u64)).f zN)), .own (Rp.int .u8) v13 5 x11.out, .blk b6 [v13] 63] := H.back [3, 2] [0, 1] rfl G16
 refine ⟨_, rfl, ?_⟩
 refine (zD (zA (hK9 _ _ ?_)))
 refine zC fun K17 hK17 => ?_
 refine zB ?_
 refine zK (.pointer (some ⟨b6, 0, none⟩)) ?_
 refine zK (.int .i64 p1) ?_
 obtain ⟨x18, e19, hF⟩ := zG hF
 refine zZ rfl rfl (zT en57 rfl) (F_ref0_Ink_Errno_w x11 p1 b6 v13 _ e19 _ _ _ (H.enter [2, 3] [1] (by decide) rfl)) ?_
 rintro _ w22 ⟨v20, rfl, G23⟩
 have H : Hd O _ w22 _ [.fz (.sl (Rp.sl (Rp.int .i64)) v1 p0), .fz (.at 3 0 ((Fl.arr 20 (Fl.int .u64)).f zN)), .own (Rp.int .u8) v20 5 x18.out, .blk b6 [v20] 63] := H.back [2, 3] [1] rfl G23
 refine ⟨_, rfl, ?_⟩
 refine (zD (zA (hK17 _ _ ?_)))
 refine zC fun K24 hK24 => ?_
 refine zB ?_
 refine zK (.pointer (some ⟨b6, 0, none⟩)) ?_
 have H25 := H
 have H := H.freezeB (i := 3) rfl
 have H := H.freeze (i := 2) rfl
 have H := H.fz (.pt rOrangeboxref0Ink (some ⟨b6, 0, none⟩) (some x18)) ⟨_, _, _, rfl, (H.item (i := 3) rfl).1, (H.item (i := 3) rfl).2.1, (rOrangeboxref0Ink_mk (x := x18) (H.item (i := 2) rfl)), (H.item (i := 3) rfl).2.2⟩
 obtain ⟨x27, e28, hF⟩ := zG hF
 refine zZ rfl rfl (zT en28 rfl) (F_ref0_Ink_Told_w (some x18) (some ⟨b6, 0, none⟩) _ e28 _ _ _ (H.enter [] [4] (by decide) rfl)) ?_
 rintro _ w29 ⟨rfl, G30⟩
 have H := H25.step (G30.only : Only [] _ _)
 refine ⟨_, rfl, ?_⟩
 refine zI (.string (bs x27)) ?_
 refine (zD (zA (hK24 _ _ ?_)))
 obtain rfl := someI hF
 refine (yB (post1 (v1 := .string (bs x27)) rfl rfl ?_))
 exact ⟨rfl, H.pick [] (by decide)⟩
set_option maxHeartbeats 4000000 in
theorem F_event_reader_blanks_w (p0 : EventReader) (b1 : Nat) (v2 : Value) (v3 : Value) (v4 : Value) (r : EventReader) (hF : F_event_reader_blanks p0 = some r) (O S : List Nat) (w : World) (H : Hd O w w S [.own Rp.str v2 9 p0.r.Phases, .own rMoveT v3 122 p0.r.Moves, .own rRule v4 95 p0.r.Rules, .blk b1 [.string (bs p0.text), .int .i64 p0.at_, .int .i64 p0.now.kind, .int .i64 p0.now.at_, .int .i64 p0.now.n, .string (bs p0.now.text), v2, v3, v4] 109]) :
  Calls Tryz.prog 174 ([.pointer (some ⟨b1, 0, none⟩)] : List Value).toArray w fun e w' => ∃ u9 u10 u11, e = .returned (.tuple #[]) ∧ Hd O w w' S [.own Rp.str u9 9 r.r.Phases, .own rMoveT u10 122 r.r.Moves, .own rRule u11 95 r.r.Rules, .blk b1 [.string (bs r.text), .int .i64 r.at_, .int .i64 r.now.kind, .int .i64 r.now.at_, .int .i64 r.now.n, .string (bs r.now.text), u9, u10, u11] 109] := by
 unfold F_event_reader_blanks at hF
 refine zY 66 Tryz.func174 rfl rfl rfl ?_
 refine yG ?_
 unfold F_event_reader_blanks_L1 at hF
 obtain ⟨B114, n115, eB116, hF⟩ := yS hF
 refine xE [2, 3, 4, 5, 6, 7, 8, 9, 10, 11, 12, 13, 14, 15, 16, 17, 18, 19, 20, 21, 22, 23, 24, 25, 26, 27, 28, 29, 30, 31, 32, 33, 34, 35, 36, 37, 38, 39, 40, 41, 42, 43, 44, 45, 46, 47, 48, 49, 50, 51, 52, 53, 54, 55, 56, 57, 58, 59, 60, 61, 62, 63, 64, 65] (fun (g : Nat × Int) => []) (fun g wl => Hd O w wl S [.own Rp.str v2 9 p0.r.Phases, .own rMoveT v3 122 p0.r.Moves, .own rRule v4 95 p0.r.Rules, .blk b1 [.string (bs p0.text), .int .i64 g.2, .int .i64 p0.now.kind, .int .i64 p0.now.at_, .int .i64 p0.now.n, .string (bs p0.now.text), v2, v3, v4] 109] ∧ loopN B114 g.1 g.2 = some r) (fun g => g.1) (n115, p0.at_) zL ⟨H.pick [0, 1, 2, 3] (by decide), hF⟩ ?_
 clear H hF
 rintro ⟨n115, g113⟩ ρ w118 ⟨H, hF⟩
 obtain ⟨n119, rfl, hF⟩ := yX hF
 have hF := yY eB116 hF
 refine zC fun K129 hK129 => ?_
 refine zC fun K130 hK130 => ?_
 have H131 := H
 have H := H.rebase
 have H132 := H
 refine WP_mix0 H [0, 1, 2, 3, 4, 5, 6, 7, 8, 9] [.pure, .pure, .pure, .read, .pure, .pure, .pure, .read, .pure, .pure] mixed (by kernel_rfl) (by kernel_rfl) (by kernel_rfl) rfl ?_
 refine Mx.yD rfl rfl rfl (fun w' hw' => xK (v := .pointer (some ⟨b1, 0, none⟩)) rfl) ?_
 refine Mx.yD rfl rfl rfl (fun w' hw' => yM rfl) ?_
 refine Mx.yD rfl rfl rfl (fun w' hw' => fa109_1 rfl) ?_
 refine Mx.xO oS rfl rfl rfl (fun w' hw' => zO one3 rfl (Cells.get (Blk.cells ((H.sees hw').item (i := 3) rfl)) (i := 1) rfl)) ?_
 refine Mx.yD rfl rfl rfl (fun w' hw' => xK (v := .pointer (some ⟨b1, 0, none⟩)) rfl) ?_
 refine Mx.yD rfl rfl rfl (fun w' hw' => yM rfl) ?_
 refine Mx.yD rfl rfl rfl (fun w' hw' => fa109_0 rfl) ?_
 refine Mx.xO oS rfl rfl rfl (fun w' hw' => zO one9 rfl (Cells.get (Blk.cells ((H.sees hw').item (i := 3) rfl)) (i := 0) rfl)) ?_
 obtain ⟨x133, e134, hF⟩ := zF hF
 refine Mx.yD rfl rfl rfl (fun w' hw' => yN (Do_slen (s1 := p0.text) u9 rfl) (congrArg (Value.int .i64) e134)) ?_
 obtain ⟨x135, e136, hF⟩ := zF hF
 refine Mx.yD rfl rfl rfl (fun w' hw' => zM (xI (a := g113) (b := x133) rfl rfl) e136) ?_
 refine Mx.XL_nil fun w137 hS => ?_
 have H := H.sees hS
 have H := H131.rejoin H
 refine (zA (hK130 _ _ ?_))
 refine yA (b := x135) rfl (fun c138 => ?_) (fun c138 => ?_)
 ·have hF := zQ c138 hF
  refine (zX (zA (hK129 _ _ ?_)))
  refine yG ?_
  refine zC fun K139 hK139 => ?_
  have H140 := H
  have H := H.rebase
  have H141 := H
  refine WP_mix0 H [0, 1, 2, 3, 4, 5, 6, 7, 8] [.pure, .pure, .pure, .read, .pure, .pure, .pure, .read, .pure] mixed (by kernel_rfl) (by kernel_rfl) (by kernel_rfl) rfl ?_
  refine Mx.yD rfl rfl rfl (fun w' hw' => xK (v := .pointer (some ⟨b1, 0, none⟩)) rfl) ?_
  refine Mx.yD rfl rfl rfl (fun w' hw' => yM rfl) ?_
  refine Mx.yD rfl rfl rfl (fun w' hw' => fa109_0 rfl) ?_
  refine Mx.xO oS rfl rfl rfl (fun w' hw' => zO one9 rfl (Cells.get (Blk.cells ((H.sees hw').item (i := 3) rfl)) (i := 0) rfl)) ?_
  refine Mx.yD rfl rfl rfl (fun w' hw' => xK (v := .pointer (some ⟨b1, 0, none⟩)) rfl) ?_
  refine Mx.yD rfl rfl rfl (fun w' hw' => yM rfl) ?_
  refine Mx.yD rfl rfl rfl (fun w' hw' => fa109_1 rfl) ?_
  refine Mx.xO oS rfl rfl rfl (fun w' hw' => zO one3 rfl (Cells.get (Blk.cells ((H.sees hw').item (i := 3) rfl)) (i := 1) rfl)) ?_
  obtain ⟨x142, e143, hF⟩ := zG hF
  refine Mx.yD rfl rfl rfl (fun w' hw' => Do_sidx (s1 := p0.text) (q := g113) u9 rfl rfl e143) ?_
  refine Mx.XL_nil fun w144 hS => ?_
  have H := H.sees hS
  have H := H140.rejoin H
  refine (zA (hK139 _ _ ?_))
  refine yG ?_
  obtain ⟨g159, hF, hK161⟩ := zG hF
  refine yL [22, 23, 24, 25, 26] (fun (g : Unit) => [(22, .bool g159)]) (fun g wl => Hd O w wl S [.own Rp.str v2 9 p0.r.Phases, .own rMoveT v3 122 p0.r.Moves, .own rRule v4 95 p0.r.Rules, .blk b1 [.string (bs p0.text), .int .i64 g113, .int .i64 p0.now.kind, .int .i64 p0.now.at_, .int .i64 p0.now.n, .string (bs p0.now.text), v2, v3, v4] 109]) ?_ ?_
  ·skip
   refine zC fun K162 hK162 => ?_
   refine zB ?_
   obtain ⟨x163, e164, hF⟩ := zF hF
   refine zH (zM (yR (a := x142) (b := 32) rfl rfl) e164) ?_
   refine zI (.bool x163) ?_
   refine (zD (zA (hK162 _ _ ?_)))
   refine yA (b := x163) rfl (fun c165 => ?_) (fun c165 => ?_)
   ·have hF := zQ c165 hF
    obtain rfl := someI hF
    exact (zX (zA (meet ⟨(), (zJ rfl zL), H.pick [0, 1, 2, 3] (by decide)⟩)))
   have hF := zS c165 hF
   refine zC fun K166 hK166 => ?_
   refine zB ?_
   obtain ⟨x167, e168, hF⟩ := zF hF
   refine zH (zM (yR (a := x142) (b := 9) rfl rfl) e168) ?_
   refine zI (.bool x167) ?_
   refine (zD (zA (hK166 _ _ ?_)))
   obtain ⟨c169, hF⟩ := xZ hF
   refine WP_ifF c169 ?_
   refine zC fun K170 hK170 => ?_
   refine zB ?_
   obtain ⟨x171, e172, hF⟩ := zF hF
   refine zH (zM (yR (a := x142) (b := 10) rfl rfl) e172) ?_
   refine zI (.bool x171) ?_
   refine (zD (zA (hK170 _ _ ?_)))
   obtain ⟨c173, hF⟩ := xZ hF
   refine WP_ifF c173 ?_
   refine zB ?_
   obtain ⟨x174, e175, hF⟩ := zF hF
   refine zH (zM (yR (a := x142) (b := 13) rfl rfl) e175) ?_
   refine zI (.bool x174) ?_
   obtain rfl := someI hF
   exact (zD (zA (meet ⟨(), (zJ rfl zL), H.pick [0, 1, 2, 3] (by decide)⟩)))
  rintro _ ρ w160 H
  have hF := hK161
  refine yA (b := g159) rfl (fun c176 => ?_) (fun c176 => ?_)
  ·have hF := zQ c176 hF
   refine zB ?_
   refine zK (.pointer (some ⟨b1, 0, none⟩)) ?_
   refine zH (yM rfl) ?_
   refine zH (fa109_1 rfl) ?_
   refine zH (zO one3 rfl (Cells.get (Blk.cells (H.item (i := 3) rfl)) (i := 1) rfl)) ?_
   obtain ⟨x177, e178, hF⟩ := zF hF
   refine zH (xP (a := g113) (b := 1) rfl rfl e178) ?_
   refine zH (yM rfl) ?_
   refine zH (fa109_1 rfl) ?_
   refine xH rfl (wH H 3 rfl sz3 rfl (v := .int .i64 x177) rfl rfl rfl) ?_
   rintro w179 H
   exact (zD (yT (yT (zA (meet ⟨(n119, x177), zL, ⟨H.pick [0, 1, 2, 3] (by decide), hF⟩, Nat.lt_succ_self _⟩)))))
  have hF := zS c176 hF
  refine zC fun K180 hK180 => ?_
  refine zB ?_
  obtain ⟨x181, e182, hF⟩ := zF hF
  refine zH (zM (yR (a := x142) (b := 35) rfl rfl) e182) ?_
  refine zI (.bool x181) ?_
  refine (zD (zA (hK180 _ _ ?_)))
  obtain ⟨c183, hF⟩ := xZ hF
  refine WP_ifF c183 ?_
  obtain rfl := someI hF
  refine (yB (yE (yE (zW (yE (post0 rfl ?_))))))
  exact ⟨v2, v3, v4, rfl, H.pick [0, 1, 2, 3] (by decide)⟩
 have hF := zS c138 hF
 obtain rfl := someI hF
 refine (xJ (yO (yO (xB (post0n rfl ?_)))))
 exact ⟨v2, v3, v4, rfl, H.pick [0, 1, 2, 3] (by decide)⟩
set_option maxHeartbeats 4000000 in
theorem F_internal_stringslite_HasPrefix_w (p0 : Str) (p1 : Str) (r : Bool) (hF : F_internal_stringslite_HasPrefix p0 p1 = some r) (O S : List Nat) (w : World) (H : Hd O w w S []) :
  Calls Tryz.prog 215 ([.string (bs p0), .string (bs p1)] : List Value).toArray w fun e w' => e = .returned (.bool r) ∧ Hd O w w' S [] := by
 unfold F_internal_stringslite_HasPrefix at hF
 refine zY 18 Tryz.func215 rfl rfl rfl ?_
 refine zC fun K1 hK1 => ?_
 refine zB ?_
 refine zI (.bool false) ?_
 refine (zD (zA (hK1 _ _ ?_)))
 obtain ⟨g15, hF, hK17⟩ := zG hF
 refine yL [4, 5, 6, 7, 8, 9, 10, 11, 12, 13, 14, 15, 16, 17] (fun (g : Unit) => [(4, .bool g15)]) (fun g wl => Hd O w wl S []) ?_ ?_
 ·skip
  refine zB ?_
  refine zK (.string (bs p0)) ?_
  obtain ⟨x18, e19, hF⟩ := zF hF
  refine zH (yN (Do_slen (s1 := p0) u9 rfl) (congrArg (Value.int .i64) e19)) ?_
  refine zK (.string (bs p1)) ?_
  obtain ⟨x20, e21, hF⟩ := zF hF
  refine zH (yN (Do_slen (s1 := p1) u9 rfl) (congrArg (Value.int .i64) e21)) ?_
  obtain ⟨x22, e23, hF⟩ := zF hF
  refine zH (zM (Do_geq (a := x18) (b := x20) rfl rfl) e23) ?_
  refine yK (b := x22) rfl rfl rfl (fun c24 => ?_) (fun c24 => ?_)
  ·have hF := zQ c24 hF
   refine zK (.string (bs p0)) ?_
   refine zK (.string (bs p1)) ?_
   obtain ⟨x25, e26, hF⟩ := zF hF
   refine zH (yN (Do_slen (s1 := p1) u9 rfl) (congrArg (Value.int .i64) e26)) ?_
   obtain ⟨x27, e28, hF⟩ := zG hF
   refine zH (Do_cut_h (s1 := p0) u9 rfl rfl e28) ?_
   refine zK (.string (bs p1)) ?_
   obtain ⟨x29, e30, hF⟩ := zF hF
   refine zH (zM (xW (s1 := x27) (s2 := p1) rfl rfl) e30) ?_
   refine zH (yI (v := .bool x29) rfl rfl) ?_
   refine zI (.bool x29) ?_
   obtain rfl := someI hF
   exact (zD (zA (meet ⟨(), (zJ rfl zL), H.pick [] (by decide)⟩)))
  have hF := zS c24 hF
  refine yC ?_
  refine yC ?_
  refine yC ?_
  refine yC ?_
  refine yC ?_
  refine yC ?_
  refine zH (yF (v := .bool false) rfl rfl) ?_
  refine zI (.bool false) ?_
  obtain rfl := someI hF
  exact (zD (zA (meet ⟨(), (zJ rfl zL), H.pick [] (by decide)⟩)))
 rintro _ ρ w16 H
 have hF := hK17
 obtain rfl := someI hF
 refine (yB (post1 (v1 := .bool g15) rfl rfl ?_))
 exact ⟨rfl, H.pick [] (by decide)⟩
set_option maxHeartbeats 4000000 in
theorem F_internal_stringslite_TrimPrefix_w (p0 : Str) (p1 : Str) (r : Str) (hF : F_internal_stringslite_TrimPrefix p0 p1 = some r) (O S : List Nat) (w : World) (H : Hd O w w S []) :
  Calls Tryz.prog 257 ([.string (bs p0), .string (bs p1)] : List Value).toArray w fun e w' => e = .returned (.string (bs r)) ∧ Hd O w w' S [] := by
 unfold F_internal_stringslite_TrimPrefix at hF
 refine zY 13 Tryz.func257 rfl rfl rfl ?_
 refine zC fun K1 hK1 => ?_
 refine zB ?_
 refine zI (.string (bs [])) ?_
 refine (zD (zA (hK1 _ _ ?_)))
 refine zC fun K9 hK9 => ?_
 refine zC fun K10 hK10 => ?_
 refine zB ?_
 refine zK (.string (bs p0)) ?_
 refine zK (.string (bs p1)) ?_
 have H11 := H
 obtain ⟨x12, e13, hF⟩ := zG hF
 refine zZ rfl rfl (zT en215 rfl) (F_internal_stringslite_HasPrefix_w p0 p1 _ e13 _ _ _ (H.enter [] [] (by decide) rfl)) ?_
 rintro _ w14 ⟨rfl, G15⟩
 have H := H11.step (G15.only : Only [] _ _)
 refine ⟨_, rfl, ?_⟩
 refine (zD (zA (hK10 _ _ ?_)))
 obtain ⟨c16, hF⟩ := xZ hF
 refine WP_ifF c16 ?_
 refine (zX (zA (hK9 _ _ ?_)))
 refine zC fun K17 hK17 => ?_
 refine zB ?_
 refine zK (.string (bs p0)) ?_
 refine zI (.string (bs p0)) ?_
 refine (zD (zA (hK17 _ _ ?_)))
 obtain rfl := someI hF
 refine (yB (post1 (v1 := .string (bs p0)) rfl rfl ?_))
 exact ⟨rfl, H.pick [] (by decide)⟩
set_option maxHeartbeats 4000000 in
theorem F_strings_TrimPrefix_w (p0 : Str) (p1 : Str) (r : Str) (hF : F_strings_TrimPrefix p0 p1 = some r) (O S : List Nat) (w : World) (H : Hd O w w S []) :
  Calls Tryz.prog 214 ([.string (bs p0), .string (bs p1)] : List Value).toArray w fun e w' => e = .returned (.string (bs r)) ∧ Hd O w w' S [] := by
 unfold F_strings_TrimPrefix at hF
 refine zY 8 Tryz.func214 rfl rfl rfl ?_
 refine zC fun K1 hK1 => ?_
 refine zB ?_
 refine zI (.string (bs [])) ?_
 refine (zD (zA (hK1 _ _ ?_)))
 refine zC fun K2 hK2 => ?_
 refine zB ?_
 refine zK (.string (bs p0)) ?_
 refine zK (.string (bs p1)) ?_
 have H3 := H
 obtain ⟨x4, e5, hF⟩ := zG hF
 refine zZ rfl rfl (zT en257 rfl) (F_internal_stringslite_TrimPrefix_w p0 p1 _ e5 _ _ _ (H.enter [] [] (by decide) rfl)) ?_
 rintro _ w6 ⟨rfl, G7⟩
 have H := H3.step (G7.only : Only [] _ _)
 refine ⟨_, rfl, ?_⟩
 refine zI (.string (bs x4)) ?_
 refine (zD (zA (hK2 _ _ ?_)))
 obtain rfl := someI hF
 refine (yB (post1 (v1 := .string (bs x4)) rfl rfl ?_))
 exact ⟨rfl, H.pick [] (by decide)⟩
end Go.Proofs.YtckmiljbaejijaaGreatDoor.L
