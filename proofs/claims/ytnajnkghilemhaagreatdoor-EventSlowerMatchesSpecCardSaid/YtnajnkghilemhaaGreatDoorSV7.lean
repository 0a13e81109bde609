/- Walks: what each function computes, for every argument; no condition but those that stand in the statements. -/
import Derived.Test.YtnajnkghilemhaaGreatDoorSV0
import Derived.Test.YtnajnkghilemhaaGreatDoorSV6
import Derived.Test.YtnajnkghilemhaaGreatDoorSV2
import Derived.Test.YtnajnkghilemhaaGreatDoorSV3
import Derived.Test.YtnajnkghilemhaaGreatDoorSV5
namespace Go.Proofs.YtnajnkghilemhaaGreatDoor.L
open Go.RowKit Go.OB Go.Lf
set_option maxHeartbeats 4000000 in
theorem F_event_copyCond_B_w (rfO : Cond → Option Cond) (rhO : S_event_copyCond rfO) (p0 : Cond) (v1 : Value) (r : Cond) (hF : F_event_copyCond_B rfO p0 = some r) (O S : List Nat) (w : World) (H : Hd O w w S [.fz (.sl rCond v1 p0.Kids)]) :
  Calls Tryz.prog 66 ([.agg [.int .i64 p0.Kind, .string (bs p0.Name), .string (bs p0.Other), .int .i64 p0.Op, .int .i64 p0.N, .int .i64 p0.Frames, v1].toArray] : List Value).toArray w fun e w' => ∃ u3, e = .returned (.agg [.int .i64 r.Kind, .string (bs r.Name), .string (bs r.Other), .int .i64 r.Op, .int .i64 r.N, .int .i64 r.Frames, u3].toArray) ∧ Hd O w w' S [.fz (.sl rCond u3 r.Kids)] := by
 unfold F_event_copyCond_B at hF
 refine yC 22 Tryz.func66 rfl rfl rfl ?_
 refine zC fun K4 hK4 => ?_
 refine zB ?_
 refine yT rfl rfl (wL (cs := [.int .i64 p0.Kind, .string (bs p0.Name), .string (bs p0.Other), .int .i64 p0.Op, .int .i64 p0.N, .int .i64 p0.Frames, v1]) rfl H) ?_
 rintro _ w7 ⟨b5, rfl, H⟩
 refine yT rfl rfl (xG zero54 H) ?_
 rintro _ w10 ⟨b8, rfl, H⟩
 refine (zF (zA (hK4 _ _ ?_)))
 refine zC fun K11 hK11 => ?_
 refine zB ?_
 refine zI (.slice none 0 0) ?_
 refine (zF (zA (hK11 _ _ ?_)))
 obtain ⟨g190, hF, hK193⟩ := zD hF
 refine yO [3, 5, 6, 7, 8, 9, 10, 11, 12, 13, 14, 15, 16, 17, 18] (fun (g : Value) => [(3, g)]) (fun g wl => Hd O w wl S [.own rCond g 54 g190, .fz (.sl rCond v1 p0.Kids), .blk b5 [.int .i64 p0.Kind, .string (bs p0.Name), .string (bs p0.Other), .int .i64 p0.Op, .int .i64 p0.N, .int .i64 p0.Frames, v1] 54, .blk b8 [.int .i64 0, .string (bs []), .string (bs []), .int .i64 0, .int .i64 0, .int .i64 0, .slice none 0 0] 54]) ?_ ?_
 ·skip
  refine zC fun K194 hK194 => ?_
  refine zB ?_
  refine zH (fa54_6 rfl) ?_
  refine zH (zM one52 rfl (Cells.get (Blk.cells (H.item (i := 1) rfl)) (i := 6) rfl)) ?_
  obtain ⟨x195, e196, hF⟩ := zG hF
  obtain ⟨a197, c198, q199⟩ := SlF.len ((H.item (i := 0) rfl))
  refine zH (yL (xW u52 q199) (congrArg (Value.int .i64) e196)) ?_
  refine zN (.int .i64 0) ?_
  refine (zF (zA (hK194 _ _ ?_)))
  refine yF ?_
  have H := own_nil H rCond 54
  unfold F_event_copyCond_B_L1 at hF
  obtain ⟨B369, n370, eB371, hF⟩ := yV hF
  refine xJ [3, 5, 9, 10, 11, 12, 13, 14, 15, 16, 17, 18] (fun (g : Nat × (List Cond) × Int × Value) => [(3, g.2.2.2), (9, .int .i64 g.2.2.1)]) (fun g wl => Hd O w wl S [.own rCond g.2.2.2 54 g.2.1, .fz (.sl rCond v1 p0.Kids), .blk b5 [.int .i64 p0.Kind, .string (bs p0.Name), .string (bs p0.Other), .int .i64 p0.Op, .int .i64 p0.N, .int .i64 p0.Frames, v1] 54, .blk b8 [.int .i64 0, .string (bs []), .string (bs []), .int .i64 0, .int .i64 0, .int .i64 0, .slice none 0 0] 54] ∧ loopN B369 g.1 (g.2.1, g.2.2.1) = some g190) (fun g => g.1) (n370, [], 0, .slice none 0 0) (zL rfl (zL rfl zO)) ⟨H.pick [3, 0, 1, 2] (by decide), hF⟩ ?_
  clear H hF
  rintro ⟨n370, g365, g367, v366⟩ ρ w373 ⟨H, hF⟩
  obtain ⟨n374, rfl, hF⟩ := xB hF
  have hF := yZ eB371 hF
  refine zC fun K375 hK375 => ?_
  refine zB ?_
  obtain ⟨x376, e377, hF⟩ := zG hF
  refine zH (zV (xQ (a := g367) (b := x195) rfl rfl) e377) ?_
  refine (zF (zA (hK375 _ _ ?_)))
  refine zC fun K379 hK379 => ?_
  refine zZ (b := x376) rfl (fun c380 => ?_) (fun c380 => ?_)
  ·have hF := zQ c380 hF
   refine (yA (zA (hK379 _ _ ?_)))
   refine zC fun K416 hK416 => ?_
   refine yF ?_
   refine zC fun K417 hK417 => ?_
   refine zB ?_
   obtain ⟨x418, e419, hF⟩ := zD hF
   obtain ⟨b420, o421, c422, cs423, q424, h427, h425, h426, h428⟩ := wQ (H.item (i := 1) rfl) e419
   obtain ⟨v429, rfl, h430⟩ := wK h427
   have H := H.fzs [.at b420 (o421 + g367.toNat * 7) _, .sl rCond v429 x418.Kids] ⟨⟨h425, h426, h428⟩, h430, trivial⟩
   refine zH (xY u52 sz54 q424 rfl (yN e419).1 (yN e419).2.1 rfl rfl) ?_
   refine zH (yL (yH (cs := [.int .i64 x418.Kind, .string (bs x418.Name), .string (bs x418.Other), .int .i64 x418.Op, .int .i64 x418.N, .int .i64 x418.Frames, v429]) agg54 rfl sz54 rfl (H.item (i := 4) rfl).2.2) rfl) ?_
   refine yT rfl rfl (xG zero54 H) ?_
   rintro _ w435 ⟨b433, rfl, H⟩
   refine yS rfl (yI (vs := [.int .i64 x418.Kind, .string (bs x418.Name), .string (bs x418.Other), .int .i64 x418.Op, .int .i64 x418.N, .int .i64 x418.Frames, v429]) H 6 rfl sz54 rfl rfl rfl ⟨rfl, rfl, rfl, rfl, rfl, rfl, (xR (H.item (i := 5) rfl)), trivial⟩ rfl) ?_
   rintro w436 H
   refine (zF (zA (hK417 _ _ ?_)))
   refine zB ?_
   refine zN v366 ?_
   refine zH (yL (yH (cs := [.int .i64 x418.Kind, .string (bs x418.Name), .string (bs x418.Other), .int .i64 x418.Op, .int .i64 x418.N, .int .i64 x418.Frames, v429]) agg54 rfl sz54 rfl (Blk.cells (H.item (i := 6) rfl))) rfl) ?_
   obtain ⟨x437, e438, hF⟩ := zD hF
   refine zW rfl rfl (zT en66 rfl) (rhO x418 v429 _ e438 _ _ _ (H.enter [] [5] (by decide) rfl)) ?_
   rintro _ w441 ⟨v439, rfl, G442⟩
   have H := H.back1 [5] rfl G442
   refine ⟨_, rfl, ?_⟩
   obtain ⟨x443, e444, hF⟩ := zG hF
   subst e444
   refine yT rfl rfl (Lx_bs (r := rCond) (xl := [x437]) (cs := [.int .i64 x437.Kind, .string (bs x437.Name), .string (bs x437.Other), .int .i64 x437.Op, .int .i64 x437.N, .int .i64 x437.Frames, v439]) u52 el54 (by decide) (by decide) rfl (xK (vs := [.agg [.int .i64 x437.Kind, .string (bs x437.Name), .string (bs x437.Other), .int .i64 x437.Op, .int .i64 x437.N, .int .i64 x437.Frames, v439].toArray]) (by decide) rfl rfl ⟨rfl, trivial⟩ rfl) H ⟨[.int .i64 x437.Kind, .string (bs x437.Name), .string (bs x437.Other), .int .i64 x437.Op, .int .i64 x437.N, .int .i64 x437.Frames, v439], [], rfl, (rCond_mk (x := x437) (H.item (i := 7) rfl)), rfl⟩) ?_
   rintro v446 w447 H
   obtain ⟨x448, e449, hF⟩ := zD hF
   refine yT rfl rfl (Lx_app H (i := 0) rfl u52 el54 rfl rfl (Sr.of_own (H.item (i := 8) rfl)) e449) ?_
   rintro v450 w451 H
   refine zI v450 ?_
   refine (zF (yU (zA (hK416 _ _ ?_))))
   refine zB ?_
   obtain ⟨x452, e453, hF⟩ := zG hF
   refine zH (xX (a := g367) (b := 1) rfl rfl e453) ?_
   refine zN (.int .i64 x452) ?_
   exact (zF (zA (meet ⟨(n374, x448, x452, v450), (zL rfl (zL rfl zO)), ⟨H.pick [0, 1, 2, 3] (by decide), hF⟩, Nat.lt_succ_self _⟩)))
  have hF := zS c380 hF
  obtain rfl := someI hF
  exact (xP (yR (yR (xA (zA (meet ⟨v366, (zL rfl zO), H.pick [0, 1, 2, 3] (by decide)⟩))))))
 rintro v191 ρ w192 H
 have hF := hK193
 refine zC fun K454 hK454 => ?_
 refine zB ?_
 refine zN v191 ?_
 refine zH (fa54_6 rfl) ?_
 refine yS rfl (xM H 2 rfl sz52 rfl (v := v191) rfl (xU (H.item (i := 0) rfl)) rfl) ?_
 rintro w455 H
 refine (zF (zA (hK454 _ _ ?_)))
 refine zC fun K456 hK456 => ?_
 refine zB ?_
 refine zH (yL (yH (cs := [.int .i64 p0.Kind, .string (bs p0.Name), .string (bs p0.Other), .int .i64 p0.Op, .int .i64 p0.N, .int .i64 p0.Frames, v191]) agg54 rfl sz54 rfl (Blk.cells (H.item (i := 2) rfl))) rfl) ?_
 refine yS rfl (yI (vs := [.int .i64 p0.Kind, .string (bs p0.Name), .string (bs p0.Other), .int .i64 p0.Op, .int .i64 p0.N, .int .i64 p0.Frames, v191]) H 3 rfl sz54 rfl rfl rfl ⟨rfl, rfl, rfl, rfl, rfl, rfl, (xU (H.item (i := 0) rfl)), trivial⟩ rfl) ?_
 rintro w457 H
 refine (zF (zA (hK456 _ _ ?_)))
 have H := H.freeze (i := 0) rfl
 obtain rfl := someI hF
 refine (yB (postc  rfl rfl (yD agg54 sz54 rfl (Blk.cells (H.item (i := 3) rfl))) ?_))
 exact ⟨v191, rfl, H.pick [0] (by decide)⟩
theorem F_event_copyCond_s : S_event_copyCond (F_event_copyCond) := by
 have h : ∀ n, S_event_copyCond (F_event_copyCond_R n) := by
  intro n
  induction n with
  | zero => intro p0 v1 r hF; cases hF
  | succ n ih => intro p0 v1 r hF; exact F_event_copyCond_B_w (F_event_copyCond_R n) ih p0 v1 r hF
 exact h FU
set_option maxHeartbeats 4000000 in
set_option maxRecDepth 100000 in
theorem F_event_Merge_w (p0 : Rules) (p1 : Rules) (v1 : Value) (v2 : Value) (v3 : Value) (v7 : Value) (v8 : Value) (v9 : Value) (r : Rules × Int) (hF : F_event_Merge p0 p1 = some r) (O S : List Nat) (w : World) (H : Hd O w w S [.fz (.sl Rp.str v1 p0.Phases), .fz (.sl rMoveT v2 p0.Moves), .fz (.sl rRule v3 p0.Rules), .fz (.sl Rp.str v7 p1.Phases), .fz (.sl rMoveT v8 p1.Moves), .fz (.sl rRule v9 p1.Rules)]) :
  Calls Tryz.prog 23 ([.agg [v1, v2, v3].toArray, .agg [v7, v8, v9].toArray] : List Value).toArray w fun e w' => ∃ u13 u14 u15, e = .returned (.tuple #[.agg [u13, u14, u15].toArray, .int .i64 r.2]) ∧ Hd O w w' S [.fz (.sl Rp.str u13 r.1.Phases), .fz (.sl rMoveT u14 r.1.Moves), .fz (.sl rRule u15 r.1.Rules)] := by
 unfold F_event_Merge at hF
 refine yC 94 Tryz.func23 rfl rfl rfl ?_
 refine zC fun K16 hK16 => ?_
 refine zB ?_
 refine yT rfl rfl (wL (cs := [v1, v2, v3]) rfl H) ?_
 rintro _ w19 ⟨b17, rfl, H⟩
 refine yT rfl rfl (wL (cs := [v7, v8, v9]) rfl H) ?_
 rintro _ w22 ⟨b20, rfl, H⟩
 refine yT rfl rfl (xG zero26 H) ?_
 rintro _ w25 ⟨b23, rfl, H⟩
 refine zI (.int .i64 0) ?_
 refine (zF (zA (hK16 _ _ ?_)))
 refine zC fun K26 hK26 => ?_
 refine zB ?_
 refine yT rfl rfl (xG zero26 H) ?_
 rintro _ w29 ⟨b27, rfl, H⟩
 refine (zF (zA (hK26 _ _ ?_)))
 obtain ⟨k2533, ek2534, hF⟩ := xZ hF
 refine yO [5, 8, 9, 11, 13, 15, 17, 18, 19, 20, 21, 22, 23, 24, 25, 26, 27, 28, 29, 30, 31, 32, 33, 34, 35, 36, 37, 38, 39, 40, 41, 42, 43, 44, 45, 46, 47, 48, 49, 50, 51, 52, 53, 54, 55, 56, 57, 58, 59, 60, 61, 62, 63, 64, 65, 66, 67, 68, 69, 70, 71, 72, 73, 74, 75, 76, 77, 78, 79, 80, 81, 82, 83, 84, 85, 86] (fun (g : (List Str) × (List MoveT) × (List Rule) × Value × Value × Value) => []) (fun g wl => Hd O w wl S [.blk b23 [.slice none 0 0, .slice none 0 0, .slice none 0 0] 26, .blk b27 [g.2.2.2.1, g.2.2.2.2.1, g.2.2.2.2.2] 26, .own Rp.str g.2.2.2.1 9 g.1, .own rMoveT g.2.2.2.2.1 102 g.2.1, .own rRule g.2.2.2.2.2 106 g.2.2.1] ∧ k2533 (g.1, g.2.1, g.2.2.1) = some r) ?_ ?_
 ·skip
  refine zC fun K2535 hK2535 => ?_
  refine zB ?_
  refine zH (yL (yH (cs := [v1, v2, v3]) agg26 rfl sz26 rfl (Blk.cells (H.item (i := 6) rfl))) rfl) ?_
  refine zH (yL (yH (cs := [v7, v8, v9]) agg26 rfl sz26 rfl (Blk.cells (H.item (i := 7) rfl))) rfl) ?_
  obtain ⟨x2536, e2537, hF⟩ := zG hF
  subst e2537
  refine yT rfl rfl (Lx_bs (r := rRules) (xl := [p0, p1]) (cs := [v1, v2, v3, v7, v8, v9]) u126 el26 (by decide) (by decide) rfl (xK (vs := [.agg [v1, v2, v3].toArray, .agg [v7, v8, v9].toArray]) (by decide) rfl rfl ⟨rfl, rfl, trivial⟩ rfl) H ⟨[v1, v2, v3], [v7, v8, v9], rfl, (rRules_mk (x := p0) (H.item (i := 0) rfl) (H.item (i := 1) rfl) (H.item (i := 2) rfl)), ⟨[v7, v8, v9], [], rfl, (rRules_mk (x := p1) (H.item (i := 3) rfl) (H.item (i := 4) rfl) (H.item (i := 5) rfl)), rfl⟩⟩) ?_
  rintro v2539 w2540 H
  obtain ⟨x2541, e2542, hF⟩ := zG hF
  obtain ⟨a2543, c2544, q2545⟩ := Sr.len (Sr.of_own (H.item (i := 10) rfl))
  refine zH (yL (xW u126 q2545) (congrArg (Value.int .i64) e2542)) ?_
  refine zN (.int .i64 0) ?_
  refine (zF (zA (hK2535 _ _ ?_)))
  refine yF ?_
  have H := own_nil H Rp.str 9
  have H := own_nil H rMoveT 102
  have H := own_nil H rRule 106
  unfold F_event_Merge_L1 at hF
  obtain ⟨B5032, n5033, eB5034, hF⟩ := yV hF
  refine xJ [5, 8, 9, 11, 13, 15, 21, 22, 23, 24, 25, 26, 27, 28, 29, 30, 31, 32, 33, 34, 35, 36, 37, 38, 39, 40, 41, 42, 43, 44, 45, 46, 47, 48, 49, 50, 51, 52, 53, 54, 55, 56, 57, 58, 59, 60, 61, 62, 63, 64, 65, 66, 67, 68, 69, 70, 71, 72, 73, 74, 75, 76, 77, 78, 79, 80, 81, 82, 83, 84, 85, 86] (fun (g : Nat × Int × (List Str) × (List MoveT) × (List Rule) × Value × Value × Value) => [(21, .int .i64 g.2.1)]) (fun g wl => Hd O w wl S [.blk b23 [.slice none 0 0, .slice none 0 0, .slice none 0 0] 26, .blk b27 [g.2.2.2.2.2.1, g.2.2.2.2.2.2.1, g.2.2.2.2.2.2.2] 26, .own Rp.str g.2.2.2.2.2.1 9 g.2.2.1, .own rMoveT g.2.2.2.2.2.2.1 102 g.2.2.2.1, .own rRule g.2.2.2.2.2.2.2 106 g.2.2.2.2.1, .own rRules v2539 26 ([p0, p1] : List Rules)] ∧ loopN B5032 g.1 (g.2.1, g.2.2.1, g.2.2.2.1, g.2.2.2.2.1) = some r) (fun g => g.1) (n5033, 0, [], [], [], .slice none 0 0, .slice none 0 0, .slice none 0 0) (zL rfl zO) ⟨H.pick [8, 9, 11, 12, 13, 10] (by decide), hF⟩ ?_
  clear H hF
  rintro ⟨n5033, g5019, g5021, g5024, g5027, v5022, v5025, v5028⟩ ρ w5036 ⟨H, hF⟩
  obtain ⟨n5037, rfl, hF⟩ := xB hF
  have hF := yZ eB5034 hF
  refine zC fun K5038 hK5038 => ?_
  refine zB ?_
  obtain ⟨x5039, e5040, hF⟩ := zG hF
  refine zH (zV (xQ (a := g5019) (b := x2541) rfl rfl) e5040) ?_
  refine (zF (zA (hK5038 _ _ ?_)))
  refine zC fun K5042 hK5042 => ?_
  refine zZ (b := x5039) rfl (fun c5043 => ?_) (fun c5043 => ?_)
  ·have hF := zQ c5043 hF
   refine (yA (zA (hK5042 _ _ ?_)))
   obtain ⟨k5582, ek5583, hF⟩ := xZ hF
   refine yO [5, 8, 9, 11, 13, 15, 23, 24, 25, 26, 27, 28, 29, 30, 31, 32, 33, 34, 35, 36, 37, 38, 39, 40, 41, 42, 43, 44, 45, 46, 47, 48, 49, 50, 51, 52, 53, 54, 55, 56, 57, 58, 59, 60, 61, 62, 63, 64, 65, 66, 67, 68, 69, 70, 71, 72, 73, 74, 75, 76, 77, 78, 79, 80, 81, 82, 83, 84, 85] (fun (g : (List Str) × (List MoveT) × (List Rule) × Value × Value × Value) => []) (fun g wl => Hd O w wl S [.blk b23 [.slice none 0 0, .slice none 0 0, .slice none 0 0] 26, .blk b27 [g.2.2.2.1, g.2.2.2.2.1, g.2.2.2.2.2] 26, .own Rp.str g.2.2.2.1 9 g.1, .own rMoveT g.2.2.2.2.1 102 g.2.1, .own rRule g.2.2.2.2.2 106 g.2.2.1, .own rRules v2539 26 ([p0, p1] : List Rules)] ∧ k5582 (g.1, g.2.1, g.2.2.1) = some r) ?_ ?_
   ·skip
    refine yF ?_
    refine zC fun K5584 hK5584 => ?_
    refine zB ?_
    obtain ⟨x5585, e5586, hF⟩ := zD hF
    obtain ⟨b5587, c5589, cs5590, q5591, h5594, h5595⟩ := own_at (H.item (i := 5) rfl) e5586
    obtain ⟨v5596, v5597, v5598, rfl, h5599, h5600, h5601⟩ := rRules_open h5594
    have H := H.fzs [.sl Rp.str v5596 x5585.Phases, .sl rMoveT v5597 x5585.Moves, .sl rRule v5598 x5585.Rules] ⟨h5599, h5600, h5601, trivial⟩
    refine zH (xY u126 sz26 q5591 rfl (yN e5586).1 (yN e5586).2.1 rfl rfl) ?_
    refine zH (yL (yH (cs := [v5596, v5597, v5598]) agg26 rfl sz26 rfl h5595) rfl) ?_
    refine yT rfl rfl (xG zero26 H) ?_
    rintro _ w5607 ⟨b5605, rfl, H⟩
    refine yS rfl (yI (vs := [v5596, v5597, v5598]) H 9 rfl sz26 rfl rfl rfl ⟨(xR (H.item (i := 6) rfl)), (xR (H.item (i := 7) rfl)), (xR (H.item (i := 8) rfl)), trivial⟩ rfl) ?_
    rintro w5608 H
    refine (zF (zA (hK5584 _ _ ?_)))
    refine zC fun K5621 hK5621 => ?_
    refine zC fun K5622 hK5622 => ?_
    refine zB ?_
    refine zH (yL (yH (cs := [v5596, v5597, v5598]) agg26 rfl sz26 rfl (Blk.cells (H.item (i := 9) rfl))) rfl) ?_
    have H5623 := H
    obtain ⟨x5624, e5625, hF⟩ := zD hF
    refine zW rfl rfl (zT en40 rfl) (F_event_Check_w x5585 v5596 v5597 v5598 _ e5625 _ _ _ (H.enter [] [6, 7, 8] (by decide) rfl)) ?_
    rintro _ w5626 ⟨rfl, G5627⟩
    have H := H5623.step (G5627.only : Only [] _ _)
    refine ⟨_, rfl, ?_⟩
    refine zI (.int .i64 x5624) ?_
    refine (zF (zA (hK5622 _ _ ?_)))
    refine zC fun K5628 hK5628 => ?_
    refine zB ?_
    refine zN (.int .i64 x5624) ?_
    obtain ⟨x5629, e5630, hF⟩ := zG hF
    refine zH (zV (Do_neq (a := x5624) (b := 0) rfl rfl) e5630) ?_
    refine (zF (zA (hK5628 _ _ ?_)))
    refine zZ (b := x5629) rfl (fun c5631 => ?_) (fun c5631 => ?_)
    ·have hF := zQ c5631 hF
     refine zC fun K5632 hK5632 => ?_
     refine zB ?_
     refine zH (xN (cs := [.slice none 0 0, .slice none 0 0, .slice none 0 0]) bz26) ?_
     refine zN (.int .i64 x5624) ?_
     refine yS rfl (yI (vs := [.slice none 0 0, .slice none 0 0, .slice none 0 0]) H 0 rfl sz26 rfl rfl rfl ⟨rfl, rfl, rfl, trivial⟩ rfl) ?_
     rintro w5633 H
     refine zI (.int .i64 x5624) ?_
     refine (zF (zA (hK5632 _ _ ?_)))
     have H := H.fz (.sl Rp.str (.slice none 0 0) []) SlF.nil
     have H := H.fz (.sl rMoveT (.slice none 0 0) []) SlF.nil
     have H := H.fz (.sl rRule (.slice none 0 0) []) SlF.nil
     obtain rfl := someI hF
     refine (yB (zX (yE (zX (zX (yE (zX (postc1 (v1 := .int .i64 x5624) rfl rfl (yD agg26 sz26 rfl (Blk.cells (H.item (i := 0) rfl))) rfl ?_))))))))
     exact ⟨.slice none 0 0, .slice none 0 0, .slice none 0 0, rfl, H.pick [10, 11, 12] (by decide)⟩
    have hF := zS c5631 hF
    refine (yA (zA (hK5621 _ _ ?_)))
    obtain ⟨g5740, hF, hK5743⟩ := zD hF
    refine yO [11, 31, 32, 33, 34, 35, 36, 37, 38, 39, 40, 41, 42, 43, 44, 45, 46, 47, 48, 49] (fun (g : Value) => []) (fun g wl => Hd O w wl S [.blk b23 [.slice none 0 0, .slice none 0 0, .slice none 0 0] 26, .blk b27 [g, v5025, v5028] 26, .own Rp.str g 9 g5740, .own rMoveT v5025 102 g5024, .own rRule v5028 106 g5027, .own rRules v2539 26 ([p0, p1] : List Rules), .fz (.sl Rp.str v5596 x5585.Phases), .fz (.sl rMoveT v5597 x5585.Moves), .fz (.sl rRule v5598 x5585.Rules), .blk b5605 [v5596, v5597, v5598] 26]) ?_ ?_
    ·skip
     refine zC fun K5744 hK5744 => ?_
     refine zB ?_
     refine zH (fa26_0 rfl) ?_
     refine zH (zM one22 rfl (Cells.get (Blk.cells (H.item (i := 9) rfl)) (i := 0) rfl)) ?_
     obtain ⟨x5745, e5746, hF⟩ := zG hF
     obtain ⟨a5747, c5748, q5749⟩ := SlF.len ((H.item (i := 6) rfl))
     refine zH (yL (xW u22 q5749) (congrArg (Value.int .i64) e5746)) ?_
     refine zN (.int .i64 0) ?_
     refine (zF (zA (hK5744 _ _ ?_)))
     refine yF ?_
     unfold F_event_Merge_L2 at hF
     obtain ⟨B5844, n5845, eB5846, hF⟩ := yV hF
     refine xJ [11, 34, 35, 36, 37, 38, 39, 40, 41, 42, 43, 44, 45, 46, 47, 48, 49] (fun (g : Nat × Int × (List Str) × Value) => [(34, .int .i64 g.2.1)]) (fun g wl => Hd O w wl S [.blk b23 [.slice none 0 0, .slice none 0 0, .slice none 0 0] 26, .blk b27 [g.2.2.2, v5025, v5028] 26, .own Rp.str g.2.2.2 9 g.2.2.1, .own rMoveT v5025 102 g5024, .own rRule v5028 106 g5027, .own rRules v2539 26 ([p0, p1] : List Rules), .fz (.sl Rp.str v5596 x5585.Phases), .fz (.sl rMoveT v5597 x5585.Moves), .fz (.sl rRule v5598 x5585.Rules), .blk b5605 [v5596, v5597, v5598] 26] ∧ loopN B5844 g.1 (g.2.1, g.2.2.1) = some g5740) (fun g => g.1) (n5845, 0, g5021, v5022) (zL rfl zO) ⟨H.pick [0, 1, 2, 3, 4, 5, 6, 7, 8, 9] (by decide), hF⟩ ?_
     clear H hF
     rintro ⟨n5845, g5841, g5842, v5843⟩ ρ w5848 ⟨H, hF⟩
     obtain ⟨n5849, rfl, hF⟩ := xB hF
     have hF := yZ eB5846 hF
     refine zC fun K5850 hK5850 => ?_
     refine zB ?_
     obtain ⟨x5851, e5852, hF⟩ := zG hF
     refine zH (zV (xQ (a := g5841) (b := x5745) rfl rfl) e5852) ?_
     refine (zF (zA (hK5850 _ _ ?_)))
     refine zC fun K5854 hK5854 => ?_
     refine zZ (b := x5851) rfl (fun c5855 => ?_) (fun c5855 => ?_)
     ·have hF := zQ c5855 hF
      refine (yA (zA (hK5854 _ _ ?_)))
      obtain ⟨g5888, hF, hK5891⟩ := zD hF
      refine yO [11, 36, 37, 38, 39, 40, 41, 42, 43, 44, 45, 46, 47, 48] (fun (g : Value) => []) (fun g wl => Hd O w wl S [.blk b23 [.slice none 0 0, .slice none 0 0, .slice none 0 0] 26, .blk b27 [g, v5025, v5028] 26, .own Rp.str g 9 g5888, .own rMoveT v5025 102 g5024, .own rRule v5028 106 g5027, .own rRules v2539 26 ([p0, p1] : List Rules), .fz (.sl Rp.str v5596 x5585.Phases), .fz (.sl rMoveT v5597 x5585.Moves), .fz (.sl rRule v5598 x5585.Rules), .blk b5605 [v5596, v5597, v5598] 26]) ?_ ?_
      ·skip
       refine yF ?_
       refine zC fun K5892 hK5892 => ?_
       refine zB ?_
       obtain ⟨x5893, e5894, hF⟩ := zD hF
       obtain ⟨b5895, o5896, c5897, cs5898, q5899, h5902, h5900, h5901, h5903⟩ := wQ (H.item (i := 6) rfl) e5894
       obtain rfl : cs5898 = [.string (bs x5893)] := h5902
       have H := H.fz (.at b5895 (o5896 + g5841.toNat * 1) _) ⟨h5900, h5901, h5903⟩
       refine zH (xY u22 sz9 q5899 rfl (yN e5894).1 (yN e5894).2.1 rfl rfl) ?_
       refine zH (zM one9 rfl (Cells.get (H.item (i := 10) rfl).2.2 (i := 0) rfl)) ?_
       refine zI (.string (bs x5893)) ?_
       refine (zF (zA (hK5892 _ _ ?_)))
       refine zC fun K5905 hK5905 => ?_
       refine zB ?_
       refine zH (fa26_0 rfl) ?_
       refine zH (zM one22 rfl (Cells.get (Blk.cells (H.item (i := 1) rfl)) (i := 0) rfl)) ?_
       refine zN (.string (bs x5893)) ?_
       have H5906 := H
       have H := H.freeze (i := 2) rfl
       obtain ⟨x5907, e5908, hF⟩ := zD hF
       refine zW rfl rfl (zT en65 rfl) (F_slices_Contains___string_string__w g5842 x5893 v5843 _ e5908 _ _ _ (H.enter [] [2] (by decide) rfl)) ?_
       rintro _ w5909 ⟨rfl, G5910⟩
       have H := H5906.step (G5910.only : Only [] _ _)
       refine ⟨_, rfl, ?_⟩
       obtain ⟨x5911, e5912, hF⟩ := zG hF
       refine zH (zV (wO (p := x5907) rfl) e5912) ?_
       refine (zF (zA (hK5905 _ _ ?_)))
       refine zZ (b := x5911) rfl (fun c5913 => ?_) (fun c5913 => ?_)
       ·have hF := zQ c5913 hF
        refine zB ?_
        refine zH (fa26_0 rfl) ?_
        refine zH (zM one22 rfl (Cells.get (Blk.cells (H.item (i := 1) rfl)) (i := 0) rfl)) ?_
        refine zN (.string (bs x5893)) ?_
        obtain ⟨x5914, e5915, hF⟩ := zG hF
        subst e5915
        refine yT rfl rfl (Lx_bs (r := Rp.str) (xl := [x5893]) (cs := [.string (bs x5893)]) u22 el9 (by decide) (by decide) rfl (xK (vs := [.string (bs x5893)]) (by decide) rfl rfl ⟨rfl, trivial⟩ rfl) H ⟨[.string (bs x5893)], [], rfl, rfl, rfl⟩) ?_
        rintro v5917 w5918 H
        obtain ⟨x5919, e5920, hF⟩ := zD hF
        refine yT rfl rfl (Lx_app H (i := 2) rfl u22 el9 rfl rfl (Sr.of_own (H.item (i := 11) rfl)) e5920) ?_
        rintro v5921 w5922 H
        refine zH (fa26_0 rfl) ?_
        refine yS rfl (xM H 1 rfl sz22 rfl (v := v5921) rfl (xU (H.item (i := 2) rfl)) rfl) ?_
        rintro w5923 H
        obtain rfl := someI hF
        exact (zF (yU (zA (meet ⟨v5921, zO, H.pick [0, 1, 2, 3, 4, 5, 6, 7, 8, 9] (by decide)⟩))))
       have hF := zS c5913 hF
       obtain rfl := someI hF
       exact (yA (yU (zA (meet ⟨v5843, zO, H.pick [0, 1, 2, 3, 4, 5, 6, 7, 8, 9] (by decide)⟩))))
      rintro v5889 ρ w5890 H
      have hF := hK5891
      refine zB ?_
      obtain ⟨x5924, e5925, hF⟩ := zG hF
      refine zH (xX (a := g5841) (b := 1) rfl rfl e5925) ?_
      refine zN (.int .i64 x5924) ?_
      exact (zF (zA (meet ⟨(n5849, x5924, g5888, v5889), (zL rfl zO), ⟨H.pick [0, 1, 2, 3, 4, 5, 6, 7, 8, 9] (by decide), hF⟩, Nat.lt_succ_self _⟩)))
     have hF := zS c5855 hF
     obtain rfl := someI hF
     exact (xP (yR (yR (xA (zA (meet ⟨v5843, zO, H.pick [0, 1, 2, 3, 4, 5, 6, 7, 8, 9] (by decide)⟩))))))
    rintro v5741 ρ w5742 H
    have hF := hK5743
    obtain ⟨g6111, hF, hK6114⟩ := zD hF
    refine yO [13, 50, 51, 52, 53, 54, 55, 56, 57, 58, 59, 60, 61, 62, 63, 64, 65, 66, 67] (fun (g : Value) => []) (fun g wl => Hd O w wl S [.blk b23 [.slice none 0 0, .slice none 0 0, .slice none 0 0] 26, .blk b27 [v5741, g, v5028] 26, .own Rp.str v5741 9 g5740, .own rMoveT g 102 g6111, .own rRule v5028 106 g5027, .own rRules v2539 26 ([p0, p1] : List Rules), .fz (.sl Rp.str v5596 x5585.Phases), .fz (.sl rMoveT v5597 x5585.Moves), .fz (.sl rRule v5598 x5585.Rules), .blk b5605 [v5596, v5597, v5598] 26]) ?_ ?_
    ·skip
     refine zC fun K6115 hK6115 => ?_
     refine zB ?_
     refine zH (fa26_1 rfl) ?_
     refine zH (zM one23 rfl (Cells.get (Blk.cells (H.item (i := 9) rfl)) (i := 1) rfl)) ?_
     obtain ⟨x6116, e6117, hF⟩ := zG hF
     obtain ⟨a6118, c6119, q6120⟩ := SlF.len ((H.item (i := 7) rfl))
     refine zH (yL (xW u23 q6120) (congrArg (Value.int .i64) e6117)) ?_
     refine zN (.int .i64 0) ?_
     refine (zF (zA (hK6115 _ _ ?_)))
     refine yF ?_
     unfold F_event_Merge_L3 at hF
     obtain ⟨B6297, n6298, eB6299, hF⟩ := yV hF
     refine xJ [13, 53, 54, 55, 56, 57, 58, 59, 60, 61, 62, 63, 64, 65, 66, 67] (fun (g : Nat × Int × (List MoveT) × Value) => [(53, .int .i64 g.2.1)]) (fun g wl => Hd O w wl S [.blk b23 [.slice none 0 0, .slice none 0 0, .slice none 0 0] 26, .blk b27 [v5741, g.2.2.2, v5028] 26, .own Rp.str v5741 9 g5740, .own rMoveT g.2.2.2 102 g.2.2.1, .own rRule v5028 106 g5027, .own rRules v2539 26 ([p0, p1] : List Rules), .fz (.sl Rp.str v5596 x5585.Phases), .fz (.sl rMoveT v5597 x5585.Moves), .fz (.sl rRule v5598 x5585.Rules), .blk b5605 [v5596, v5597, v5598] 26] ∧ loopN B6297 g.1 (g.2.1, g.2.2.1) = some g6111) (fun g => g.1) (n6298, 0, g5024, v5025) (zL rfl zO) ⟨H.pick [0, 1, 2, 3, 4, 5, 6, 7, 8, 9] (by decide), hF⟩ ?_
     clear H hF
     rintro ⟨n6298, g6294, g6295, v6296⟩ ρ w6301 ⟨H, hF⟩
     obtain ⟨n6302, rfl, hF⟩ := xB hF
     have hF := yZ eB6299 hF
     refine zC fun K6303 hK6303 => ?_
     refine zB ?_
     obtain ⟨x6304, e6305, hF⟩ := zG hF
     refine zH (zV (xQ (a := g6294) (b := x6116) rfl rfl) e6305) ?_
     refine (zF (zA (hK6303 _ _ ?_)))
     refine zC fun K6307 hK6307 => ?_
     refine zZ (b := x6304) rfl (fun c6308 => ?_) (fun c6308 => ?_)
     ·have hF := zQ c6308 hF
      refine (yA (zA (hK6307 _ _ ?_)))
      refine zC fun K6347 hK6347 => ?_
      refine yF ?_
      refine zC fun K6348 hK6348 => ?_
      refine zB ?_
      obtain ⟨x6349, e6350, hF⟩ := zD hF
      obtain ⟨b6351, o6352, c6353, cs6354, q6355, h6358, h6356, h6357, h6359⟩ := wQ (H.item (i := 7) rfl) e6350
      obtain ⟨v6360, rfl, h6361⟩ := rMoveT_open h6358
      have H := H.fzs [.at b6351 (o6352 + g6294.toNat * 9) _, .sl rCond v6360 x6349.When.Kids] ⟨⟨h6356, h6357, h6359⟩, h6361, trivial⟩
      refine zH (xY u23 sz102 q6355 rfl (yN e6350).1 (yN e6350).2.1 rfl rfl) ?_
      refine zH (yL (yH (cs := [.string (bs x6349.From), .string (bs x6349.To), .int .i64 x6349.When.Kind, .string (bs x6349.When.Name), .string (bs x6349.When.Other), .int .i64 x6349.When.Op, .int .i64 x6349.When.N, .int .i64 x6349.When.Frames, v6360]) agg102 rfl sz102 rfl (H.item (i := 10) rfl).2.2) rfl) ?_
      refine yT rfl rfl (xG zero102 H) ?_
      rintro _ w6366 ⟨b6364, rfl, H⟩
      refine yS rfl (yI (vs := [.string (bs x6349.From), .string (bs x6349.To), .int .i64 x6349.When.Kind, .string (bs x6349.When.Name), .string (bs x6349.When.Other), .int .i64 x6349.When.Op, .int .i64 x6349.When.N, .int .i64 x6349.When.Frames, v6360]) H 12 rfl sz102 rfl rfl rfl ⟨rfl, rfl, rfl, rfl, rfl, rfl, rfl, rfl, (xR (H.item (i := 11) rfl)), trivial⟩ rfl) ?_
      rintro w6367 H
      refine (zF (zA (hK6348 _ _ ?_)))
      have H : Hd O w w6367 S [.blk b23 [.slice none 0 0, .slice none 0 0, .slice none 0 0] 26, .blk b27 [v5741, v6296, v5028] 26, .own Rp.str v5741 9 g5740, .own rMoveT v6296 102 g6295, .own rRule v5028 106 g5027, .own rRules v2539 26 ([p0, p1] : List Rules), .fz (.sl Rp.str v5596 x5585.Phases), .fz (.sl rMoveT v5597 x5585.Moves), .fz (.sl rRule v5598 x5585.Rules), .blk b5605 [v5596, v5597, v5598] 26, .fz (.sl rCond v6360 x6349.When.Kids), .blk b6364 [.string (bs x6349.From), .string (bs x6349.To), .int .i64 x6349.When.Kind, .string (bs x6349.When.Name), .string (bs x6349.When.Other), .int .i64 x6349.When.Op, .int .i64 x6349.When.N, .int .i64 x6349.When.Frames, v6360] 102] := H.pick [0, 1, 2, 3, 4, 5, 6, 7, 8, 9, 11, 12] (by decide)
      refine zC fun K6368 hK6368 => ?_
      refine zB ?_
      refine zH (fa102_2 rfl) ?_
      refine zH (yL (yH (cs := [.int .i64 x6349.When.Kind, .string (bs x6349.When.Name), .string (bs x6349.When.Other), .int .i64 x6349.When.Op, .int .i64 x6349.When.N, .int .i64 x6349.When.Frames, v6360]) agg54 rfl sz54 rfl (Cells.drop (Blk.cells (H.item (i := 11) rfl)) 2 7)) rfl) ?_
      obtain ⟨x6369, e6370, hF⟩ := zD hF
      refine zW rfl rfl (zT en66 rfl) (F_event_copyCond_s x6349.When v6360 _ e6370 _ _ _ (H.enter [] [10] (by decide) rfl)) ?_
      rintro _ w6373 ⟨v6371, rfl, G6374⟩
      have H := H.back1 [10] rfl G6374
      refine ⟨_, rfl, ?_⟩
      refine zH (fa102_2 rfl) ?_
      refine yS rfl (yI (vs := [.int .i64 x6369.Kind, .string (bs x6369.Name), .string (bs x6369.Other), .int .i64 x6369.Op, .int .i64 x6369.N, .int .i64 x6369.Frames, v6371]) H 11 rfl sz54 rfl rfl rfl ⟨rfl, rfl, rfl, rfl, rfl, rfl, (xR (H.item (i := 12) rfl)), trivial⟩ rfl) ?_
      rintro w6375 H
      refine (zF (zA (hK6368 _ _ ?_)))
      refine zB ?_
      refine zH (fa26_1 rfl) ?_
      refine zH (zM one23 rfl (Cells.get (Blk.cells (H.item (i := 1) rfl)) (i := 1) rfl)) ?_
      refine zH (yL (yH (cs := [.string (bs x6349.From), .string (bs x6349.To), .int .i64 x6369.Kind, .string (bs x6369.Name), .string (bs x6369.Other), .int .i64 x6369.Op, .int .i64 x6369.N, .int .i64 x6369.Frames, v6371]) agg102 rfl sz102 rfl (Blk.cells (H.item (i := 11) rfl))) rfl) ?_
      obtain ⟨x6376, e6377, hF⟩ := zG hF
      subst e6377
      refine yT rfl rfl (Lx_bs (r := rMoveT) (xl := [MoveT.mk x6349.From x6349.To x6369]) (cs := [.string (bs x6349.From), .string (bs x6349.To), .int .i64 x6369.Kind, .string (bs x6369.Name), .string (bs x6369.Other), .int .i64 x6369.Op, .int .i64 x6369.N, .int .i64 x6369.Frames, v6371]) u23 el102 (by decide) (by decide) rfl (xK (vs := [.agg [.string (bs x6349.From), .string (bs x6349.To), .int .i64 x6369.Kind, .string (bs x6369.Name), .string (bs x6369.Other), .int .i64 x6369.Op, .int .i64 x6369.N, .int .i64 x6369.Frames, v6371].toArray]) (by decide) rfl rfl ⟨rfl, trivial⟩ rfl) H ⟨[.string (bs x6349.From), .string (bs x6349.To), .int .i64 x6369.Kind, .string (bs x6369.Name), .string (bs x6369.Other), .int .i64 x6369.Op, .int .i64 x6369.N, .int .i64 x6369.Frames, v6371], [], rfl, (rMoveT_mk (x := MoveT.mk x6349.From x6349.To x6369) (H.item (i := 12) rfl)), rfl⟩) ?_
      rintro v6379 w6380 H
      obtain ⟨x6381, e6382, hF⟩ := zD hF
      refine yT rfl rfl (Lx_app H (i := 3) rfl u23 el102 rfl rfl (Sr.of_own (H.item (i := 13) rfl)) e6382) ?_
      rintro v6383 w6384 H
      refine zH (fa26_1 rfl) ?_
      refine yS rfl (xM H 1 rfl sz23 rfl (v := v6383) rfl (xU (H.item (i := 3) rfl)) rfl) ?_
      rintro w6385 H
      refine (zF (yU (zA (hK6347 _ _ ?_))))
      have H : Hd O w w6385 S [.blk b23 [.slice none 0 0, .slice none 0 0, .slice none 0 0] 26, .blk b27 [v5741, v6383, v5028] 26, .own Rp.str v5741 9 g5740, .own rMoveT v6383 102 x6381, .own rRule v5028 106 g5027, .own rRules v2539 26 ([p0, p1] : List Rules), .fz (.sl Rp.str v5596 x5585.Phases), .fz (.sl rMoveT v5597 x5585.Moves), .fz (.sl rRule v5598 x5585.Rules), .blk b5605 [v5596, v5597, v5598] 26] := H.pick [0, 1, 2, 3, 4, 5, 6, 7, 8, 9] (by decide)
      refine zB ?_
      obtain ⟨x6386, e6387, hF⟩ := zG hF
      refine zH (xX (a := g6294) (b := 1) rfl rfl e6387) ?_
      refine zN (.int .i64 x6386) ?_
      exact (zF (zA (meet ⟨(n6302, x6386, x6381, v6383), (zL rfl zO), ⟨H.pick [0, 1, 2, 3, 4, 5, 6, 7, 8, 9] (by decide), hF⟩, Nat.lt_succ_self _⟩)))
     have hF := zS c6308 hF
     obtain rfl := someI hF
     exact (xP (yR (yR (xA (zA (meet ⟨v6296, zO, H.pick [0, 1, 2, 3, 4, 5, 6, 7, 8, 9] (by decide)⟩))))))
    rintro v6112 ρ w6113 H
    have hF := hK6114
    refine zC fun K6388 hK6388 => ?_
    refine zB ?_
    refine zH (fa26_2 rfl) ?_
    refine zH (zM one24 rfl (Cells.get (Blk.cells (H.item (i := 9) rfl)) (i := 2) rfl)) ?_
    obtain ⟨x6389, e6390, hF⟩ := zG hF
    obtain ⟨a6391, c6392, q6393⟩ := SlF.len ((H.item (i := 8) rfl))
    refine zH (yL (xW u24 q6393) (congrArg (Value.int .i64) e6390)) ?_
    refine zN (.int .i64 0) ?_
    refine (zF (zA (hK6388 _ _ ?_)))
    refine yF ?_
    unfold F_event_Merge_L4 at hF
    obtain ⟨B6570, n6571, eB6572, hF⟩ := yV hF
    refine xJ [15, 71, 72, 73, 74, 75, 76, 77, 78, 79, 80, 81, 82, 83, 84, 85] (fun (g : Nat × Int × (List Rule) × Value) => [(71, .int .i64 g.2.1)]) (fun g wl => Hd O w wl S [.blk b23 [.slice none 0 0, .slice none 0 0, .slice none 0 0] 26, .blk b27 [v5741, v6112, g.2.2.2] 26, .own Rp.str v5741 9 g5740, .own rMoveT v6112 102 g6111, .own rRule g.2.2.2 106 g.2.2.1, .own rRules v2539 26 ([p0, p1] : List Rules), .fz (.sl rRule v5598 x5585.Rules)] ∧ loopN B6570 g.1 (g.2.1, g.2.2.1) = some r) (fun g => g.1) (n6571, 0, g5027, v5028) (zL rfl zO) ⟨H.pick [0, 1, 2, 3, 4, 5, 8] (by decide), hF⟩ ?_
    clear H hF
    rintro ⟨n6571, g6567, g6568, v6569⟩ ρ w6574 ⟨H, hF⟩
    obtain ⟨n6575, rfl, hF⟩ := xB hF
    have hF := yZ eB6572 hF
    refine zC fun K6576 hK6576 => ?_
    refine zB ?_
    obtain ⟨x6577, e6578, hF⟩ := zG hF
    refine zH (zV (xQ (a := g6567) (b := x6389) rfl rfl) e6578) ?_
    refine (zF (zA (hK6576 _ _ ?_)))
    refine zC fun K6580 hK6580 => ?_
    refine zZ (b := x6577) rfl (fun c6581 => ?_) (fun c6581 => ?_)
    ·have hF := zQ c6581 hF
     refine (yA (zA (hK6580 _ _ ?_)))
     refine zC fun K6620 hK6620 => ?_
     refine yF ?_
     refine zC fun K6621 hK6621 => ?_
     refine zB ?_
     obtain ⟨x6622, e6623, hF⟩ := zD hF
     obtain ⟨b6624, o6625, c6626, cs6627, q6628, h6631, h6629, h6630, h6632⟩ := wQ (H.item (i := 6) rfl) e6623
     obtain ⟨v6633, rfl, h6634⟩ := rRule_open h6631
     have H := H.fzs [.at b6624 (o6625 + g6567.toNat * 8) _, .sl rCond v6633 x6622.When.Kids] ⟨⟨h6629, h6630, h6632⟩, h6634, trivial⟩
     refine zH (xY u24 sz106 q6628 rfl (yN e6623).1 (yN e6623).2.1 rfl rfl) ?_
     refine zH (yL (yH (cs := [.string (bs x6622.Name), .int .i64 x6622.When.Kind, .string (bs x6622.When.Name), .string (bs x6622.When.Other), .int .i64 x6622.When.Op, .int .i64 x6622.When.N, .int .i64 x6622.When.Frames, v6633]) agg106 rfl sz106 rfl (H.item (i := 7) rfl).2.2) rfl) ?_
     refine yT rfl rfl (xG zero106 H) ?_
     rintro _ w6639 ⟨b6637, rfl, H⟩
     refine yS rfl (yI (vs := [.string (bs x6622.Name), .int .i64 x6622.When.Kind, .string (bs x6622.When.Name), .string (bs x6622.When.Other), .int .i64 x6622.When.Op, .int .i64 x6622.When.N, .int .i64 x6622.When.Frames, v6633]) H 9 rfl sz106 rfl rfl rfl ⟨rfl, rfl, rfl, rfl, rfl, rfl, rfl, (xR (H.item (i := 8) rfl)), trivial⟩ rfl) ?_
     rintro w6640 H
     refine (zF (zA (hK6621 _ _ ?_)))
     refine zC fun K6641 hK6641 => ?_
     refine zB ?_
     refine zH (fa106_1 rfl) ?_
     refine zH (yL (yH (cs := [.int .i64 x6622.When.Kind, .string (bs x6622.When.Name), .string (bs x6622.When.Other), .int .i64 x6622.When.Op, .int .i64 x6622.When.N, .int .i64 x6622.When.Frames, v6633]) agg54 rfl sz54 rfl (Cells.drop (Blk.cells (H.item (i := 9) rfl)) 1 7)) rfl) ?_
     obtain ⟨x6642, e6643, hF⟩ := zD hF
     refine zW rfl rfl (zT en66 rfl) (F_event_copyCond_s x6622.When v6633 _ e6643 _ _ _ (H.enter [] [8] (by decide) rfl)) ?_
     rintro _ w6646 ⟨v6644, rfl, G6647⟩
     have H := H.back1 [8] rfl G6647
     refine ⟨_, rfl, ?_⟩
     refine zH (fa106_1 rfl) ?_
     refine yS rfl (yI (vs := [.int .i64 x6642.Kind, .string (bs x6642.Name), .string (bs x6642.Other), .int .i64 x6642.Op, .int .i64 x6642.N, .int .i64 x6642.Frames, v6644]) H 9 rfl sz54 rfl rfl rfl ⟨rfl, rfl, rfl, rfl, rfl, rfl, (xR (H.item (i := 10) rfl)), trivial⟩ rfl) ?_
     rintro w6648 H
     refine (zF (zA (hK6641 _ _ ?_)))
     refine zB ?_
     refine zH (fa26_2 rfl) ?_
     refine zH (zM one24 rfl (Cells.get (Blk.cells (H.item (i := 1) rfl)) (i := 2) rfl)) ?_
     refine zH (yL (yH (cs := [.string (bs x6622.Name), .int .i64 x6642.Kind, .string (bs x6642.Name), .string (bs x6642.Other), .int .i64 x6642.Op, .int .i64 x6642.N, .int .i64 x6642.Frames, v6644]) agg106 rfl sz106 rfl (Blk.cells (H.item (i := 9) rfl))) rfl) ?_
     obtain ⟨x6649, e6650, hF⟩ := zG hF
     subst e6650
     refine yT rfl rfl (Lx_bs (r := rRule) (xl := [Rule.mk x6622.Name x6642]) (cs := [.string (bs x6622.Name), .int .i64 x6642.Kind, .string (bs x6642.Name), .string (bs x6642.Other), .int .i64 x6642.Op, .int .i64 x6642.N, .int .i64 x6642.Frames, v6644]) u24 el106 (by decide) (by decide) rfl (xK (vs := [.agg [.string (bs x6622.Name), .int .i64 x6642.Kind, .string (bs x6642.Name), .string (bs x6642.Other), .int .i64 x6642.Op, .int .i64 x6642.N, .int .i64 x6642.Frames, v6644].toArray]) (by decide) rfl rfl ⟨rfl, trivial⟩ rfl) H ⟨[.string (bs x6622.Name), .int .i64 x6642.Kind, .string (bs x6642.Name), .string (bs x6642.Other), .int .i64 x6642.Op, .int .i64 x6642.N, .int .i64 x6642.Frames, v6644], [], rfl, (rRule_mk (x := Rule.mk x6622.Name x6642) (H.item (i := 10) rfl)), rfl⟩) ?_
     rintro v6652 w6653 H
     obtain ⟨x6654, e6655, hF⟩ := zD hF
     refine yT rfl rfl (Lx_app H (i := 4) rfl u24 el106 rfl rfl (Sr.of_own (H.item (i := 11) rfl)) e6655) ?_
     rintro v6656 w6657 H
     refine zH (fa26_2 rfl) ?_
     refine yS rfl (xM H 1 rfl sz24 rfl (v := v6656) rfl (xU (H.item (i := 4) rfl)) rfl) ?_
     rintro w6658 H
     refine (zF (yU (zA (hK6620 _ _ ?_))))
     have H : Hd O w w6658 S [.blk b23 [.slice none 0 0, .slice none 0 0, .slice none 0 0] 26, .blk b27 [v5741, v6112, v6656] 26, .own Rp.str v5741 9 g5740, .own rMoveT v6112 102 g6111, .own rRule v6656 106 x6654, .own rRules v2539 26 ([p0, p1] : List Rules), .fz (.sl rRule v5598 x5585.Rules)] := H.pick [0, 1, 2, 3, 4, 5, 6] (by decide)
     refine zB ?_
     obtain ⟨x6659, e6660, hF⟩ := zG hF
     refine zH (xX (a := g6567) (b := 1) rfl rfl e6660) ?_
     refine zN (.int .i64 x6659) ?_
     exact (zF (zA (meet ⟨(n6575, x6659, x6654, v6656), (zL rfl zO), ⟨H.pick [0, 1, 2, 3, 4, 5, 6] (by decide), hF⟩, Nat.lt_succ_self _⟩)))
    have hF := zS c6581 hF
    exact (xP (yR (yR (xA (yU (zA (meet ⟨(g5740, g6111, g6568, v5741, v6112, v6569), zO, ⟨H.pick [0, 1, 2, 3, 4, 5] (by decide), hF⟩⟩)))))))
   rintro ⟨g5575, g5577, g5579, v5576, v5578, v5580⟩ ρ w5581 ⟨H, hF⟩
   have hF := wI ek5583 hF
   refine zB ?_
   obtain ⟨x6661, e6662, hF⟩ := zG hF
   refine zH (xX (a := g5019) (b := 1) rfl rfl e6662) ?_
   refine zN (.int .i64 x6661) ?_
   exact (zF (zA (meet ⟨(n5037, x6661, g5575, g5577, g5579, v5576, v5578, v5580), (zL rfl zO), ⟨H.pick [0, 1, 2, 3, 4, 5] (by decide), hF⟩, Nat.lt_succ_self _⟩)))
  have hF := zS c5043 hF
  exact (xP (yR (yR (xA (zA (meet ⟨(g5021, g5024, g5027, v5022, v5025, v5028), zO, ⟨H.pick [0, 1, 2, 3, 4] (by decide), hF⟩⟩))))))
 rintro ⟨g2524, g2527, g2530, v2525, v2528, v2531⟩ ρ w2532 ⟨H, hF⟩
 have hF := wI ek2534 hF
 refine zC fun K6675 hK6675 => ?_
 refine zC fun K6676 hK6676 => ?_
 refine zB ?_
 refine zH (yL (yH (cs := [v2525, v2528, v2531]) agg26 rfl sz26 rfl (Blk.cells (H.item (i := 1) rfl))) rfl) ?_
 have H6677 := H
 have H := H.freeze (i := 2) rfl
 have H := H.freeze (i := 3) rfl
 have H := H.freeze (i := 4) rfl
 obtain ⟨x6678, e6679, hF⟩ := zD hF
 refine zW rfl rfl (zT en40 rfl) (F_event_Check_w (Rules.mk g2524 g2527 g2530) v2525 v2528 v2531 _ e6679 _ _ _ (H.enter [] [2, 3, 4] (by decide) rfl)) ?_
 rintro _ w6680 ⟨rfl, G6681⟩
 have H := H6677.step (G6681.only : Only [] _ _)
 refine ⟨_, rfl, ?_⟩
 refine zI (.int .i64 x6678) ?_
 refine (zF (zA (hK6676 _ _ ?_)))
 refine zC fun K6682 hK6682 => ?_
 refine zB ?_
 refine zN (.int .i64 x6678) ?_
 obtain ⟨x6683, e6684, hF⟩ := zG hF
 refine zH (zV (Do_neq (a := x6678) (b := 0) rfl rfl) e6684) ?_
 refine (zF (zA (hK6682 _ _ ?_)))
 refine zZ (b := x6683) rfl (fun c6685 => ?_) (fun c6685 => ?_)
 ·have hF := zQ c6685 hF
  refine zC fun K6686 hK6686 => ?_
  refine zB ?_
  refine zH (xN (cs := [.slice none 0 0, .slice none 0 0, .slice none 0 0]) bz26) ?_
  refine zN (.int .i64 x6678) ?_
  refine yS rfl (yI (vs := [.slice none 0 0, .slice none 0 0, .slice none 0 0]) H 0 rfl sz26 rfl rfl rfl ⟨rfl, rfl, rfl, trivial⟩ rfl) ?_
  rintro w6687 H
  refine zI (.int .i64 x6678) ?_
  refine (zF (zA (hK6686 _ _ ?_)))
  have H := H.fz (.sl Rp.str (.slice none 0 0) []) SlF.nil
  have H := H.fz (.sl rMoveT (.slice none 0 0) []) SlF.nil
  have H := H.fz (.sl rRule (.slice none 0 0) []) SlF.nil
  obtain rfl := someI hF
  refine (yB (zX (postc1 (v1 := .int .i64 x6678) rfl rfl (yD agg26 sz26 rfl (Blk.cells (H.item (i := 0) rfl))) rfl ?_)))
  exact ⟨.slice none 0 0, .slice none 0 0, .slice none 0 0, rfl, H.pick [5, 6, 7] (by decide)⟩
 have hF := zS c6685 hF
 refine (yA (zA (hK6675 _ _ ?_)))
 refine zC fun K6691 hK6691 => ?_
 refine zB ?_
 refine zH (yL (yH (cs := [v2525, v2528, v2531]) agg26 rfl sz26 rfl (Blk.cells (H.item (i := 1) rfl))) rfl) ?_
 refine yS rfl (yI (vs := [v2525, v2528, v2531]) H 0 rfl sz26 rfl rfl rfl ⟨(xU (H.item (i := 2) rfl)), (xU (H.item (i := 3) rfl)), (xU (H.item (i := 4) rfl)), trivial⟩ rfl) ?_
 rintro w6692 H
 refine zI (.int .i64 0) ?_
 refine (zF (zA (hK6691 _ _ ?_)))
 have H := H.freeze (i := 2) rfl
 have H := H.freeze (i := 3) rfl
 have H := H.freeze (i := 4) rfl
 obtain rfl := someI hF
 refine (yB (postc1 (v1 := .int .i64 0) rfl rfl (yD agg26 sz26 rfl (Blk.cells (H.item (i := 0) rfl))) rfl ?_))
 exact ⟨v2525, v2528, v2531, rfl, H.pick [2, 3, 4] (by decide)⟩
set_option maxHeartbeats 4000000 in
set_option maxRecDepth 100000 in
theorem F_ref6_Merge_w (p0 : Rules) (p1 : Rules) (v1 : Value) (v2 : Value) (v3 : Value) (v7 : Value) (v8 : Value) (v9 : Value) (r : Rules × Int) (hF : F_ref6_Merge p0 p1 = some r) (O S : List Nat) (w : World) (H : Hd O w w S [.fz (.sl Rp.str v1 p0.Phases), .fz (.sl rMoveT v2 p0.Moves), .fz (.sl rRule v3 p0.Rules), .fz (.sl Rp.str v7 p1.Phases), .fz (.sl rMoveT v8 p1.Moves), .fz (.sl rRule v9 p1.Rules)]) :
  Calls Tryz.prog 24 ([.agg [v1, v2, v3].toArray, .agg [v7, v8, v9].toArray] : List Value).toArray w fun e w' => ∃ u13 u14 u15, e = .returned (.tuple #[.agg [u13, u14, u15].toArray, .int .i64 r.2]) ∧ Hd O w w' S [.fz (.sl Rp.str u13 r.1.Phases), .fz (.sl rMoveT u14 r.1.Moves), .fz (.sl rRule u15 r.1.Rules)] := by
 unfold F_ref6_Merge at hF
 refine yC 78 Tryz.func24 rfl rfl rfl ?_
 refine zC fun K16 hK16 => ?_
 refine zB ?_
 refine yT rfl rfl (wL (cs := [v1, v2, v3]) rfl H) ?_
 rintro _ w19 ⟨b17, rfl, H⟩
 refine yT rfl rfl (wL (cs := [v7, v8, v9]) rfl H) ?_
 rintro _ w22 ⟨b20, rfl, H⟩
 refine yT rfl rfl (xG zero26 H) ?_
 rintro _ w25 ⟨b23, rfl, H⟩
 refine zI (.int .i64 0) ?_
 refine (zF (zA (hK16 _ _ ?_)))
 refine zC fun K38 hK38 => ?_
 refine zC fun K39 hK39 => ?_
 refine zB ?_
 refine zH (yL (yH (cs := [v1, v2, v3]) agg26 rfl sz26 rfl (Blk.cells (H.item (i := 6) rfl))) rfl) ?_
 have H40 := H
 obtain ⟨x41, e42, hF⟩ := zD hF
 refine zW rfl rfl (zT en49 rfl) (F_ref6_Check_w p0 v1 v2 v3 _ e42 _ _ _ (H.enter [] [0, 1, 2] (by decide) rfl)) ?_
 rintro _ w43 ⟨rfl, G44⟩
 have H := H40.step (G44.only : Only [] _ _)
 refine ⟨_, rfl, ?_⟩
 refine zI (.int .i64 x41) ?_
 refine (zF (zA (hK39 _ _ ?_)))
 refine zC fun K45 hK45 => ?_
 refine zB ?_
 refine zN (.int .i64 x41) ?_
 obtain ⟨x46, e47, hF⟩ := zG hF
 refine zH (zV (Do_neq (a := x41) (b := 0) rfl rfl) e47) ?_
 refine (zF (zA (hK45 _ _ ?_)))
 refine zZ (b := x46) rfl (fun c48 => ?_) (fun c48 => ?_)
 ·have hF := zQ c48 hF
  refine zC fun K49 hK49 => ?_
  refine zB ?_
  refine zH (xN (cs := [.slice none 0 0, .slice none 0 0, .slice none 0 0]) bz26) ?_
  refine zN (.int .i64 x41) ?_
  refine yS rfl (yI (vs := [.slice none 0 0, .slice none 0 0, .slice none 0 0]) H 8 rfl sz26 rfl rfl rfl ⟨rfl, rfl, rfl, trivial⟩ rfl) ?_
  rintro w50 H
  refine zI (.int .i64 x41) ?_
  refine (zF (zA (hK49 _ _ ?_)))
  have H := H.fz (.sl Rp.str (.slice none 0 0) []) SlF.nil
  have H := H.fz (.sl rMoveT (.slice none 0 0) []) SlF.nil
  have H := H.fz (.sl rRule (.slice none 0 0) []) SlF.nil
  obtain rfl := someI hF
  refine (yB (zX (postc1 (v1 := .int .i64 x41) rfl rfl (yD agg26 sz26 rfl (Blk.cells (H.item (i := 8) rfl))) rfl ?_)))
  exact ⟨.slice none 0 0, .slice none 0 0, .slice none 0 0, rfl, H.pick [9, 10, 11] (by decide)⟩
 have hF := zS c48 hF
 refine (yA (zA (hK38 _ _ ?_)))
 refine zC fun K66 hK66 => ?_
 refine zC fun K67 hK67 => ?_
 refine zB ?_
 refine zH (yL (yH (cs := [v7, v8, v9]) agg26 rfl sz26 rfl (Blk.cells (H.item (i := 7) rfl))) rfl) ?_
 have H68 := H
 obtain ⟨x69, e70, hF⟩ := zD hF
 refine zW rfl rfl (zT en49 rfl) (F_ref6_Check_w p1 v7 v8 v9 _ e70 _ _ _ (H.enter [] [3, 4, 5] (by decide) rfl)) ?_
 rintro _ w71 ⟨rfl, G72⟩
 have H := H68.step (G72.only : Only [] _ _)
 refine ⟨_, rfl, ?_⟩
 refine zI (.int .i64 x69) ?_
 refine (zF (zA (hK67 _ _ ?_)))
 refine zC fun K73 hK73 => ?_
 refine zB ?_
 refine zN (.int .i64 x69) ?_
 obtain ⟨x74, e75, hF⟩ := zG hF
 refine zH (zV (Do_neq (a := x69) (b := 0) rfl rfl) e75) ?_
 refine (zF (zA (hK73 _ _ ?_)))
 refine zZ (b := x74) rfl (fun c76 => ?_) (fun c76 => ?_)
 ·have hF := zQ c76 hF
  refine zC fun K77 hK77 => ?_
  refine zB ?_
  refine zH (xN (cs := [.slice none 0 0, .slice none 0 0, .slice none 0 0]) bz26) ?_
  refine zN (.int .i64 x69) ?_
  refine yS rfl (yI (vs := [.slice none 0 0, .slice none 0 0, .slice none 0 0]) H 8 rfl sz26 rfl rfl rfl ⟨rfl, rfl, rfl, trivial⟩ rfl) ?_
  rintro w78 H
  refine zI (.int .i64 x69) ?_
  refine (zF (zA (hK77 _ _ ?_)))
  have H := H.fz (.sl Rp.str (.slice none 0 0) []) SlF.nil
  have H := H.fz (.sl rMoveT (.slice none 0 0) []) SlF.nil
  have H := H.fz (.sl rRule (.slice none 0 0) []) SlF.nil
  obtain rfl := someI hF
  refine (yB (zX (postc1 (v1 := .int .i64 x69) rfl rfl (yD agg26 sz26 rfl (Blk.cells (H.item (i := 8) rfl))) rfl ?_)))
  exact ⟨.slice none 0 0, .slice none 0 0, .slice none 0 0, rfl, H.pick [9, 10, 11] (by decide)⟩
 have hF := zS c76 hF
 refine (yA (zA (hK66 _ _ ?_)))
 refine zC fun K82 hK82 => ?_
 refine zB ?_
 refine zH (fa26_0 rfl) ?_
 refine zH (zM one22 rfl (Cells.get (Blk.cells (H.item (i := 6) rfl)) (i := 0) rfl)) ?_
 have H := own_nil H Rp.str 9
 obtain ⟨x84, e85, hF⟩ := zD hF
 refine yT rfl rfl (Lx_app H (i := 9) rfl u22 el9 rfl rfl (Sr.of_rd (H.item (i := 0) rfl)) e85) ?_
 rintro v86 w87 H
 obtain ⟨a88, c89, q90⟩ : ∃ a c, v86 = .slice a _ c := Sr.len (Sr.of_own (H.item (i := 9) rfl))
 refine zH (xN (cs := [v86, .slice none 0 0, .slice none 0 0]) (by rw [q90]; exact bt26_0 a88 _ c89)) ?_
 refine yT rfl rfl (xG zero26 H) ?_
 rintro _ w93 ⟨b91, rfl, H⟩
 refine yS rfl (yI (vs := [v86, .slice none 0 0, .slice none 0 0]) H 10 rfl sz26 rfl rfl rfl ⟨(xU (H.item (i := 9) rfl)), rfl, rfl, trivial⟩ rfl) ?_
 rintro w94 H
 refine (zF (zA (hK82 _ _ ?_)))
 obtain ⟨g249, hF, hK252⟩ := zD hF
 refine yO [9, 27, 28, 29, 30, 31, 32, 33, 34, 35, 36, 37, 38, 39, 40, 41, 42, 43, 44, 45, 46, 47, 48, 49, 50, 51, 52] (fun (g : Value) => []) (fun g wl => Hd O w wl S [.fz (.sl Rp.str v1 p0.Phases), .fz (.sl rMoveT v2 p0.Moves), .fz (.sl rRule v3 p0.Rules), .fz (.sl Rp.str v7 p1.Phases), .fz (.sl rMoveT v8 p1.Moves), .fz (.sl rRule v9 p1.Rules), .blk b17 [v1, v2, v3] 26, .blk b20 [v7, v8, v9] 26, .blk b23 [.slice none 0 0, .slice none 0 0, .slice none 0 0] 26, .own Rp.str g 9 g249, .blk b91 [g, .slice none 0 0, .slice none 0 0] 26]) ?_ ?_
 ·skip
  refine zC fun K253 hK253 => ?_
  refine zB ?_
  refine zI (.int .i64 0) ?_
  refine (zF (zA (hK253 _ _ ?_)))
  refine yF ?_
  unfold F_ref6_Merge_L1 at hF
  obtain ⟨B404, n405, eB406, hF⟩ := yV hF
  refine xJ [9, 27, 28, 29, 30, 31, 32, 33, 34, 35, 36, 37, 38, 39, 40, 41, 42, 43, 44, 45, 46, 47, 48, 49, 50, 51, 52] (fun (g : Nat × Int × (List Str) × Value) => [(9, .int .i64 g.2.1)]) (fun g wl => Hd O w wl S [.fz (.sl Rp.str v1 p0.Phases), .fz (.sl rMoveT v2 p0.Moves), .fz (.sl rRule v3 p0.Rules), .fz (.sl Rp.str v7 p1.Phases), .fz (.sl rMoveT v8 p1.Moves), .fz (.sl rRule v9 p1.Rules), .blk b17 [v1, v2, v3] 26, .blk b20 [v7, v8, v9] 26, .blk b23 [.slice none 0 0, .slice none 0 0, .slice none 0 0] 26, .own Rp.str g.2.2.2 9 g.2.2.1, .blk b91 [g.2.2.2, .slice none 0 0, .slice none 0 0] 26] ∧ loopN B404 g.1 (g.2.1, g.2.2.1) = some g249) (fun g => g.1) (n405, 0, x84, v86) (zL rfl zO) ⟨H.pick [0, 1, 2, 3, 4, 5, 6, 7, 8, 9, 10] (by decide), hF⟩ ?_
  clear H hF
  rintro ⟨n405, g401, g402, v403⟩ ρ w408 ⟨H, hF⟩
  obtain ⟨n409, rfl, hF⟩ := xB hF
  have hF := yZ eB406 hF
  refine zC fun K419 hK419 => ?_
  refine zC fun K420 hK420 => ?_
  refine zB ?_
  refine zN (.int .i64 g401) ?_
  refine zH (fa26_0 rfl) ?_
  refine zH (zM one22 rfl (Cells.get (Blk.cells (H.item (i := 7) rfl)) (i := 0) rfl)) ?_
  obtain ⟨x421, e422, hF⟩ := zG hF
  obtain ⟨a423, c424, q425⟩ := SlF.len ((H.item (i := 3) rfl))
  refine zH (yL (xW u22 q425) (congrArg (Value.int .i64) e422)) ?_
  obtain ⟨x426, e427, hF⟩ := zG hF
  refine zH (zV (xQ (a := g401) (b := x421) rfl rfl) e427) ?_
  refine (zF (zA (hK420 _ _ ?_)))
  refine zZ (b := x426) rfl (fun c428 => ?_) (fun c428 => ?_)
  ·have hF := zQ c428 hF
   refine (yA (zA (hK419 _ _ ?_)))
   obtain ⟨g476, hF, hK479⟩ := zD hF
   refine yO [34, 35, 36, 37, 38, 39, 40, 41, 42, 43, 44, 45, 46, 47, 48, 49, 50, 51, 52] (fun (g : Value) => []) (fun g wl => Hd O w wl S [.fz (.sl Rp.str v1 p0.Phases), .fz (.sl rMoveT v2 p0.Moves), .fz (.sl rRule v3 p0.Rules), .fz (.sl Rp.str v7 p1.Phases), .fz (.sl rMoveT v8 p1.Moves), .fz (.sl rRule v9 p1.Rules), .blk b17 [v1, v2, v3] 26, .blk b20 [v7, v8, v9] 26, .blk b23 [.slice none 0 0, .slice none 0 0, .slice none 0 0] 26, .own Rp.str g 9 g476, .blk b91 [g, .slice none 0 0, .slice none 0 0] 26]) ?_ ?_
   ·skip
    refine yF ?_
    refine zC fun K480 hK480 => ?_
    have H481 := H
    have H := H.rebase
    have H482 := H
    refine WP_mix0 H [0, 1, 2, 3, 4, 5, 6, 7, 8] [.pure, .read, .pure, .read, .pure, .pure, .read, .read, .pure] mixed (by kernel_rfl) (by kernel_rfl) (by kernel_rfl) rfl ?_
    refine Mx.zU rfl rfl rfl (fun w' hw' => fa26_0 rfl) ?_
    refine Mx.xC oS rfl rfl rfl (fun w' hw' => zM one22 rfl (Cells.get (Blk.cells ((H.sees hw').item (i := 6) rfl)) (i := 0) rfl)) ?_
    refine Mx.zU rfl rfl rfl (fun w' hw' => fa26_0 rfl) ?_
    refine Mx.xC oS rfl rfl rfl (fun w' hw' => zM one22 rfl (Cells.get (Blk.cells ((H.sees hw').item (i := 7) rfl)) (i := 0) rfl)) ?_
    refine Mx.zU rfl rfl rfl (fun w' hw' => xI (v := .int .i64 g401) rfl) ?_
    obtain ⟨x483, e484, hF⟩ := zD hF
    obtain ⟨b485, o486, c487, cs488, q489, h492, h490, h491, h493⟩ := wQ (H.item (i := 3) rfl) e484
    obtain rfl : cs488 = [.string (bs x483)] := h492
    have H := H.fz (.at b485 (o486 + g401.toNat * 1) _) ⟨h490, h491, h493⟩
    refine Mx.zU rfl rfl rfl (fun w' hw' => xY u22 sz9 q489 rfl (yN e484).1 (yN e484).2.1 rfl rfl) ?_
    refine Mx.xC oS rfl rfl rfl (fun w' hw' => zM one9 rfl (Cells.get ((H.sees hw').item (i := 11) rfl).2.2 (i := 0) rfl)) ?_
    have H495 := H
    obtain ⟨x496, e497, hF⟩ := zD hF
    refine Mx.XL_call oS rfl rfl rfl (v := .int .i64 x496) (fun w' hw' => zT en67 rfl) (fun w' hw' => call_read (F_ref6_place_w p0.Phases x483 v1 _ e497 _ _ _ ((H.sees hw').enter [] [0] (by decide) rfl))) ?_
    have H := H495
    obtain ⟨x498, e499, hF⟩ := zG hF
    refine Mx.zU rfl rfl rfl (fun w' hw' => zV (xQ (a := x496) (b := 0) rfl rfl) e499) ?_
    refine Mx.XL_nil fun w500 hS => ?_
    have H := H.sees hS
    have H := H481.rejoin H
    refine (zA (hK480 _ _ ?_))
    have H : Hd O w w500 S [.fz (.sl Rp.str v1 p0.Phases), .fz (.sl rMoveT v2 p0.Moves), .fz (.sl rRule v3 p0.Rules), .fz (.sl Rp.str v7 p1.Phases), .fz (.sl rMoveT v8 p1.Moves), .fz (.sl rRule v9 p1.Rules), .blk b17 [v1, v2, v3] 26, .blk b20 [v7, v8, v9] 26, .blk b23 [.slice none 0 0, .slice none 0 0, .slice none 0 0] 26, .own Rp.str v403 9 g402, .blk b91 [v403, .slice none 0 0, .slice none 0 0] 26] := H.pick [0, 1, 2, 3, 4, 5, 6, 7, 8, 9, 10] (by decide)
    refine zZ (b := x498) rfl (fun c501 => ?_) (fun c501 => ?_)
    ·have hF := zQ c501 hF
     have H502 := H
     have H := H.rebase
     have H503 := H
     refine WP_mix0 H [0, 1, 2, 3, 4, 5, 6, 7, 8, 9, 10] [.pure, .read, .pure, .read, .pure, .pure, .read, .new, .eff, .pure, .eff] mixed (by kernel_rfl) (by kernel_rfl) (by kernel_rfl) rfl ?_
     refine Mx.zU rfl rfl rfl (fun w' hw' => fa26_0 rfl) ?_
     refine Mx.xC oS rfl rfl rfl (fun w' hw' => zM one22 rfl (Cells.get (Blk.cells ((H.sees hw').item (i := 10) rfl)) (i := 0) rfl)) ?_
     refine Mx.zU rfl rfl rfl (fun w' hw' => fa26_0 rfl) ?_
     refine Mx.xC oS rfl rfl rfl (fun w' hw' => zM one22 rfl (Cells.get (Blk.cells ((H.sees hw').item (i := 7) rfl)) (i := 0) rfl)) ?_
     refine Mx.zU rfl rfl rfl (fun w' hw' => xI (v := .int .i64 g401) rfl) ?_
     obtain ⟨x504, e505, hF⟩ := zD hF
     obtain ⟨b506, o507, c508, cs509, q510, h513, h511, h512, h514⟩ := wQ (H.item (i := 3) rfl) e505
     obtain rfl : cs509 = [.string (bs x504)] := h513
     have H := H.fz (.at b506 (o507 + g401.toNat * 1) _) ⟨h511, h512, h514⟩
     refine Mx.zU rfl rfl rfl (fun w' hw' => xY u22 sz9 q510 rfl (yN e505).1 (yN e505).2.1 rfl rfl) ?_
     refine Mx.xC oS rfl rfl rfl (fun w' hw' => zM one9 rfl (Cells.get ((H.sees hw').item (i := 11) rfl).2.2 (i := 0) rfl)) ?_
     obtain ⟨x516, e517, hF⟩ := zG hF
     subst e517
     refine Mx.XL_exN oS rfl rfl rfl (fun w' hw' => Ls_of (Lx_bs (r := Rp.str) (xl := [x504]) (cs := [.string (bs x504)]) u22 el9 (by decide) (by decide) rfl (xK (vs := [.string (bs x504)]) (by decide) rfl rfl ⟨rfl, trivial⟩ rfl) (H.sees hw') ⟨[.string (bs x504)], [], rfl, rfl, rfl⟩) (Ys_bs (cs := [.string (bs x504)]) u22 el9 (by decide) (by decide) (xK (vs := [.string (bs x504)]) (by decide) rfl rfl ⟨rfl, trivial⟩ rfl))) ?_
     rintro w' v519 w520 hw' H
     obtain ⟨x521, e522, hF⟩ := zD hF
     refine Mx.XL_ex oS rfl rfl rfl (fun w' hw' => Lx_app (H.sees hw') (i := 9) rfl u22 el9 rfl rfl (Sr.of_own ((H.sees hw').item (i := 12) rfl)) e522) ?_
     rintro w' v523 w524 hw' H
     refine ⟨H.only, ?_⟩
     refine Mx.zU rfl rfl rfl (fun w' hw' => fa26_0 rfl) ?_
     refine Mx.XL_exU oS rfl rfl (fun w' hw' => xM (H.sees hw') 10 rfl sz22 rfl (v := v523) rfl (xU ((H.sees hw').item (i := 9) rfl)) rfl) ?_
     rintro w' w525 hw' H
     refine ⟨H.only, ?_⟩
     refine Mx.XL_nil fun w526 hS => ?_
     have H := H.sees hS
     have H := H502.rejoin H
     obtain rfl := someI hF
     exact (yU (zA (meet ⟨v523, zO, H.pick [0, 1, 2, 3, 4, 5, 6, 7, 8, 9, 10] (by decide)⟩)))
    have hF := zS c501 hF
    obtain rfl := someI hF
    exact (yA (yU (zA (meet ⟨v403, zO, H.pick [0, 1, 2, 3, 4, 5, 6, 7, 8, 9, 10] (by decide)⟩))))
   rintro v477 ρ w478 H
   have hF := hK479
   refine zB ?_
   refine zN (.int .i64 g401) ?_
   obtain ⟨x527, e528, hF⟩ := zG hF
   refine zH (xX (a := g401) (b := 1) rfl rfl e528) ?_
   refine zI (.int .i64 x527) ?_
   exact (zF (zA (meet ⟨(n409, x527, g476, v477), (zL rfl zO), ⟨H.pick [0, 1, 2, 3, 4, 5, 6, 7, 8, 9, 10] (by decide), hF⟩, Nat.lt_succ_self _⟩)))
  have hF := zS c428 hF
  obtain rfl := someI hF
  exact (xP (yR (yR (xA (zA (meet ⟨v403, zO, H.pick [0, 1, 2, 3, 4, 5, 6, 7, 8, 9, 10] (by decide)⟩))))))
 rintro v250 ρ w251 H
 have hF := hK252
 refine zC fun K529 hK529 => ?_
 have H := H.freezeB (i := 7) rfl
 have H530 := H
 have H := H.rebase
 have H531 := H
 have h532 := H.firm (i := 7) rfl
 refine WP_mix H [0, 1, 2, 3, 5, 6, 4, 7, 8, 9] [.pure, .read, .pure, .read, .eff, .pure, .pure, .eff, .pure, .eff] mixed (by kernel_rfl) (by kernel_rfl) (by kernel_rfl) (by decide) ?_
 refine Mx.zU rfl rfl rfl (fun w' hw' => fa26_1 rfl) ?_
 refine Mx.xC oS rfl rfl rfl (fun w' hw' => zM one23 rfl (Cells.get (Blk.cells ((H.sees hw').item (i := 10) rfl)) (i := 1) rfl)) ?_
 refine Mx.zU rfl rfl rfl (fun w' hw' => fa26_1 rfl) ?_
 refine Mx.xC oS rfl rfl rfl (fun w' hw' => zM one23 rfl (Cells.get (Blk.cells ((H.sees hw').item (i := 6) rfl)) (i := 1) rfl)) ?_
 refine Mx.zU rfl rfl rfl (fun w' hw' => fa26_1 rfl) ?_
 refine Mx.zU rfl rfl rfl (fun w' hw' => zM one23 rfl (Cells.get (h532 w' hw').2.2 (i := 1) rfl)) ?_
 have H := own_nil H rMoveT 102
 obtain ⟨x534, e535, hF⟩ := zD hF
 refine Mx.XL_ex oS rfl rfl rfl (fun w' hw' => Lx_app (H.sees hw') (i := 11) rfl u23 el102 rfl rfl (Sr.of_rd ((H.sees hw').item (i := 1) rfl)) e535) ?_
 rintro w' v536 w537 hw' H
 refine ⟨H.only, ?_⟩
 obtain ⟨x538, e539, hF⟩ := zD hF
 refine Mx.XL_ex oS rfl rfl rfl (fun w' hw' => Lx_app (H.sees hw') (i := 11) rfl u23 el102 rfl rfl (Sr.of_rd ((H.sees hw').item (i := 4) rfl)) e539) ?_
 rintro w' v540 w541 hw' H
 refine ⟨H.only, ?_⟩
 refine Mx.zU rfl rfl rfl (fun w' hw' => fa26_1 rfl) ?_
 refine Mx.XL_exU oS rfl rfl (fun w' hw' => xM (H.sees hw') 10 rfl sz23 rfl (v := v540) rfl (xU ((H.sees hw').item (i := 11) rfl)) rfl) ?_
 rintro w' w542 hw' H
 refine ⟨H.only, ?_⟩
 refine Mx.XL_nil fun w543 hS => ?_
 have H := H.sees hS
 have H := H530.rejoin H
 refine (zA (hK529 _ _ ?_))
 have H : Hd O w w543 S [.fz (.sl Rp.str v1 p0.Phases), .fz (.sl rMoveT v2 p0.Moves), .fz (.sl rRule v3 p0.Rules), .fz (.sl Rp.str v7 p1.Phases), .fz (.sl rMoveT v8 p1.Moves), .fz (.sl rRule v9 p1.Rules), .blk b17 [v1, v2, v3] 26, .fz (.at b20 0 [v7, v8, v9]), .blk b23 [.slice none 0 0, .slice none 0 0, .slice none 0 0] 26, .own Rp.str v250 9 g249, .blk b91 [v250, v540, .slice none 0 0] 26, .own rMoveT v540 102 x538] := H
 refine zC fun K544 hK544 => ?_
 have H545 := H
 have H := H.rebase
 have H546 := H
 have h547 := H.firm (i := 7) rfl
 refine WP_mix H [0, 1, 2, 3, 5, 6, 4, 7, 8, 9] [.pure, .read, .pure, .read, .eff, .pure, .pure, .eff, .pure, .eff] mixed (by kernel_rfl) (by kernel_rfl) (by kernel_rfl) (by decide) ?_
 refine Mx.zU rfl rfl rfl (fun w' hw' => fa26_2 rfl) ?_
 refine Mx.xC oS rfl rfl rfl (fun w' hw' => zM one24 rfl (Cells.get (Blk.cells ((H.sees hw').item (i := 10) rfl)) (i := 2) rfl)) ?_
 refine Mx.zU rfl rfl rfl (fun w' hw' => fa26_2 rfl) ?_
 refine Mx.xC oS rfl rfl rfl (fun w' hw' => zM one24 rfl (Cells.get (Blk.cells ((H.sees hw').item (i := 6) rfl)) (i := 2) rfl)) ?_
 refine Mx.zU rfl rfl rfl (fun w' hw' => fa26_2 rfl) ?_
 refine Mx.zU rfl rfl rfl (fun w' hw' => zM one24 rfl (Cells.get (h547 w' hw').2.2 (i := 2) rfl)) ?_
 have H := own_nil H rRule 106
 obtain ⟨x549, e550, hF⟩ := zD hF
 refine Mx.XL_ex oS rfl rfl rfl (fun w' hw' => Lx_app (H.sees hw') (i := 12) rfl u24 el106 rfl rfl (Sr.of_rd ((H.sees hw').item (i := 2) rfl)) e550) ?_
 rintro w' v551 w552 hw' H
 refine ⟨H.only, ?_⟩
 obtain ⟨x553, e554, hF⟩ := zD hF
 refine Mx.XL_ex oS rfl rfl rfl (fun w' hw' => Lx_app (H.sees hw') (i := 12) rfl u24 el106 rfl rfl (Sr.of_rd ((H.sees hw').item (i := 5) rfl)) e554) ?_
 rintro w' v555 w556 hw' H
 refine ⟨H.only, ?_⟩
 refine Mx.zU rfl rfl rfl (fun w' hw' => fa26_2 rfl) ?_
 refine Mx.XL_exU oS rfl rfl (fun w' hw' => xM (H.sees hw') 10 rfl sz24 rfl (v := v555) rfl (xU ((H.sees hw').item (i := 12) rfl)) rfl) ?_
 rintro w' w557 hw' H
 refine ⟨H.only, ?_⟩
 refine Mx.XL_nil fun w558 hS => ?_
 have H := H.sees hS
 have H := H545.rejoin H
 refine (zA (hK544 _ _ ?_))
 have H : Hd O w w558 S [.blk b23 [.slice none 0 0, .slice none 0 0, .slice none 0 0] 26, .own Rp.str v250 9 g249, .blk b91 [v250, v540, v555] 26, .own rMoveT v540 102 x538, .own rRule v555 106 x553] := H.pick [8, 9, 10, 11, 12] (by decide)
 refine zC fun K571 hK571 => ?_
 refine zC fun K572 hK572 => ?_
 refine zB ?_
 refine zH (yL (yH (cs := [v250, v540, v555]) agg26 rfl sz26 rfl (Blk.cells (H.item (i := 2) rfl))) rfl) ?_
 have H573 := H
 have H := H.freeze (i := 1) rfl
 have H := H.freeze (i := 3) rfl
 have H := H.freeze (i := 4) rfl
 obtain ⟨x574, e575, hF⟩ := zD hF
 refine zW rfl rfl (zT en49 rfl) (F_ref6_Check_w (Rules.mk g249 x538 x553) v250 v540 v555 _ e575 _ _ _ (H.enter [] [1, 3, 4] (by decide) rfl)) ?_
 rintro _ w576 ⟨rfl, G577⟩
 have H := H573.step (G577.only : Only [] _ _)
 refine ⟨_, rfl, ?_⟩
 refine zI (.int .i64 x574) ?_
 refine (zF (zA (hK572 _ _ ?_)))
 refine zC fun K578 hK578 => ?_
 refine zB ?_
 refine zN (.int .i64 x574) ?_
 obtain ⟨x579, e580, hF⟩ := zG hF
 refine zH (zV (Do_neq (a := x574) (b := 0) rfl rfl) e580) ?_
 refine (zF (zA (hK578 _ _ ?_)))
 refine zZ (b := x579) rfl (fun c581 => ?_) (fun c581 => ?_)
 ·have hF := zQ c581 hF
  refine zC fun K582 hK582 => ?_
  refine zB ?_
  refine zH (xN (cs := [.slice none 0 0, .slice none 0 0, .slice none 0 0]) bz26) ?_
  refine zN (.int .i64 x574) ?_
  refine yS rfl (yI (vs := [.slice none 0 0, .slice none 0 0, .slice none 0 0]) H 0 rfl sz26 rfl rfl rfl ⟨rfl, rfl, rfl, trivial⟩ rfl) ?_
  rintro w583 H
  refine zI (.int .i64 x574) ?_
  refine (zF (zA (hK582 _ _ ?_)))
  have H := H.fz (.sl Rp.str (.slice none 0 0) []) SlF.nil
  have H := H.fz (.sl rMoveT (.slice none 0 0) []) SlF.nil
  have H := H.fz (.sl rRule (.slice none 0 0) []) SlF.nil
  obtain rfl := someI hF
  refine (yB (zX (postc1 (v1 := .int .i64 x574) rfl rfl (yD agg26 sz26 rfl (Blk.cells (H.item (i := 0) rfl))) rfl ?_)))
  exact ⟨.slice none 0 0, .slice none 0 0, .slice none 0 0, rfl, H.pick [5, 6, 7] (by decide)⟩
 have hF := zS c581 hF
 refine (yA (zA (hK571 _ _ ?_)))
 refine zC fun K587 hK587 => ?_
 refine zB ?_
 refine zH (yL (yH (cs := [v250, v540, v555]) agg26 rfl sz26 rfl (Blk.cells (H.item (i := 2) rfl))) rfl) ?_
 refine yS rfl (yI (vs := [v250, v540, v555]) H 0 rfl sz26 rfl rfl rfl ⟨(xU (H.item (i := 1) rfl)), (xU (H.item (i := 3) rfl)), (xU (H.item (i := 4) rfl)), trivial⟩ rfl) ?_
 rintro w588 H
 refine zI (.int .i64 0) ?_
 refine (zF (zA (hK587 _ _ ?_)))
 have H := H.freeze (i := 1) rfl
 have H := H.freeze (i := 3) rfl
 have H := H.freeze (i := 4) rfl
 obtain rfl := someI hF
 refine (yB (postc1 (v1 := .int .i64 0) rfl rfl (yD agg26 sz26 rfl (Blk.cells (H.item (i := 0) rfl))) rfl ?_))
 exact ⟨v250, v540, v555, rfl, H.pick [1, 3, 4] (by decide)⟩
set_option maxHeartbeats 4000000 in
theorem F_event_reader_fail_w (p0 : Option EventReader) (p1 : Int) (v1 : Option Addr) (r : Unit) (hF : F_event_reader_fail p0 p1 = some r) (O S : List Nat) (w : World) (H : Hd O w w S [.fz (.pt rEventReader v1 p0)]) :
  Calls Tryz.prog 92 ([.pointer v1, .int .i64 p1] : List Value).toArray w fun e w' => e = .returned (.tuple #[]) ∧ Hd O w w' S [] := by
 unfold F_event_reader_fail at hF
 refine yC 12 Tryz.func92 rfl rfl rfl ?_
 cases hF
set_option maxHeartbeats 4000000 in
theorem F_internal_stringslite_IndexByte_w (p0 : Str) (p1 : Int) (r : Int) (hF : F_internal_stringslite_IndexByte p0 p1 = some r) (O S : List Nat) (w : World) (H : Hd O w w S []) :
  Calls Tryz.prog 202 ([.string (bs p0), .int .u8 p1] : List Value).toArray w fun e w' => e = .returned (.int .i64 r) ∧ Hd O w w' S [] := by
 unfold F_internal_stringslite_IndexByte at hF
 refine yC 8 Tryz.func202 rfl rfl rfl ?_
 refine zC fun K1 hK1 => ?_
 refine zB ?_
 refine zI (.int .i64 0) ?_
 refine (zF (zA (hK1 _ _ ?_)))
 refine zC fun K2 hK2 => ?_
 refine zB ?_
 refine zN (.string (bs p0)) ?_
 refine zN (.int .u8 p1) ?_
 obtain ⟨x3, e4, hF⟩ := zD hF
 refine zH (E.X_IndexByte_do e4 rfl) ?_
 refine zI (.int .i64 x3) ?_
 refine (zF (zA (hK2 _ _ ?_)))
 obtain rfl := someI hF
 refine (yB (post1 (v1 := .int .i64 x3) rfl rfl ?_))
 exact ⟨rfl, H.pick [] (by decide)⟩
set_option maxHeartbeats 4000000 in
theorem F_strings_IndexByte_w (p0 : Str) (p1 : Int) (r : Int) (hF : F_strings_IndexByte p0 p1 = some r) (O S : List Nat) (w : World) (H : Hd O w w S []) :
  Calls Tryz.prog 174 ([.string (bs p0), .int .u8 p1] : List Value).toArray w fun e w' => e = .returned (.int .i64 r) ∧ Hd O w w' S [] := by
 unfold F_strings_IndexByte at hF
 refine yC 8 Tryz.func174 rfl rfl rfl ?_
 refine zC fun K1 hK1 => ?_
 refine zB ?_
 refine zI (.int .i64 0) ?_
 refine (zF (zA (hK1 _ _ ?_)))
 refine zC fun K2 hK2 => ?_
 refine zB ?_
 refine zN (.string (bs p0)) ?_
 refine zN (.int .u8 p1) ?_
 have H3 := H
 obtain ⟨x4, e5, hF⟩ := zD hF
 refine zW rfl rfl (zT en202 rfl) (F_internal_stringslite_IndexByte_w p0 p1 _ e5 _ _ _ (H.enter [] [] (by decide) rfl)) ?_
 rintro _ w6 ⟨rfl, G7⟩
 have H := H3.step (G7.only : Only [] _ _)
 refine ⟨_, rfl, ?_⟩
 refine zI (.int .i64 x4) ?_
 refine (zF (zA (hK2 _ _ ?_)))
 obtain rfl := someI hF
 refine (yB (post1 (v1 := .int .i64 x4) rfl rfl ?_))
 exact ⟨rfl, H.pick [] (by decide)⟩
set_option maxHeartbeats 4000000 in
set_option maxRecDepth 100000 in
theorem F_event_reader_blanks_w (p0 : EventReader) (b1 : Nat) (v2 : Value) (v3 : Value) (v4 : Value) (r : EventReader) (hF : F_event_reader_blanks p0 = some r) (O S : List Nat) (w : World) (H : Hd O w w S [.own Rp.str v2 9 p0.r.Phases, .own rMoveT v3 102 p0.r.Moves, .own rRule v4 106 p0.r.Rules, .blk b1 [.string (bs p0.text), .int .i64 p0.at_, .int .i64 p0.now.kind, .int .i64 p0.now.at_, .int .i64 p0.now.n, .string (bs p0.now.text), v2, v3, v4] 88]) :
  Calls Tryz.prog 137 ([.pointer (some ⟨b1, 0, none⟩)] : List Value).toArray w fun e w' => ∃ u9 u10 u11, e = .returned (.tuple #[]) ∧ Hd O w w' S [.own Rp.str u9 9 r.r.Phases, .own rMoveT u10 102 r.r.Moves, .own rRule u11 106 r.r.Rules, .blk b1 [.string (bs r.text), .int .i64 r.at_, .int .i64 r.now.kind, .int .i64 r.now.at_, .int .i64 r.now.n, .string (bs r.now.text), u9, u10, u11] 88] := by
 unfold F_event_reader_blanks at hF
 refine yC 66 Tryz.func137 rfl rfl rfl ?_
 refine yF ?_
 unfold F_event_reader_blanks_L1 at hF
 obtain ⟨B166, n167, eB168, hF⟩ := yV hF
 refine xJ [2, 3, 4, 5, 6, 7, 8, 9, 10, 11, 12, 13, 14, 15, 16, 17, 18, 19, 20, 21, 22, 23, 24, 25, 26, 27, 28, 29, 30, 31, 32, 33, 34, 35, 36, 37, 38, 39, 40, 41, 42, 43, 44, 45, 46, 47, 48, 49, 50, 51, 52, 53, 54, 55, 56, 57, 58, 59, 60, 61, 62, 63, 64, 65] (fun (g : Nat × Int) => []) (fun g wl => Hd O w wl S [.own Rp.str v2 9 p0.r.Phases, .own rMoveT v3 102 p0.r.Moves, .own rRule v4 106 p0.r.Rules, .blk b1 [.string (bs p0.text), .int .i64 g.2, .int .i64 p0.now.kind, .int .i64 p0.now.at_, .int .i64 p0.now.n, .string (bs p0.now.text), v2, v3, v4] 88] ∧ loopN B166 g.1 g.2 = some r) (fun g => g.1) (n167, p0.at_) zO ⟨H.pick [0, 1, 2, 3] (by decide), hF⟩ ?_
 clear H hF
 rintro ⟨n167, g165⟩ ρ w170 ⟨H, hF⟩
 obtain ⟨n171, rfl, hF⟩ := xB hF
 have hF := yZ eB168 hF
 refine zC fun K181 hK181 => ?_
 refine zC fun K182 hK182 => ?_
 have H183 := H
 have H := H.rebase
 have H184 := H
 refine WP_mix0 H [0, 1, 2, 3, 4, 5, 6, 7, 8, 9] [.pure, .pure, .pure, .read, .pure, .pure, .pure, .read, .pure, .pure] mixed (by kernel_rfl) (by kernel_rfl) (by kernel_rfl) rfl ?_
 refine Mx.zU rfl rfl rfl (fun w' hw' => xI (v := .pointer (some ⟨b1, 0, none⟩)) rfl) ?_
 refine Mx.zU rfl rfl rfl (fun w' hw' => yM rfl) ?_
 refine Mx.zU rfl rfl rfl (fun w' hw' => fa88_1 rfl) ?_
 refine Mx.xC oS rfl rfl rfl (fun w' hw' => zM one3 rfl (Cells.get (Blk.cells ((H.sees hw').item (i := 3) rfl)) (i := 1) rfl)) ?_
 refine Mx.zU rfl rfl rfl (fun w' hw' => xI (v := .pointer (some ⟨b1, 0, none⟩)) rfl) ?_
 refine Mx.zU rfl rfl rfl (fun w' hw' => yM rfl) ?_
 refine Mx.zU rfl rfl rfl (fun w' hw' => fa88_0 rfl) ?_
 refine Mx.xC oS rfl rfl rfl (fun w' hw' => zM one9 rfl (Cells.get (Blk.cells ((H.sees hw').item (i := 3) rfl)) (i := 0) rfl)) ?_
 obtain ⟨x185, e186, hF⟩ := zG hF
 refine Mx.zU rfl rfl rfl (fun w' hw' => yL (Do_slen (s1 := p0.text) u9 rfl) (congrArg (Value.int .i64) e186)) ?_
 obtain ⟨x187, e188, hF⟩ := zG hF
 refine Mx.zU rfl rfl rfl (fun w' hw' => zV (xQ (a := g165) (b := x185) rfl rfl) e188) ?_
 refine Mx.XL_nil fun w189 hS => ?_
 have H := H.sees hS
 have H := H183.rejoin H
 refine (zA (hK182 _ _ ?_))
 refine zZ (b := x187) rfl (fun c190 => ?_) (fun c190 => ?_)
 ·have hF := zQ c190 hF
  refine (yA (zA (hK181 _ _ ?_)))
  refine yF ?_
  refine zC fun K191 hK191 => ?_
  have H192 := H
  have H := H.rebase
  have H193 := H
  refine WP_mix0 H [0, 1, 2, 3, 4, 5, 6, 7, 8] [.pure, .pure, .pure, .read, .pure, .pure, .pure, .read, .pure] mixed (by kernel_rfl) (by kernel_rfl) (by kernel_rfl) rfl ?_
  refine Mx.zU rfl rfl rfl (fun w' hw' => xI (v := .pointer (some ⟨b1, 0, none⟩)) rfl) ?_
  refine Mx.zU rfl rfl rfl (fun w' hw' => yM rfl) ?_
  refine Mx.zU rfl rfl rfl (fun w' hw' => fa88_0 rfl) ?_
  refine Mx.xC oS rfl rfl rfl (fun w' hw' => zM one9 rfl (Cells.get (Blk.cells ((H.sees hw').item (i := 3) rfl)) (i := 0) rfl)) ?_
  refine Mx.zU rfl rfl rfl (fun w' hw' => xI (v := .pointer (some ⟨b1, 0, none⟩)) rfl) ?_
  refine Mx.zU rfl rfl rfl (fun w' hw' => yM rfl) ?_
  refine Mx.zU rfl rfl rfl (fun w' hw' => fa88_1 rfl) ?_
  refine Mx.xC oS rfl rfl rfl (fun w' hw' => zM one3 rfl (Cells.get (Blk.cells ((H.sees hw').item (i := 3) rfl)) (i := 1) rfl)) ?_
  obtain ⟨x194, e195, hF⟩ := zD hF
  refine Mx.zU rfl rfl rfl (fun w' hw' => Do_sidx (s1 := p0.text) (q := g165) u9 rfl rfl e195) ?_
  refine Mx.XL_nil fun w196 hS => ?_
  have H := H.sees hS
  have H := H192.rejoin H
  refine (zA (hK191 _ _ ?_))
  refine yF ?_
  obtain ⟨g211, hF, hK213⟩ := zD hF
  refine yO [22, 23, 24, 25, 26] (fun (g : Unit) => [(22, .bool g211)]) (fun g wl => Hd O w wl S [.own Rp.str v2 9 p0.r.Phases, .own rMoveT v3 102 p0.r.Moves, .own rRule v4 106 p0.r.Rules, .blk b1 [.string (bs p0.text), .int .i64 g165, .int .i64 p0.now.kind, .int .i64 p0.now.at_, .int .i64 p0.now.n, .string (bs p0.now.text), v2, v3, v4] 88]) ?_ ?_
  ·skip
   refine zC fun K214 hK214 => ?_
   refine zB ?_
   obtain ⟨x215, e216, hF⟩ := zG hF
   refine zH (zV (xH (a := x194) (b := 32) rfl rfl) e216) ?_
   refine zI (.bool x215) ?_
   refine (zF (zA (hK214 _ _ ?_)))
   refine zZ (b := x215) rfl (fun c217 => ?_) (fun c217 => ?_)
   ·have hF := zQ c217 hF
    obtain rfl := someI hF
    exact (yA (zA (meet ⟨(), (zL rfl zO), H.pick [0, 1, 2, 3] (by decide)⟩)))
   have hF := zS c217 hF
   refine zC fun K218 hK218 => ?_
   refine zB ?_
   obtain ⟨x219, e220, hF⟩ := zG hF
   refine zH (zV (xH (a := x194) (b := 9) rfl rfl) e220) ?_
   refine zI (.bool x219) ?_
   refine (zF (zA (hK218 _ _ ?_)))
   refine zZ (b := x219) rfl (fun c221 => ?_) (fun c221 => ?_)
   ·have hF := zQ c221 hF
    obtain rfl := someI hF
    exact (yA (zA (meet ⟨(), (zL rfl zO), H.pick [0, 1, 2, 3] (by decide)⟩)))
   have hF := zS c221 hF
   refine zC fun K222 hK222 => ?_
   refine zB ?_
   obtain ⟨x223, e224, hF⟩ := zG hF
   refine zH (zV (xH (a := x194) (b := 10) rfl rfl) e224) ?_
   refine zI (.bool x223) ?_
   refine (zF (zA (hK222 _ _ ?_)))
   refine zZ (b := x223) rfl (fun c225 => ?_) (fun c225 => ?_)
   ·have hF := zQ c225 hF
    obtain rfl := someI hF
    exact (yA (zA (meet ⟨(), (zL rfl zO), H.pick [0, 1, 2, 3] (by decide)⟩)))
   have hF := zS c225 hF
   refine zB ?_
   obtain ⟨x226, e227, hF⟩ := zG hF
   refine zH (zV (xH (a := x194) (b := 13) rfl rfl) e227) ?_
   refine zI (.bool x226) ?_
   obtain rfl := someI hF
   exact (zF (zA (meet ⟨(), (zL rfl zO), H.pick [0, 1, 2, 3] (by decide)⟩)))
  rintro _ ρ w212 H
  have hF := hK213
  refine zZ (b := g211) rfl (fun c228 => ?_) (fun c228 => ?_)
  ·have hF := zQ c228 hF
   refine zB ?_
   refine zN (.pointer (some ⟨b1, 0, none⟩)) ?_
   refine zH (yM rfl) ?_
   refine zH (fa88_1 rfl) ?_
   refine zH (zM one3 rfl (Cells.get (Blk.cells (H.item (i := 3) rfl)) (i := 1) rfl)) ?_
   obtain ⟨x229, e230, hF⟩ := zG hF
   refine zH (xX (a := g165) (b := 1) rfl rfl e230) ?_
   refine zH (yM rfl) ?_
   refine zH (fa88_1 rfl) ?_
   refine yS rfl (xM H 3 rfl sz3 rfl (v := .int .i64 x229) rfl rfl rfl) ?_
   rintro w231 H
   exact (zF (yU (yU (zA (meet ⟨(n171, x229), zO, ⟨H.pick [0, 1, 2, 3] (by decide), hF⟩, Nat.lt_succ_self _⟩)))))
  have hF := zS c228 hF
  refine zC fun K232 hK232 => ?_
  refine zB ?_
  obtain ⟨x233, e234, hF⟩ := zG hF
  refine zH (zV (xH (a := x194) (b := 35) rfl rfl) e234) ?_
  refine zI (.bool x233) ?_
  refine (zF (zA (hK232 _ _ ?_)))
  refine zZ (b := x233) rfl (fun c235 => ?_) (fun c235 => ?_)
  ·have hF := zQ c235 hF
   refine zC fun K236 hK236 => ?_
   have H237 := H
   have H := H.rebase
   have H238 := H
   refine WP_mix0 H [0, 1, 2, 3, 4, 5, 6, 7, 8, 9, 10] [.pure, .pure, .pure, .read, .pure, .pure, .pure, .read, .pure, .fcall, .pure] mixed (by kernel_rfl) (by kernel_rfl) (by kernel_rfl) rfl ?_
   refine Mx.zU rfl rfl rfl (fun w' hw' => xI (v := .pointer (some ⟨b1, 0, none⟩)) rfl) ?_
   refine Mx.zU rfl rfl rfl (fun w' hw' => yM rfl) ?_
   refine Mx.zU rfl rfl rfl (fun w' hw' => fa88_0 rfl) ?_
   refine Mx.xC oS rfl rfl rfl (fun w' hw' => zM one9 rfl (Cells.get (Blk.cells ((H.sees hw').item (i := 3) rfl)) (i := 0) rfl)) ?_
   refine Mx.zU rfl rfl rfl (fun w' hw' => xI (v := .pointer (some ⟨b1, 0, none⟩)) rfl) ?_
   refine Mx.zU rfl rfl rfl (fun w' hw' => yM rfl) ?_
   refine Mx.zU rfl rfl rfl (fun w' hw' => fa88_1 rfl) ?_
   refine Mx.xC oS rfl rfl rfl (fun w' hw' => zM one3 rfl (Cells.get (Blk.cells ((H.sees hw').item (i := 3) rfl)) (i := 1) rfl)) ?_
   obtain ⟨x239, e240, hF⟩ := zD hF
   refine Mx.zU rfl rfl rfl (fun w' hw' => Do_cut_l (s1 := p0.text) u9 rfl rfl e240) ?_
   have H241 := H
   obtain ⟨x242, e243, hF⟩ := zD hF
   refine Mx.XL_fcall oS rfl rfl rfl (v := .int .i64 x242) (fun w' hw' => zT en174 rfl) (fun w' hw' => call_read (F_strings_IndexByte_w x239 10 _ e243 _ _ _ (Hd.fresh0 w'))) ?_
   have H := H241
   refine Mx.zU rfl rfl rfl (fun w' hw' => wJ (v := .int .i64 x242) rfl) ?_
   refine Mx.XL_nil fun w244 hS => ?_
   have H := H.sees hS
   have H := H237.rejoin H
   refine (zA (hK236 _ _ ?_))
   obtain ⟨g256, hF, hK258⟩ := zD hF
   refine yO [2, 46, 47, 48, 49, 50, 51, 52, 53, 54, 55, 56, 57] (fun (g : Unit) => [(2, .int .i64 g256)]) (fun g wl => Hd O w wl S [.own Rp.str v2 9 p0.r.Phases, .own rMoveT v3 102 p0.r.Moves, .own rRule v4 106 p0.r.Rules, .blk b1 [.string (bs p0.text), .int .i64 g165, .int .i64 p0.now.kind, .int .i64 p0.now.at_, .int .i64 p0.now.n, .string (bs p0.now.text), v2, v3, v4] 88]) ?_ ?_
   ·skip
    refine zC fun K259 hK259 => ?_
    refine zB ?_
    refine zN (.int .i64 x242) ?_
    obtain ⟨x260, e261, hF⟩ := zG hF
    refine zH (zV (xQ (a := x242) (b := 0) rfl rfl) e261) ?_
    refine (zF (zA (hK259 _ _ ?_)))
    refine zZ (b := x260) rfl (fun c262 => ?_) (fun c262 => ?_)
    ·have hF := zQ c262 hF
     have H263 := H
     have H := H.rebase
     have H264 := H
     refine WP_mix0 H [0, 1, 2, 3, 4, 5, 6, 7, 8, 9, 10] [.pure, .pure, .pure, .read, .pure, .pure, .pure, .pure, .read, .pure, .pure] mixed (by kernel_rfl) (by kernel_rfl) (by kernel_rfl) rfl ?_
     refine Mx.zU rfl rfl rfl (fun w' hw' => xI (v := .pointer (some ⟨b1, 0, none⟩)) rfl) ?_
     refine Mx.zU rfl rfl rfl (fun w' hw' => yM rfl) ?_
     refine Mx.zU rfl rfl rfl (fun w' hw' => fa88_0 rfl) ?_
     refine Mx.xC oS rfl rfl rfl (fun w' hw' => zM one9 rfl (Cells.get (Blk.cells ((H.sees hw').item (i := 3) rfl)) (i := 0) rfl)) ?_
     obtain ⟨x265, e266, hF⟩ := zG hF
     refine Mx.zU rfl rfl rfl (fun w' hw' => yL (Do_slen (s1 := p0.text) u9 rfl) (congrArg (Value.int .i64) e266)) ?_
     refine Mx.zU rfl rfl rfl (fun w' hw' => xI (v := .pointer (some ⟨b1, 0, none⟩)) rfl) ?_
     refine Mx.zU rfl rfl rfl (fun w' hw' => yM rfl) ?_
     refine Mx.zU rfl rfl rfl (fun w' hw' => fa88_1 rfl) ?_
     refine Mx.xC oS rfl rfl rfl (fun w' hw' => zM one3 rfl (Cells.get (Blk.cells ((H.sees hw').item (i := 3) rfl)) (i := 1) rfl)) ?_
     obtain ⟨x267, e268, hF⟩ := zG hF
     refine Mx.zU rfl rfl rfl (fun w' hw' => Do_sub (a := x265) (b := g165) rfl rfl e268) ?_
     refine Mx.zU rfl rfl rfl (fun w' hw' => wJ (v := .int .i64 x267) rfl) ?_
     refine Mx.XL_nil fun w269 hS => ?_
     have H := H.sees hS
     have H := H263.rejoin H
     obtain rfl := someI hF
     exact (zA (meet ⟨(), (zL rfl zO), H.pick [0, 1, 2, 3] (by decide)⟩))
    have hF := zS c262 hF
    obtain rfl := someI hF
    exact (yA (zA (meet ⟨(), (zL rfl zO), H.pick [0, 1, 2, 3] (by decide)⟩)))
   rintro _ ρ w257 H
   have hF := hK258
   refine zB ?_
   refine zN (.pointer (some ⟨b1, 0, none⟩)) ?_
   refine zH (yM rfl) ?_
   refine zH (fa88_1 rfl) ?_
   refine zH (zM one3 rfl (Cells.get (Blk.cells (H.item (i := 3) rfl)) (i := 1) rfl)) ?_
   refine zN (.int .i64 g256) ?_
   obtain ⟨x270, e271, hF⟩ := zG hF
   refine zH (xX (a := g165) (b := g256) rfl rfl e271) ?_
   refine zH (yM rfl) ?_
   refine zH (fa88_1 rfl) ?_
   refine yS rfl (xM H 3 rfl sz3 rfl (v := .int .i64 x270) rfl rfl rfl) ?_
   rintro w272 H
   exact (zF (yU (yU (zA (meet ⟨(n171, x270), zO, ⟨H.pick [0, 1, 2, 3] (by decide), hF⟩, Nat.lt_succ_self _⟩)))))
  have hF := zS c235 hF
  obtain rfl := someI hF
  refine (yB (yE (yE (zX (yE (post0 rfl ?_))))))
  exact ⟨v2, v3, v4, rfl, H.pick [0, 1, 2, 3] (by decide)⟩
 have hF := zS c190 hF
 obtain rfl := someI hF
 refine (xP (yR (yR (xA (post0n rfl ?_)))))
 exact ⟨v2, v3, v4, rfl, H.pick [0, 1, 2, 3] (by decide)⟩
end Go.Proofs.YtnajnkghilemhaaGreatDoor.L
