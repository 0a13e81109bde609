/- Walks: what each function computes, for every argument; no condition but those that stand in the statements. -/
import Derived.Test.YtnajnkghilemhaaGreatDoorIV0
import Derived.Test.YtnajnkghilemhaaGreatDoorIV4
import Derived.Test.YtnajnkghilemhaaGreatDoorIV5
namespace Go.Proofs.YtnajnkghilemhaaGreatDoor.L
open Go.RowKit Go.OB Go.Lf
set_option maxHeartbeats 4000000 in
set_option maxRecDepth 100000 in
theorem F_event_reader_part_B_w (rfB : EventReader → Int → Option (Cond × EventReader)) (rhB : S_event_reader_cond rfB) (rfA : EventReader → Int → Option (Cond × EventReader)) (rhA : S_event_reader_part rfA) (p0 : EventReader) (p1 : Int) (b1 : Nat) (v2 : Value) (v3 : Value) (v4 : Value) (r : Cond × EventReader) (hF : F_event_reader_part_B rfB rfA p0 p1 = some r) (O S : List Nat) (w : World) (H : Hd O w w S [.own Rp.str v2 9 p0.r.Phases, .own rMoveT v3 102 p0.r.Moves, .own rRule v4 106 p0.r.Rules, .blk b1 [.string (bs p0.text), .int .i64 p0.at_, .int .i64 p0.now.kind, .int .i64 p0.now.at_, .int .i64 p0.now.n, .string (bs p0.now.text), v2, v3, v4] 88, .fz (.at 0 0 ((Fl.arr 7 Fl.str).f zJ)), .fz (.gi 4)]) :
  Calls Tryz.prog 144 ([.pointer (some ⟨b1, 0, none⟩), .int .i64 p1] : List Value).toArray w fun e w' => ∃ u11 u12 u13 u14, e = .returned (.agg [.int .i64 r.1.Kind, .string (bs r.1.Name), .string (bs r.1.Other), .int .i64 r.1.Op, .int .i64 r.1.N, .int .i64 r.1.Frames, u11].toArray) ∧ Hd O w w' S [.fz (.sl rCond u11 r.1.Kids), .own Rp.str u12 9 r.2.r.Phases, .own rMoveT u13 102 r.2.r.Moves, .own rRule u14 106 r.2.r.Rules, .blk b1 [.string (bs r.2.text), .int .i64 r.2.at_, .int .i64 r.2.now.kind, .int .i64 r.2.now.at_, .int .i64 r.2.now.n, .string (bs r.2.now.text), u12, u13, u14] 88] := by
 unfold F_event_reader_part_B at hF
 refine yB 110 Tryz.func144 rfl rfl rfl ?_
 refine zC fun K15 hK15 => ?_
 refine zB ?_
 refine yX rfl rfl (Lx_box1 rfl rfl H) ?_
 rintro _ w18 ⟨b16, rfl, H⟩
 refine yX rfl rfl (Lx_box1 rfl rfl H) ?_
 rintro _ w21 ⟨b19, rfl, H⟩
 refine yX rfl rfl (xB zero54 H) ?_
 rintro _ w24 ⟨b22, rfl, H⟩
 refine (zF (zA (hK15 _ _ ?_)))
 obtain ⟨j42, hF, hK41⟩ := zD hF
 refine yL [9, 10, 11, 12, 13] (fun (g : Unit) => []) (fun g wl => Hd O w wl S [.own Rp.str v2 9 p0.r.Phases, .own rMoveT v3 102 p0.r.Moves, .own rRule v4 106 p0.r.Rules, .blk b1 [.string (bs p0.text), .int .i64 p0.at_, .int .i64 p0.now.kind, .int .i64 p0.now.at_, .int .i64 p0.now.n, .string (bs p0.now.text), v2, v3, v4] 88, .fz (.at 0 0 ((Fl.arr 7 Fl.str).f zJ)), .fz (.gi 4), .blk b16 [.pointer (some ⟨b1, 0, none⟩)] 84, .blk b19 [.int .i64 p1] 3, .blk b22 [.int .i64 0, .string (bs []), .string (bs []), .int .i64 0, .int .i64 0, .int .i64 0, .slice none 0 0] 54]) ?_ ?_
 ·skip
  refine zC fun K43 hK43 => ?_
  refine zB ?_
  refine zH (zT one84 rfl (Cells.get (Blk.cells (H.item (i := 6) rfl)) (i := 0) rfl)) ?_
  have H44 := H
  have H := H.freezeB (i := 3) rfl
  have H := H.freeze (i := 0) rfl
  have H := H.freeze (i := 1) rfl
  have H := H.freeze (i := 2) rfl
  have H := H.fz (.pt rEventReader (some ⟨b1, 0, none⟩) (some p0)) ⟨_, _, _, rfl, (H.item (i := 3) rfl).1, (H.item (i := 3) rfl).2.1, (xN (x := p0) (H.item (i := 0) rfl) (H.item (i := 1) rfl) (H.item (i := 2) rfl)), (H.item (i := 3) rfl).2.2⟩
  obtain ⟨x46, e47, hF⟩ := zD hF
  refine zV rfl rfl (zU en178 rfl) (F_event_reader_begins_w (some p0) (some ⟨b1, 0, none⟩) _ e47 _ _ _ (H.enter [] [9] (by decide) rfl)) ?_
  rintro _ w48 ⟨rfl, G49⟩
  have H := H44.step (G49.only : Only [] _ _)
  refine ⟨_, rfl, ?_⟩
  obtain ⟨x50, e51, hF⟩ := zG hF
  refine zH (zS (xY (p := x46) rfl) e51) ?_
  refine (zF (zA (hK43 _ _ ?_)))
  refine zW (b := x50) rfl (fun c52 => ?_) (fun c52 => ?_)
  ·have hF := zO c52 hF
   refine zB ?_
   refine zH (zT one84 rfl (Cells.get (Blk.cells (H.item (i := 6) rfl)) (i := 0) rfl)) ?_
   have H53 := H
   have H := H.freezeB (i := 3) rfl
   have H := H.freeze (i := 0) rfl
   have H := H.freeze (i := 1) rfl
   have H := H.freeze (i := 2) rfl
   have H := H.fz (.pt rEventReader (some ⟨b1, 0, none⟩) (some p0)) ⟨_, _, _, rfl, (H.item (i := 3) rfl).1, (H.item (i := 3) rfl).2.1, (xN (x := p0) (H.item (i := 0) rfl) (H.item (i := 1) rfl) (H.item (i := 2) rfl)), (H.item (i := 3) rfl).2.2⟩
   obtain ⟨_, e55, hF⟩ := zD hF
   refine zV rfl rfl (zU en92 rfl) (F_event_reader_fail_w (some p0) 6 (some ⟨b1, 0, none⟩) _ e55 _ _ _ (H.enter [] [9] (by decide) rfl)) ?_
   rintro _ w56 ⟨rfl, G57⟩
   have H := H53.step (G57.only : Only [] _ _)
   refine ⟨_, rfl, ?_⟩
   obtain rfl := someI hF
   exact (zF (zA (meet ⟨(), zL, H.pick [0, 1, 2, 3, 4, 5, 6, 7, 8] (by decide)⟩)))
  have hF := zN c52 hF
  obtain rfl := someI hF
  exact (yA (zA (meet ⟨(), zL, H.pick [0, 1, 2, 3, 4, 5, 6, 7, 8] (by decide)⟩)))
 rintro _ ρ w40 H
 have hF := hK41
 obtain ⟨j69, hF, hK68⟩ := zD hF
 refine yL [14, 15, 16, 17] (fun (g : Unit) => []) (fun g wl => Hd O w wl S [.own Rp.str v2 9 p0.r.Phases, .own rMoveT v3 102 p0.r.Moves, .own rRule v4 106 p0.r.Rules, .blk b1 [.string (bs p0.text), .int .i64 p0.at_, .int .i64 p0.now.kind, .int .i64 p0.now.at_, .int .i64 p0.now.n, .string (bs p0.now.text), v2, v3, v4] 88, .fz (.at 0 0 ((Fl.arr 7 Fl.str).f zJ)), .fz (.gi 4), .blk b16 [.pointer (some ⟨b1, 0, none⟩)] 84, .blk b19 [.int .i64 p1] 3, .blk b22 [.int .i64 0, .string (bs []), .string (bs []), .int .i64 0, .int .i64 0, .int .i64 0, .slice none 0 0] 54]) ?_ ?_
 ·skip
  refine zC fun K70 hK70 => ?_
  refine zB ?_
  refine zH (zT one3 rfl (Cells.get (Blk.cells (H.item (i := 7) rfl)) (i := 0) rfl)) ?_
  obtain ⟨x71, e72, hF⟩ := zG hF
  refine zH (zS (Do_geq (a := p1) (b := 60) rfl rfl) e72) ?_
  refine (zF (zA (hK70 _ _ ?_)))
  refine zW (b := x71) rfl (fun c73 => ?_) (fun c73 => ?_)
  ·have hF := zO c73 hF
   refine zB ?_
   refine zH (zT one84 rfl (Cells.get (Blk.cells (H.item (i := 6) rfl)) (i := 0) rfl)) ?_
   have H74 := H
   have H := H.freezeB (i := 3) rfl
   have H := H.freeze (i := 0) rfl
   have H := H.freeze (i := 1) rfl
   have H := H.freeze (i := 2) rfl
   have H := H.fz (.pt rEventReader (some ⟨b1, 0, none⟩) (some p0)) ⟨_, _, _, rfl, (H.item (i := 3) rfl).1, (H.item (i := 3) rfl).2.1, (xN (x := p0) (H.item (i := 0) rfl) (H.item (i := 1) rfl) (H.item (i := 2) rfl)), (H.item (i := 3) rfl).2.2⟩
   obtain ⟨_, e76, hF⟩ := zD hF
   refine zV rfl rfl (zU en92 rfl) (F_event_reader_fail_w (some p0) 3 (some ⟨b1, 0, none⟩) _ e76 _ _ _ (H.enter [] [9] (by decide) rfl)) ?_
   rintro _ w77 ⟨rfl, G78⟩
   have H := H74.step (G78.only : Only [] _ _)
   refine ⟨_, rfl, ?_⟩
   obtain rfl := someI hF
   exact (zF (zA (meet ⟨(), zL, H.pick [0, 1, 2, 3, 4, 5, 6, 7, 8] (by decide)⟩)))
  have hF := zN c73 hF
  obtain rfl := someI hF
  exact (yA (zA (meet ⟨(), zL, H.pick [0, 1, 2, 3, 4, 5, 6, 7, 8] (by decide)⟩)))
 rintro _ ρ w67 H
 have hF := hK68
 refine zC fun K98 hK98 => ?_
 refine zC fun K99 hK99 => ?_
 refine zB ?_
 refine zH (zT one84 rfl (Cells.get (Blk.cells (H.item (i := 6) rfl)) (i := 0) rfl)) ?_
 refine zH (yG rfl) ?_
 refine zH (fa88_2 rfl) ?_
 refine zH (fa86_0 rfl) ?_
 refine zH (zT one3 rfl (Cells.get (Blk.cells (H.item (i := 3) rfl)) (i := 2) rfl)) ?_
 obtain ⟨x100, e101, hF⟩ := zG hF
 refine zH (zS (yP (a := p0.now.kind) (b := 2) rfl rfl) e101) ?_
 refine (zF (zA (hK99 _ _ ?_)))
 refine zW (b := x100) rfl (fun c102 => ?_) (fun c102 => ?_)
 ·have hF := zO c102 hF
  refine zC fun K103 hK103 => ?_
  refine zB ?_
  refine zH (zT one84 rfl (Cells.get (Blk.cells (H.item (i := 6) rfl)) (i := 0) rfl)) ?_
  obtain ⟨⟨x104, x105⟩, e106, hF⟩ := zD hF
  refine zV rfl rfl (zU en179 rfl) (F_event_reader_comparison_w p0 b1 v2 v3 v4 _ e106 _ _ _ (H.enter [0, 1, 2, 3] [4, 5] (by decide) rfl)) ?_
  rintro _ w115 ⟨v107, v109, v110, v111, rfl, G116⟩
  have H : Hd O _ w115 _ [.fz (.at 0 0 ((Fl.arr 7 Fl.str).f zJ)), .fz (.gi 4), .blk b16 [.pointer (some ⟨b1, 0, none⟩)] 84, .blk b19 [.int .i64 p1] 3, .blk b22 [.int .i64 0, .string (bs []), .string (bs []), .int .i64 0, .int .i64 0, .int .i64 0, .slice none 0 0] 54, .fz (.sl rCond v107 x104.Kids), .own Rp.str v109 9 x105.r.Phases, .own rMoveT v110 102 x105.r.Moves, .own rRule v111 106 x105.r.Rules, .blk b1 [.string (bs x105.text), .int .i64 x105.at_, .int .i64 x105.now.kind, .int .i64 x105.now.at_, .int .i64 x105.now.n, .string (bs x105.now.text), v109, v110, v111] 88] := H.back [0, 1, 2, 3] [4, 5] rfl G116
  refine ⟨_, rfl, ?_⟩
  refine yN rfl (yH (vs := [.int .i64 x104.Kind, .string (bs x104.Name), .string (bs x104.Other), .int .i64 x104.Op, .int .i64 x104.N, .int .i64 x104.Frames, v107]) H 4 rfl sz54 rfl rfl rfl ⟨rfl, rfl, rfl, rfl, rfl, rfl, (wE (H.item (i := 5) rfl)), trivial⟩ rfl) ?_
  rintro w117 H
  refine (zF (zA (hK103 _ _ ?_)))
  obtain rfl := someI hF
  refine (zZ (zY (postc  rfl rfl (yC agg54 sz54 rfl (Blk.cells (H.item (i := 4) rfl))) ?_)))
  exact ⟨v107, v109, v110, v111, rfl, H.pick [5, 6, 7, 8, 9] (by decide)⟩
 have hF := zN c102 hF
 refine (yA (zA (hK98 _ _ ?_)))
 refine zC fun K118 hK118 => ?_
 refine zB ?_
 refine zH (zT one84 rfl (Cells.get (Blk.cells (H.item (i := 6) rfl)) (i := 0) rfl)) ?_
 refine zH (yG rfl) ?_
 refine zH (fa88_2 rfl) ?_
 refine zH (fa86_3 rfl) ?_
 refine zH (zT one9 rfl (Cells.get (Blk.cells (H.item (i := 3) rfl)) (i := 5) rfl)) ?_
 refine zI (.string (bs p0.now.text)) ?_
 refine (zF (zA (hK118 _ _ ?_)))
 refine zC fun K119 hK119 => ?_
 refine zB ?_
 refine zH (zT one84 rfl (Cells.get (Blk.cells (H.item (i := 6) rfl)) (i := 0) rfl)) ?_
 obtain ⟨x120, e121, hF⟩ := zD hF
 refine zV rfl rfl (zU en87 rfl) (F_event_reader_advance_w p0 b1 v2 v3 v4 _ e121 _ _ _ (H.enter [0, 1, 2, 3] [5] (by decide) rfl)) ?_
 rintro _ w128 ⟨v122, v123, v124, rfl, G129⟩
 have H : Hd O _ w128 _ [.fz (.at 0 0 ((Fl.arr 7 Fl.str).f zJ)), .fz (.gi 4), .blk b16 [.pointer (some ⟨b1, 0, none⟩)] 84, .blk b19 [.int .i64 p1] 3, .blk b22 [.int .i64 0, .string (bs []), .string (bs []), .int .i64 0, .int .i64 0, .int .i64 0, .slice none 0 0] 54, .own Rp.str v122 9 x120.r.Phases, .own rMoveT v123 102 x120.r.Moves, .own rRule v124 106 x120.r.Rules, .blk b1 [.string (bs x120.text), .int .i64 x120.at_, .int .i64 x120.now.kind, .int .i64 x120.now.at_, .int .i64 x120.now.n, .string (bs x120.now.text), v122, v123, v124] 88] := H.back [0, 1, 2, 3] [5] rfl G129
 refine ⟨_, rfl, ?_⟩
 refine (zF (zA (hK119 _ _ ?_)))
 refine zC fun K130 hK130 => ?_
 refine zB ?_
 refine zH (Do_makeFunc rfl) ?_
 refine zI (.func (.func 180) #[] #[.pointer (some ⟨b16, 0, none⟩), .pointer (some ⟨b19, 0, none⟩)]) ?_
 refine (zF (zA (hK130 _ _ ?_)))
 refine zC fun K375 hK375 => ?_
 refine zC fun K376 hK376 => ?_
 refine zB ?_
 refine zM (.string (bs p0.now.text)) ?_
 refine (zF (zA (hK376 _ _ ?_)))
 refine yJ ?_
 refine zC fun K377 hK377 => ?_
 refine zB ?_
 obtain ⟨x378, e379, hF⟩ := zG hF
 refine zH (zS (xR (s1 := p0.now.text) (s2 := [116, 114, 117, 101]) rfl rfl) e379) ?_
 refine zI (.bool x378) ?_
 refine (zF (zA (hK377 _ _ ?_)))
 refine zW (b := x378) rfl (fun c380 => ?_) (fun c380 => ?_)
 ·have hF := zO c380 hF
  refine zC fun K381 hK381 => ?_
  refine zB ?_
  refine zH (xH (cs := [.int .i64 1, .string (bs []), .string (bs []), .int .i64 0, .int .i64 0, .int .i64 0, .slice none 0 0]) (bt54_0 _)) ?_
  refine yN rfl (yH (vs := [.int .i64 1, .string (bs []), .string (bs []), .int .i64 0, .int .i64 0, .int .i64 0, .slice none 0 0]) H 4 rfl sz54 rfl rfl rfl ⟨rfl, rfl, rfl, rfl, rfl, rfl, rfl, trivial⟩ rfl) ?_
  rintro w382 H
  refine (zF (zA (hK381 _ _ ?_)))
  have H := H.fz (.sl rCond (.slice none 0 0) []) SlF.nil
  obtain rfl := someI hF
  refine (zZ (yF (zY (postc  rfl rfl (yC agg54 sz54 rfl (Blk.cells (H.item (i := 4) rfl))) ?_))))
  exact ⟨.slice none 0 0, v122, v123, v124, rfl, H.pick [9, 5, 6, 7, 8] (by decide)⟩
 have hF := zN c380 hF
 refine zC fun K384 hK384 => ?_
 refine zB ?_
 obtain ⟨x385, e386, hF⟩ := zG hF
 refine zH (zS (xR (s1 := p0.now.text) (s2 := [102, 97, 108, 115, 101]) rfl rfl) e386) ?_
 refine zI (.bool x385) ?_
 refine (zF (zA (hK384 _ _ ?_)))
 refine zW (b := x385) rfl (fun c387 => ?_) (fun c387 => ?_)
 ·have hF := zO c387 hF
  refine zC fun K388 hK388 => ?_
  refine zB ?_
  refine zH (xH (cs := [.int .i64 2, .string (bs []), .string (bs []), .int .i64 0, .int .i64 0, .int .i64 0, .slice none 0 0]) (bt54_0 _)) ?_
  refine yN rfl (yH (vs := [.int .i64 2, .string (bs []), .string (bs []), .int .i64 0, .int .i64 0, .int .i64 0, .slice none 0 0]) H 4 rfl sz54 rfl rfl rfl ⟨rfl, rfl, rfl, rfl, rfl, rfl, rfl, trivial⟩ rfl) ?_
  rintro w389 H
  refine (zF (zA (hK388 _ _ ?_)))
  have H := H.fz (.sl rCond (.slice none 0 0) []) SlF.nil
  obtain rfl := someI hF
  refine (zZ (yF (zY (postc  rfl rfl (yC agg54 sz54 rfl (Blk.cells (H.item (i := 4) rfl))) ?_))))
  exact ⟨.slice none 0 0, v122, v123, v124, rfl, H.pick [9, 5, 6, 7, 8] (by decide)⟩
 have hF := zN c387 hF
 refine zC fun K391 hK391 => ?_
 refine zB ?_
 obtain ⟨x392, e393, hF⟩ := zG hF
 refine zH (zS (xR (s1 := p0.now.text) (s2 := [115, 116, 101, 97, 100, 121]) rfl rfl) e393) ?_
 refine zI (.bool x392) ?_
 refine (zF (zA (hK391 _ _ ?_)))
 refine zW (b := x392) rfl (fun c394 => ?_) (fun c394 => ?_)
 ·have hF := zO c394 hF
  refine zC fun K395 hK395 => ?_
  cases hF
 have hF := zN c394 hF
 refine zC fun K396 hK396 => ?_
 refine zB ?_
 obtain ⟨x397, e398, hF⟩ := zG hF
 refine zH (zS (xR (s1 := p0.now.text) (s2 := [112, 104, 97, 115, 101]) rfl rfl) e398) ?_
 refine zI (.bool x397) ?_
 refine (zF (zA (hK396 _ _ ?_)))
 refine zW (b := x397) rfl (fun c399 => ?_) (fun c399 => ?_)
 ·have hF := zO c399 hF
  refine zC fun K400 hK400 => ?_
  refine zB ?_
  refine zH (zT one84 rfl (Cells.get (Blk.cells (H.item (i := 2) rfl)) (i := 0) rfl)) ?_
  obtain ⟨⟨x401, x402⟩, e403, hF⟩ := zD hF
  refine zV rfl rfl (zU en89 rfl) (F_event_reader_name_w x120 b1 v122 v123 v124 _ e403 _ _ _ (H.enter [5, 6, 7, 8] [1] (by decide) rfl)) ?_
  rintro _ w410 ⟨v404, v405, v406, rfl, G411⟩
  have H : Hd O _ w410 _ [.fz (.at 0 0 ((Fl.arr 7 Fl.str).f zJ)), .fz (.gi 4), .blk b16 [.pointer (some ⟨b1, 0, none⟩)] 84, .blk b19 [.int .i64 p1] 3, .blk b22 [.int .i64 0, .string (bs []), .string (bs []), .int .i64 0, .int .i64 0, .int .i64 0, .slice none 0 0] 54, .own Rp.str v404 9 x402.r.Phases, .own rMoveT v405 102 x402.r.Moves, .own rRule v406 106 x402.r.Rules, .blk b1 [.string (bs x402.text), .int .i64 x402.at_, .int .i64 x402.now.kind, .int .i64 x402.now.at_, .int .i64 x402.now.n, .string (bs x402.now.text), v404, v405, v406] 88] := H.back [5, 6, 7, 8] [1] rfl G411
  refine ⟨_, rfl, ?_⟩
  refine zH (xH (cs := [.int .i64 6, .string (bs x401), .string (bs []), .int .i64 0, .int .i64 0, .int .i64 0, .slice none 0 0]) (bt54_0_1 _ _)) ?_
  refine yN rfl (yH (vs := [.int .i64 6, .string (bs x401), .string (bs []), .int .i64 0, .int .i64 0, .int .i64 0, .slice none 0 0]) H 4 rfl sz54 rfl rfl rfl ⟨rfl, rfl, rfl, rfl, rfl, rfl, rfl, trivial⟩ rfl) ?_
  rintro w412 H
  refine (zF (zA (hK400 _ _ ?_)))
  have H := H.fz (.sl rCond (.slice none 0 0) []) SlF.nil
  obtain rfl := someI hF
  refine (zZ (yF (zY (postc  rfl rfl (yC agg54 sz54 rfl (Blk.cells (H.item (i := 4) rfl))) ?_))))
  exact ⟨.slice none 0 0, v404, v405, v406, rfl, H.pick [9, 5, 6, 7, 8] (by decide)⟩
 have hF := zN c399 hF
 refine zC fun K414 hK414 => ?_
 refine zB ?_
 obtain ⟨x415, e416, hF⟩ := zG hF
 refine zH (zS (xR (s1 := p0.now.text) (s2 := [114, 117, 108, 101]) rfl rfl) e416) ?_
 refine zI (.bool x415) ?_
 refine (zF (zA (hK414 _ _ ?_)))
 refine zW (b := x415) rfl (fun c417 => ?_) (fun c417 => ?_)
 ·have hF := zO c417 hF
  refine zC fun K418 hK418 => ?_
  refine zB ?_
  refine zH (zT one84 rfl (Cells.get (Blk.cells (H.item (i := 2) rfl)) (i := 0) rfl)) ?_
  obtain ⟨⟨x419, x420⟩, e421, hF⟩ := zD hF
  refine zV rfl rfl (zU en89 rfl) (F_event_reader_name_w x120 b1 v122 v123 v124 _ e421 _ _ _ (H.enter [5, 6, 7, 8] [1] (by decide) rfl)) ?_
  rintro _ w428 ⟨v422, v423, v424, rfl, G429⟩
  have H : Hd O _ w428 _ [.fz (.at 0 0 ((Fl.arr 7 Fl.str).f zJ)), .fz (.gi 4), .blk b16 [.pointer (some ⟨b1, 0, none⟩)] 84, .blk b19 [.int .i64 p1] 3, .blk b22 [.int .i64 0, .string (bs []), .string (bs []), .int .i64 0, .int .i64 0, .int .i64 0, .slice none 0 0] 54, .own Rp.str v422 9 x420.r.Phases, .own rMoveT v423 102 x420.r.Moves, .own rRule v424 106 x420.r.Rules, .blk b1 [.string (bs x420.text), .int .i64 x420.at_, .int .i64 x420.now.kind, .int .i64 x420.now.at_, .int .i64 x420.now.n, .string (bs x420.now.text), v422, v423, v424] 88] := H.back [5, 6, 7, 8] [1] rfl G429
  refine ⟨_, rfl, ?_⟩
  refine zH (xH (cs := [.int .i64 7, .string (bs x419), .string (bs []), .int .i64 0, .int .i64 0, .int .i64 0, .slice none 0 0]) (bt54_0_1 _ _)) ?_
  refine yN rfl (yH (vs := [.int .i64 7, .string (bs x419), .string (bs []), .int .i64 0, .int .i64 0, .int .i64 0, .slice none 0 0]) H 4 rfl sz54 rfl rfl rfl ⟨rfl, rfl, rfl, rfl, rfl, rfl, rfl, trivial⟩ rfl) ?_
  rintro w430 H
  refine (zF (zA (hK418 _ _ ?_)))
  have H := H.fz (.sl rCond (.slice none 0 0) []) SlF.nil
  obtain rfl := someI hF
  refine (zZ (yF (zY (postc  rfl rfl (yC agg54 sz54 rfl (Blk.cells (H.item (i := 4) rfl))) ?_))))
  exact ⟨.slice none 0 0, v422, v423, v424, rfl, H.pick [9, 5, 6, 7, 8] (by decide)⟩
 have hF := zN c417 hF
 refine zC fun K432 hK432 => ?_
 refine zB ?_
 obtain ⟨x433, e434, hF⟩ := zG hF
 refine zH (zS (xR (s1 := p0.now.text) (s2 := [110, 111, 116]) rfl rfl) e434) ?_
 refine zI (.bool x433) ?_
 refine (zF (zA (hK432 _ _ ?_)))
 refine zW (b := x433) rfl (fun c435 => ?_) (fun c435 => ?_)
 ·have hF := zO c435 hF
  refine zC fun K436 hK436 => ?_
  refine zB ?_
  refine zM (.func (.func 180) #[] #[.pointer (some ⟨b16, 0, none⟩), .pointer (some ⟨b19, 0, none⟩)]) ?_
  obtain ⟨⟨x437, x438⟩, e439, hF⟩ := zD hF
  refine zV rfl rfl (DoC_clo en180 rfl rfl) (F_event_reader_part_1_pdd_w rfA rhA 1 x120 p1 b16 b1 v122 v123 v124 b19 _ e439 _ _ _ (H.enter [5, 6, 7, 8, 2, 3] [0, 1] (by decide) rfl)) ?_
  rintro _ w448 ⟨v440, v442, v443, v444, rfl, G449⟩
  have H : Hd O _ w448 _ [.fz (.at 0 0 ((Fl.arr 7 Fl.str).f zJ)), .fz (.gi 4), .blk b22 [.int .i64 0, .string (bs []), .string (bs []), .int .i64 0, .int .i64 0, .int .i64 0, .slice none 0 0] 54, .own rCond v440 54 x437, .own Rp.str v442 9 x438.r.Phases, .own rMoveT v443 102 x438.r.Moves, .own rRule v444 106 x438.r.Rules, .blk b1 [.string (bs x438.text), .int .i64 x438.at_, .int .i64 x438.now.kind, .int .i64 x438.now.at_, .int .i64 x438.now.n, .string (bs x438.now.text), v442, v443, v444] 88, .blk b16 [.pointer (some ⟨b1, 0, none⟩)] 84, .blk b19 [.int .i64 p1] 3] := H.back [5, 6, 7, 8, 2, 3] [0, 1] rfl G449
  refine ⟨_, rfl, ?_⟩
  obtain ⟨a450, c451, q452⟩ : ∃ a c, v440 = .slice a _ c := Sr.len (Sr.of_own (H.item (i := 3) rfl))
  refine zH (xH (cs := [.int .i64 8, .string (bs []), .string (bs []), .int .i64 0, .int .i64 0, .int .i64 0, v440]) (by rw [q452]; exact bt54_0_6 _ a450 _ c451)) ?_
  refine yN rfl (yH (vs := [.int .i64 8, .string (bs []), .string (bs []), .int .i64 0, .int .i64 0, .int .i64 0, v440]) H 2 rfl sz54 rfl rfl rfl ⟨rfl, rfl, rfl, rfl, rfl, rfl, (own_one (H.item (i := 3) rfl)), trivial⟩ rfl) ?_
  rintro w453 H
  refine (zF (zA (hK436 _ _ ?_)))
  have H := H.freeze (i := 3) rfl
  obtain rfl := someI hF
  refine (zZ (yF (zY (postc  rfl rfl (yC agg54 sz54 rfl (Blk.cells (H.item (i := 2) rfl))) ?_))))
  exact ⟨v440, v442, v443, v444, rfl, H.pick [3, 4, 5, 6, 7] (by decide)⟩
 have hF := zN c435 hF
 refine zC fun K454 hK454 => ?_
 refine zB ?_
 obtain ⟨x455, e456, hF⟩ := zG hF
 refine zH (zS (xR (s1 := p0.now.text) (s2 := [102, 111, 114]) rfl rfl) e456) ?_
 refine zI (.bool x455) ?_
 refine (zF (zA (hK454 _ _ ?_)))
 refine zW (b := x455) rfl (fun c457 => ?_) (fun c457 => ?_)
 ·have hF := zO c457 hF
  refine zC fun K458 hK458 => ?_
  refine zB ?_
  refine zH (zT one84 rfl (Cells.get (Blk.cells (H.item (i := 2) rfl)) (i := 0) rfl)) ?_
  obtain ⟨⟨x459, x460⟩, e461, hF⟩ := zD hF
  refine zV rfl rfl (zU en181 rfl) (F_event_reader_number_w x120 b1 v122 v123 v124 _ e461 _ _ _ (H.enter [5, 6, 7, 8] [1] (by decide) rfl)) ?_
  rintro _ w468 ⟨v462, v463, v464, rfl, G469⟩
  have H : Hd O _ w468 _ [.fz (.at 0 0 ((Fl.arr 7 Fl.str).f zJ)), .fz (.gi 4), .blk b16 [.pointer (some ⟨b1, 0, none⟩)] 84, .blk b19 [.int .i64 p1] 3, .blk b22 [.int .i64 0, .string (bs []), .string (bs []), .int .i64 0, .int .i64 0, .int .i64 0, .slice none 0 0] 54, .own Rp.str v462 9 x460.r.Phases, .own rMoveT v463 102 x460.r.Moves, .own rRule v464 106 x460.r.Rules, .blk b1 [.string (bs x460.text), .int .i64 x460.at_, .int .i64 x460.now.kind, .int .i64 x460.now.at_, .int .i64 x460.now.n, .string (bs x460.now.text), v462, v463, v464] 88] := H.back [5, 6, 7, 8] [1] rfl G469
  refine ⟨_, rfl, ?_⟩
  refine zM (.func (.func 180) #[] #[.pointer (some ⟨b16, 0, none⟩), .pointer (some ⟨b19, 0, none⟩)]) ?_
  obtain ⟨⟨x470, x471⟩, e472, hF⟩ := zD hF
  refine zV rfl rfl (DoC_clo en180 rfl rfl) (F_event_reader_part_1_pdd_w rfA rhA 1 x460 p1 b16 b1 v462 v463 v464 b19 _ e472 _ _ _ (H.enter [5, 6, 7, 8, 2, 3] [0, 1] (by decide) rfl)) ?_
  rintro _ w481 ⟨v473, v475, v476, v477, rfl, G482⟩
  have H : Hd O _ w481 _ [.fz (.at 0 0 ((Fl.arr 7 Fl.str).f zJ)), .fz (.gi 4), .blk b22 [.int .i64 0, .string (bs []), .string (bs []), .int .i64 0, .int .i64 0, .int .i64 0, .slice none 0 0] 54, .own rCond v473 54 x470, .own Rp.str v475 9 x471.r.Phases, .own rMoveT v476 102 x471.r.Moves, .own rRule v477 106 x471.r.Rules, .blk b1 [.string (bs x471.text), .int .i64 x471.at_, .int .i64 x471.now.kind, .int .i64 x471.now.at_, .int .i64 x471.now.n, .string (bs x471.now.text), v475, v476, v477] 88, .blk b16 [.pointer (some ⟨b1, 0, none⟩)] 84, .blk b19 [.int .i64 p1] 3] := H.back [5, 6, 7, 8, 2, 3] [0, 1] rfl G482
  refine ⟨_, rfl, ?_⟩
  obtain ⟨a483, c484, q485⟩ : ∃ a c, v473 = .slice a _ c := Sr.len (Sr.of_own (H.item (i := 3) rfl))
  refine zH (xH (cs := [.int .i64 11, .string (bs []), .string (bs []), .int .i64 0, .int .i64 0, .int .i64 x459, v473]) (by rw [q485]; exact bt54_0_5_6 _ _ a483 _ c484)) ?_
  refine yN rfl (yH (vs := [.int .i64 11, .string (bs []), .string (bs []), .int .i64 0, .int .i64 0, .int .i64 x459, v473]) H 2 rfl sz54 rfl rfl rfl ⟨rfl, rfl, rfl, rfl, rfl, rfl, (own_one (H.item (i := 3) rfl)), trivial⟩ rfl) ?_
  rintro w486 H
  refine (zF (zA (hK458 _ _ ?_)))
  have H := H.freeze (i := 3) rfl
  obtain rfl := someI hF
  refine (zZ (yF (zY (postc  rfl rfl (yC agg54 sz54 rfl (Blk.cells (H.item (i := 2) rfl))) ?_))))
  exact ⟨v473, v475, v476, v477, rfl, H.pick [3, 4, 5, 6, 7] (by decide)⟩
 have hF := zN c457 hF
 refine zC fun K487 hK487 => ?_
 refine zB ?_
 obtain ⟨x488, e489, hF⟩ := zG hF
 refine zH (zS (xR (s1 := p0.now.text) (s2 := [119, 105, 116, 104, 105, 110]) rfl rfl) e489) ?_
 refine zI (.bool x488) ?_
 refine (zF (zA (hK487 _ _ ?_)))
 refine zW (b := x488) rfl (fun c490 => ?_) (fun c490 => ?_)
 ·have hF := zO c490 hF
  refine zC fun K491 hK491 => ?_
  refine zB ?_
  refine zH (zT one84 rfl (Cells.get (Blk.cells (H.item (i := 2) rfl)) (i := 0) rfl)) ?_
  obtain ⟨⟨x492, x493⟩, e494, hF⟩ := zD hF
  refine zV rfl rfl (zU en181 rfl) (F_event_reader_number_w x120 b1 v122 v123 v124 _ e494 _ _ _ (H.enter [5, 6, 7, 8] [1] (by decide) rfl)) ?_
  rintro _ w501 ⟨v495, v496, v497, rfl, G502⟩
  have H : Hd O _ w501 _ [.fz (.at 0 0 ((Fl.arr 7 Fl.str).f zJ)), .fz (.gi 4), .blk b16 [.pointer (some ⟨b1, 0, none⟩)] 84, .blk b19 [.int .i64 p1] 3, .blk b22 [.int .i64 0, .string (bs []), .string (bs []), .int .i64 0, .int .i64 0, .int .i64 0, .slice none 0 0] 54, .own Rp.str v495 9 x493.r.Phases, .own rMoveT v496 102 x493.r.Moves, .own rRule v497 106 x493.r.Rules, .blk b1 [.string (bs x493.text), .int .i64 x493.at_, .int .i64 x493.now.kind, .int .i64 x493.now.at_, .int .i64 x493.now.n, .string (bs x493.now.text), v495, v496, v497] 88] := H.back [5, 6, 7, 8] [1] rfl G502
  refine ⟨_, rfl, ?_⟩
  refine zM (.func (.func 180) #[] #[.pointer (some ⟨b16, 0, none⟩), .pointer (some ⟨b19, 0, none⟩)]) ?_
  obtain ⟨⟨x503, x504⟩, e505, hF⟩ := zD hF
  refine zV rfl rfl (DoC_clo en180 rfl rfl) (F_event_reader_part_1_pdd_w rfA rhA 1 x493 p1 b16 b1 v495 v496 v497 b19 _ e505 _ _ _ (H.enter [5, 6, 7, 8, 2, 3] [0, 1] (by decide) rfl)) ?_
  rintro _ w514 ⟨v506, v508, v509, v510, rfl, G515⟩
  have H : Hd O _ w514 _ [.fz (.at 0 0 ((Fl.arr 7 Fl.str).f zJ)), .fz (.gi 4), .blk b22 [.int .i64 0, .string (bs []), .string (bs []), .int .i64 0, .int .i64 0, .int .i64 0, .slice none 0 0] 54, .own rCond v506 54 x503, .own Rp.str v508 9 x504.r.Phases, .own rMoveT v509 102 x504.r.Moves, .own rRule v510 106 x504.r.Rules, .blk b1 [.string (bs x504.text), .int .i64 x504.at_, .int .i64 x504.now.kind, .int .i64 x504.now.at_, .int .i64 x504.now.n, .string (bs x504.now.text), v508, v509, v510] 88, .blk b16 [.pointer (some ⟨b1, 0, none⟩)] 84, .blk b19 [.int .i64 p1] 3] := H.back [5, 6, 7, 8, 2, 3] [0, 1] rfl G515
  refine ⟨_, rfl, ?_⟩
  obtain ⟨a516, c517, q518⟩ : ∃ a c, v506 = .slice a _ c := Sr.len (Sr.of_own (H.item (i := 3) rfl))
  refine zH (xH (cs := [.int .i64 12, .string (bs []), .string (bs []), .int .i64 0, .int .i64 0, .int .i64 x492, v506]) (by rw [q518]; exact bt54_0_5_6 _ _ a516 _ c517)) ?_
  refine yN rfl (yH (vs := [.int .i64 12, .string (bs []), .string (bs []), .int .i64 0, .int .i64 0, .int .i64 x492, v506]) H 2 rfl sz54 rfl rfl rfl ⟨rfl, rfl, rfl, rfl, rfl, rfl, (own_one (H.item (i := 3) rfl)), trivial⟩ rfl) ?_
  rintro w519 H
  refine (zF (zA (hK491 _ _ ?_)))
  have H := H.freeze (i := 3) rfl
  obtain rfl := someI hF
  refine (zZ (yF (zY (postc  rfl rfl (yC agg54 sz54 rfl (Blk.cells (H.item (i := 2) rfl))) ?_))))
  exact ⟨v506, v508, v509, v510, rfl, H.pick [3, 4, 5, 6, 7] (by decide)⟩
 have hF := zN c490 hF
 refine zC fun K520 hK520 => ?_
 refine zB ?_
 obtain ⟨x521, e522, hF⟩ := zG hF
 refine zH (zS (xR (s1 := p0.now.text) (s2 := [99, 111, 117, 110, 116]) rfl rfl) e522) ?_
 refine zI (.bool x521) ?_
 refine (zF (zA (hK520 _ _ ?_)))
 refine zW (b := x521) rfl (fun c523 => ?_) (fun c523 => ?_)
 ·have hF := zO c523 hF
  refine zC fun K524 hK524 => ?_
  refine zB ?_
  refine zH (zT one84 rfl (Cells.get (Blk.cells (H.item (i := 2) rfl)) (i := 0) rfl)) ?_
  obtain ⟨⟨x525, x526⟩, e527, hF⟩ := zD hF
  refine zV rfl rfl (zU en181 rfl) (F_event_reader_number_w x120 b1 v122 v123 v124 _ e527 _ _ _ (H.enter [5, 6, 7, 8] [1] (by decide) rfl)) ?_
  rintro _ w534 ⟨v528, v529, v530, rfl, G535⟩
  have H : Hd O _ w534 _ [.fz (.at 0 0 ((Fl.arr 7 Fl.str).f zJ)), .fz (.gi 4), .blk b16 [.pointer (some ⟨b1, 0, none⟩)] 84, .blk b19 [.int .i64 p1] 3, .blk b22 [.int .i64 0, .string (bs []), .string (bs []), .int .i64 0, .int .i64 0, .int .i64 0, .slice none 0 0] 54, .own Rp.str v528 9 x526.r.Phases, .own rMoveT v529 102 x526.r.Moves, .own rRule v530 106 x526.r.Rules, .blk b1 [.string (bs x526.text), .int .i64 x526.at_, .int .i64 x526.now.kind, .int .i64 x526.now.at_, .int .i64 x526.now.n, .string (bs x526.now.text), v528, v529, v530] 88] := H.back [5, 6, 7, 8] [1] rfl G535
  refine ⟨_, rfl, ?_⟩
  refine zH (xH (cs := [.int .i64 13, .string (bs []), .string (bs []), .int .i64 0, .int .i64 x525, .int .i64 0, .slice none 0 0]) (bt54_0_4 _ _)) ?_
  refine yX rfl rfl (xB zero54 H) ?_
  rintro _ w538 ⟨b536, rfl, H⟩
  refine yN rfl (yH (vs := [.int .i64 13, .string (bs []), .string (bs []), .int .i64 0, .int .i64 x525, .int .i64 0, .slice none 0 0]) H 9 rfl sz54 rfl rfl rfl ⟨rfl, rfl, rfl, rfl, rfl, rfl, rfl, trivial⟩ rfl) ?_
  rintro w539 H
  refine (zF (zA (hK524 _ _ ?_)))
  refine zC fun K540 hK540 => ?_
  refine zB ?_
  refine zH (zT one84 rfl (Cells.get (Blk.cells (H.item (i := 2) rfl)) (i := 0) rfl)) ?_
  obtain ⟨x541, e542, hF⟩ := zD hF
  refine zV rfl rfl (zU en90 rfl) (F_event_reader_must_w x526 [111, 102] b1 v528 v529 v530 _ e542 _ _ _ (H.enter [5, 6, 7, 8] [1] (by decide) rfl)) ?_
  rintro _ w549 ⟨v543, v544, v545, rfl, G550⟩
  have H : Hd O _ w549 _ [.fz (.at 0 0 ((Fl.arr 7 Fl.str).f zJ)), .fz (.gi 4), .blk b16 [.pointer (some ⟨b1, 0, none⟩)] 84, .blk b19 [.int .i64 p1] 3, .blk b22 [.int .i64 0, .string (bs []), .string (bs []), .int .i64 0, .int .i64 0, .int .i64 0, .slice none 0 0] 54, .blk b536 [.int .i64 13, .string (bs []), .string (bs []), .int .i64 0, .int .i64 x525, .int .i64 0, .slice none 0 0] 54, .own Rp.str v543 9 x541.r.Phases, .own rMoveT v544 102 x541.r.Moves, .own rRule v545 106 x541.r.Rules, .blk b1 [.string (bs x541.text), .int .i64 x541.at_, .int .i64 x541.now.kind, .int .i64 x541.now.at_, .int .i64 x541.now.n, .string (bs x541.now.text), v543, v544, v545] 88] := H.back [5, 6, 7, 8] [1] rfl G550
  refine ⟨_, rfl, ?_⟩
  refine (zF (zA (hK540 _ _ ?_)))
  refine zC fun K551 hK551 => ?_
  refine zB ?_
  refine zH (zT one84 rfl (Cells.get (Blk.cells (H.item (i := 2) rfl)) (i := 0) rfl)) ?_
  obtain ⟨⟨x552, x553⟩, e554, hF⟩ := zD hF
  refine zV rfl rfl (zU en181 rfl) (F_event_reader_number_w x541 b1 v543 v544 v545 _ e554 _ _ _ (H.enter [6, 7, 8, 9] [1] (by decide) rfl)) ?_
  rintro _ w561 ⟨v555, v556, v557, rfl, G562⟩
  have H : Hd O _ w561 _ [.fz (.at 0 0 ((Fl.arr 7 Fl.str).f zJ)), .fz (.gi 4), .blk b16 [.pointer (some ⟨b1, 0, none⟩)] 84, .blk b19 [.int .i64 p1] 3, .blk b22 [.int .i64 0, .string (bs []), .string (bs []), .int .i64 0, .int .i64 0, .int .i64 0, .slice none 0 0] 54, .blk b536 [.int .i64 13, .string (bs []), .string (bs []), .int .i64 0, .int .i64 x525, .int .i64 0, .slice none 0 0] 54, .own Rp.str v555 9 x553.r.Phases, .own rMoveT v556 102 x553.r.Moves, .own rRule v557 106 x553.r.Rules, .blk b1 [.string (bs x553.text), .int .i64 x553.at_, .int .i64 x553.now.kind, .int .i64 x553.now.at_, .int .i64 x553.now.n, .string (bs x553.now.text), v555, v556, v557] 88] := H.back [6, 7, 8, 9] [1] rfl G562
  refine ⟨_, rfl, ?_⟩
  refine zM (.func (.func 180) #[] #[.pointer (some ⟨b16, 0, none⟩), .pointer (some ⟨b19, 0, none⟩)]) ?_
  obtain ⟨⟨x563, x564⟩, e565, hF⟩ := zD hF
  refine zV rfl rfl (DoC_clo en180 rfl rfl) (F_event_reader_part_1_pdd_w rfA rhA 1 x553 p1 b16 b1 v555 v556 v557 b19 _ e565 _ _ _ (H.enter [6, 7, 8, 9, 2, 3] [0, 1] (by decide) rfl)) ?_
  rintro _ w574 ⟨v566, v568, v569, v570, rfl, G575⟩
  have H : Hd O _ w574 _ [.fz (.at 0 0 ((Fl.arr 7 Fl.str).f zJ)), .fz (.gi 4), .blk b22 [.int .i64 0, .string (bs []), .string (bs []), .int .i64 0, .int .i64 0, .int .i64 0, .slice none 0 0] 54, .blk b536 [.int .i64 13, .string (bs []), .string (bs []), .int .i64 0, .int .i64 x525, .int .i64 0, .slice none 0 0] 54, .own rCond v566 54 x563, .own Rp.str v568 9 x564.r.Phases, .own rMoveT v569 102 x564.r.Moves, .own rRule v570 106 x564.r.Rules, .blk b1 [.string (bs x564.text), .int .i64 x564.at_, .int .i64 x564.now.kind, .int .i64 x564.now.at_, .int .i64 x564.now.n, .string (bs x564.now.text), v568, v569, v570] 88, .blk b16 [.pointer (some ⟨b1, 0, none⟩)] 84, .blk b19 [.int .i64 p1] 3] := H.back [6, 7, 8, 9, 2, 3] [0, 1] rfl G575
  refine ⟨_, rfl, ?_⟩
  refine zH (fa54_5 rfl) ?_
  refine yN rfl (xA H 3 rfl sz3 rfl (v := .int .i64 x552) rfl rfl rfl) ?_
  rintro w576 H
  refine zH (fa54_6 rfl) ?_
  refine yN rfl (xA H 3 rfl sz52 rfl (v := v566) rfl (own_one (H.item (i := 4) rfl)) rfl) ?_
  rintro w577 H
  refine (zF (zA (hK551 _ _ ?_)))
  refine zC fun K578 hK578 => ?_
  refine zB ?_
  refine zH (yQ (yM (cs := [.int .i64 13, .string (bs []), .string (bs []), .int .i64 0, .int .i64 x525, .int .i64 x552, v566]) agg54 rfl sz54 rfl (Blk.cells (H.item (i := 3) rfl))) rfl) ?_
  refine yN rfl (yH (vs := [.int .i64 13, .string (bs []), .string (bs []), .int .i64 0, .int .i64 x525, .int .i64 x552, v566]) H 2 rfl sz54 rfl rfl rfl ⟨rfl, rfl, rfl, rfl, rfl, rfl, (own_one (H.item (i := 4) rfl)), trivial⟩ rfl) ?_
  rintro w579 H
  refine (zF (zA (hK578 _ _ ?_)))
  have H := H.freeze (i := 4) rfl
  obtain rfl := someI hF
  refine (zZ (yF (zY (postc  rfl rfl (yC agg54 sz54 rfl (Blk.cells (H.item (i := 2) rfl))) ?_))))
  exact ⟨v566, v568, v569, v570, rfl, H.pick [4, 5, 6, 7, 8] (by decide)⟩
 have hF := zN c523 hF
 refine zC fun K580 hK580 => ?_
 refine zB ?_
 obtain ⟨x581, e582, hF⟩ := zG hF
 refine zH (zS (xR (s1 := p0.now.text) (s2 := [114, 105, 115, 101, 115]) rfl rfl) e582) ?_
 refine zI (.bool x581) ?_
 refine (zF (zA (hK580 _ _ ?_)))
 refine zW (b := x581) rfl (fun c583 => ?_) (fun c583 => ?_)
 ·have hF := zO c583 hF
  refine zC fun K584 hK584 => ?_
  refine zB ?_
  refine zM (.func (.func 180) #[] #[.pointer (some ⟨b16, 0, none⟩), .pointer (some ⟨b19, 0, none⟩)]) ?_
  obtain ⟨⟨x585, x586⟩, e587, hF⟩ := zD hF
  refine zV rfl rfl (DoC_clo en180 rfl rfl) (F_event_reader_part_1_pdd_w rfA rhA 1 x120 p1 b16 b1 v122 v123 v124 b19 _ e587 _ _ _ (H.enter [5, 6, 7, 8, 2, 3] [0, 1] (by decide) rfl)) ?_
  rintro _ w596 ⟨v588, v590, v591, v592, rfl, G597⟩
  have H : Hd O _ w596 _ [.fz (.at 0 0 ((Fl.arr 7 Fl.str).f zJ)), .fz (.gi 4), .blk b22 [.int .i64 0, .string (bs []), .string (bs []), .int .i64 0, .int .i64 0, .int .i64 0, .slice none 0 0] 54, .own rCond v588 54 x585, .own Rp.str v590 9 x586.r.Phases, .own rMoveT v591 102 x586.r.Moves, .own rRule v592 106 x586.r.Rules, .blk b1 [.string (bs x586.text), .int .i64 x586.at_, .int .i64 x586.now.kind, .int .i64 x586.now.at_, .int .i64 x586.now.n, .string (bs x586.now.text), v590, v591, v592] 88, .blk b16 [.pointer (some ⟨b1, 0, none⟩)] 84, .blk b19 [.int .i64 p1] 3] := H.back [5, 6, 7, 8, 2, 3] [0, 1] rfl G597
  refine ⟨_, rfl, ?_⟩
  obtain ⟨a598, c599, q600⟩ : ∃ a c, v588 = .slice a _ c := Sr.len (Sr.of_own (H.item (i := 3) rfl))
  refine zH (xH (cs := [.int .i64 15, .string (bs []), .string (bs []), .int .i64 0, .int .i64 0, .int .i64 0, v588]) (by rw [q600]; exact bt54_0_6 _ a598 _ c599)) ?_
  refine yN rfl (yH (vs := [.int .i64 15, .string (bs []), .string (bs []), .int .i64 0, .int .i64 0, .int .i64 0, v588]) H 2 rfl sz54 rfl rfl rfl ⟨rfl, rfl, rfl, rfl, rfl, rfl, (own_one (H.item (i := 3) rfl)), trivial⟩ rfl) ?_
  rintro w601 H
  refine (zF (zA (hK584 _ _ ?_)))
  have H := H.freeze (i := 3) rfl
  obtain rfl := someI hF
  refine (zZ (yF (zY (postc  rfl rfl (yC agg54 sz54 rfl (Blk.cells (H.item (i := 2) rfl))) ?_))))
  exact ⟨v588, v590, v591, v592, rfl, H.pick [3, 4, 5, 6, 7] (by decide)⟩
 have hF := zN c583 hF
 refine zC fun K602 hK602 => ?_
 refine zB ?_
 obtain ⟨x603, e604, hF⟩ := zG hF
 refine zH (zS (xR (s1 := p0.now.text) (s2 := [115, 105, 110, 99, 101]) rfl rfl) e604) ?_
 refine zI (.bool x603) ?_
 refine (zF (zA (hK602 _ _ ?_)))
 refine zW (b := x603) rfl (fun c605 => ?_) (fun c605 => ?_)
 ·have hF := zO c605 hF
  refine zC fun K606 hK606 => ?_
  refine zB ?_
  refine zM (.func (.func 180) #[] #[.pointer (some ⟨b16, 0, none⟩), .pointer (some ⟨b19, 0, none⟩)]) ?_
  obtain ⟨⟨x607, x608⟩, e609, hF⟩ := zD hF
  refine zV rfl rfl (DoC_clo en180 rfl rfl) (F_event_reader_part_1_pdd_w rfA rhA 2 x120 p1 b16 b1 v122 v123 v124 b19 _ e609 _ _ _ (H.enter [5, 6, 7, 8, 2, 3] [0, 1] (by decide) rfl)) ?_
  rintro _ w618 ⟨v610, v612, v613, v614, rfl, G619⟩
  have H : Hd O _ w618 _ [.fz (.at 0 0 ((Fl.arr 7 Fl.str).f zJ)), .fz (.gi 4), .blk b22 [.int .i64 0, .string (bs []), .string (bs []), .int .i64 0, .int .i64 0, .int .i64 0, .slice none 0 0] 54, .own rCond v610 54 x607, .own Rp.str v612 9 x608.r.Phases, .own rMoveT v613 102 x608.r.Moves, .own rRule v614 106 x608.r.Rules, .blk b1 [.string (bs x608.text), .int .i64 x608.at_, .int .i64 x608.now.kind, .int .i64 x608.now.at_, .int .i64 x608.now.n, .string (bs x608.now.text), v612, v613, v614] 88, .blk b16 [.pointer (some ⟨b1, 0, none⟩)] 84, .blk b19 [.int .i64 p1] 3] := H.back [5, 6, 7, 8, 2, 3] [0, 1] rfl G619
  refine ⟨_, rfl, ?_⟩
  obtain ⟨a620, c621, q622⟩ : ∃ a c, v610 = .slice a _ c := Sr.len (Sr.of_own (H.item (i := 3) rfl))
  refine zH (xH (cs := [.int .i64 14, .string (bs []), .string (bs []), .int .i64 0, .int .i64 0, .int .i64 0, v610]) (by rw [q622]; exact bt54_0_6 _ a620 _ c621)) ?_
  refine yN rfl (yH (vs := [.int .i64 14, .string (bs []), .string (bs []), .int .i64 0, .int .i64 0, .int .i64 0, v610]) H 2 rfl sz54 rfl rfl rfl ⟨rfl, rfl, rfl, rfl, rfl, rfl, (own_one (H.item (i := 3) rfl)), trivial⟩ rfl) ?_
  rintro w623 H
  refine (zF (zA (hK606 _ _ ?_)))
  have H := H.freeze (i := 3) rfl
  obtain rfl := someI hF
  refine (zZ (yF (zY (postc  rfl rfl (yC agg54 sz54 rfl (Blk.cells (H.item (i := 2) rfl))) ?_))))
  exact ⟨v610, v612, v613, v614, rfl, H.pick [3, 4, 5, 6, 7] (by decide)⟩
 have hF := zN c605 hF
 refine (yA (yR (zA (hK375 _ _ ?_))))
 refine zC fun K624 hK624 => ?_
 refine zB ?_
 refine zH (zT one84 rfl (Cells.get (Blk.cells (H.item (i := 2) rfl)) (i := 0) rfl)) ?_
 refine zH (zT one3 rfl (Cells.get (Blk.cells (H.item (i := 3) rfl)) (i := 0) rfl)) ?_
 obtain ⟨x625, e626, hF⟩ := zG hF
 refine zH (wC (a := p1) (b := 1) rfl rfl e626) ?_
 obtain ⟨⟨x627, x628⟩, e629, hF⟩ := zD hF
 refine zV rfl rfl (zU en91 rfl) (rhB x120 x625 b1 v122 v123 v124 _ e629 _ _ _ (H.enter [5, 6, 7, 8] [0, 1] (by decide) rfl)) ?_
 rintro _ w638 ⟨v630, v632, v633, v634, rfl, G639⟩
 have H : Hd O _ w638 _ [.fz (.at 0 0 ((Fl.arr 7 Fl.str).f zJ)), .fz (.gi 4), .blk b16 [.pointer (some ⟨b1, 0, none⟩)] 84, .blk b19 [.int .i64 p1] 3, .blk b22 [.int .i64 0, .string (bs []), .string (bs []), .int .i64 0, .int .i64 0, .int .i64 0, .slice none 0 0] 54, .fz (.sl rCond v630 x627.Kids), .own Rp.str v632 9 x628.r.Phases, .own rMoveT v633 102 x628.r.Moves, .own rRule v634 106 x628.r.Rules, .blk b1 [.string (bs x628.text), .int .i64 x628.at_, .int .i64 x628.now.kind, .int .i64 x628.now.at_, .int .i64 x628.now.n, .string (bs x628.now.text), v632, v633, v634] 88] := H.back [5, 6, 7, 8] [0, 1] rfl G639
 refine ⟨_, rfl, ?_⟩
 refine yX rfl rfl (xB zero54 H) ?_
 rintro _ w642 ⟨b640, rfl, H⟩
 refine yN rfl (yH (vs := [.int .i64 x627.Kind, .string (bs x627.Name), .string (bs x627.Other), .int .i64 x627.Op, .int .i64 x627.N, .int .i64 x627.Frames, v630]) H 10 rfl sz54 rfl rfl rfl ⟨rfl, rfl, rfl, rfl, rfl, rfl, (wE (H.item (i := 5) rfl)), trivial⟩ rfl) ?_
 rintro w643 H
 refine (zF (zA (hK624 _ _ ?_)))
 refine zC fun K644 hK644 => ?_
 refine zB ?_
 refine zH (zT one84 rfl (Cells.get (Blk.cells (H.item (i := 2) rfl)) (i := 0) rfl)) ?_
 obtain ⟨x645, e646, hF⟩ := zD hF
 refine zV rfl rfl (zU en90 rfl) (F_event_reader_must_w x628 [41] b1 v632 v633 v634 _ e646 _ _ _ (H.enter [6, 7, 8, 9] [1] (by decide) rfl)) ?_
 rintro _ w653 ⟨v647, v648, v649, rfl, G654⟩
 have H : Hd O _ w653 _ [.fz (.at 0 0 ((Fl.arr 7 Fl.str).f zJ)), .fz (.gi 4), .blk b16 [.pointer (some ⟨b1, 0, none⟩)] 84, .blk b19 [.int .i64 p1] 3, .blk b22 [.int .i64 0, .string (bs []), .string (bs []), .int .i64 0, .int .i64 0, .int .i64 0, .slice none 0 0] 54, .fz (.sl rCond v630 x627.Kids), .blk b640 [.int .i64 x627.Kind, .string (bs x627.Name), .string (bs x627.Other), .int .i64 x627.Op, .int .i64 x627.N, .int .i64 x627.Frames, v630] 54, .own Rp.str v647 9 x645.r.Phases, .own rMoveT v648 102 x645.r.Moves, .own rRule v649 106 x645.r.Rules, .blk b1 [.string (bs x645.text), .int .i64 x645.at_, .int .i64 x645.now.kind, .int .i64 x645.now.at_, .int .i64 x645.now.n, .string (bs x645.now.text), v647, v648, v649] 88] := H.back [6, 7, 8, 9] [1] rfl G654
 refine ⟨_, rfl, ?_⟩
 refine (zF (zA (hK644 _ _ ?_)))
 refine zC fun K655 hK655 => ?_
 refine zB ?_
 refine zH (yQ (yM (cs := [.int .i64 x627.Kind, .string (bs x627.Name), .string (bs x627.Other), .int .i64 x627.Op, .int .i64 x627.N, .int .i64 x627.Frames, v630]) agg54 rfl sz54 rfl (Blk.cells (H.item (i := 6) rfl))) rfl) ?_
 refine yN rfl (yH (vs := [.int .i64 x627.Kind, .string (bs x627.Name), .string (bs x627.Other), .int .i64 x627.Op, .int .i64 x627.N, .int .i64 x627.Frames, v630]) H 4 rfl sz54 rfl rfl rfl ⟨rfl, rfl, rfl, rfl, rfl, rfl, (wE (H.item (i := 5) rfl)), trivial⟩ rfl) ?_
 rintro w656 H
 refine (zF (zA (hK655 _ _ ?_)))
 obtain rfl := someI hF
 refine (zZ (postc  rfl rfl (yC agg54 sz54 rfl (Blk.cells (H.item (i := 4) rfl))) ?_))
 exact ⟨v630, v647, v648, v649, rfl, H.pick [5, 7, 8, 9, 10] (by decide)⟩
theorem F_event_reader_part_s (rfB : EventReader → Int → Option (Cond × EventReader)) (rhB : S_event_reader_cond rfB) : S_event_reader_part (F_event_reader_part rfB) := by
 have h : ∀ n, S_event_reader_part (F_event_reader_part_R rfB n) := by
  intro n
  induction n with
  | zero => intro p0 p1 b1 v2 v3 v4 r hF; cases hF
  | succ n ih => intro p0 p1 b1 v2 v3 v4 r hF; exact F_event_reader_part_B_w rfB rhB (F_event_reader_part_R rfB n) ih p0 p1 b1 v2 v3 v4 r hF
 exact h FU
set_option maxHeartbeats 4000000 in
theorem F_event_reader_cond_1_1_pdd_w (rfB : EventReader → Int → Option (Cond × EventReader)) (rhB : S_event_reader_cond rfB) (c0p : EventReader) (c1 : Int) (b1 : Nat) (b3 : Nat) (v4 : Value) (v5 : Value) (v6 : Value) (b11 : Nat) (r : Cond × EventReader) (hF : F_event_reader_cond_1_1_pdd rfB c0p c1 = some r) (O S : List Nat) (w : World) (H : Hd O w w S [.own Rp.str v4 9 c0p.r.Phases, .own rMoveT v5 102 c0p.r.Moves, .own rRule v6 106 c0p.r.Rules, .blk b3 [.string (bs c0p.text), .int .i64 c0p.at_, .int .i64 c0p.now.kind, .int .i64 c0p.now.at_, .int .i64 c0p.now.n, .string (bs c0p.now.text), v4, v5, v6] 88, .blk b1 [.pointer (some ⟨b3, 0, none⟩)] 84, .blk b11 [.int .i64 c1] 3, .fz (.at 0 0 ((Fl.arr 7 Fl.str).f zJ)), .fz (.gi 4)]) :
  Calls Tryz.prog 143 ([.pointer (some ⟨b1, 0, none⟩), .pointer (some ⟨b11, 0, none⟩)] : List Value).toArray w fun e w' => ∃ u15 u16 u17 u18, e = .returned (.agg [.int .i64 r.1.Kind, .string (bs r.1.Name), .string (bs r.1.Other), .int .i64 r.1.Op, .int .i64 r.1.N, .int .i64 r.1.Frames, u15].toArray) ∧ Hd O w w' S [.fz (.sl rCond u15 r.1.Kids), .own Rp.str u16 9 r.2.r.Phases, .own rMoveT u17 102 r.2.r.Moves, .own rRule u18 106 r.2.r.Rules, .blk b3 [.string (bs r.2.text), .int .i64 r.2.at_, .int .i64 r.2.now.kind, .int .i64 r.2.now.at_, .int .i64 r.2.now.n, .string (bs r.2.now.text), u16, u17, u18] 88, .blk b1 [.pointer (some ⟨b3, 0, none⟩)] 84, .blk b11 [.int .i64 c1] 3] := by
 unfold F_event_reader_cond_1_1_pdd at hF
 refine yB 6 Tryz.func143 rfl rfl rfl ?_
 refine zC fun K19 hK19 => ?_
 refine zB ?_
 refine yX rfl rfl (xB zero54 H) ?_
 rintro _ w22 ⟨b20, rfl, H⟩
 refine (zF (zA (hK19 _ _ ?_)))
 refine zC fun K23 hK23 => ?_
 refine zB ?_
 refine zH (zT one84 rfl (Cells.get (Blk.cells (H.item (i := 4) rfl)) (i := 0) rfl)) ?_
 refine zH (zT one3 rfl (Cells.get (Blk.cells (H.item (i := 5) rfl)) (i := 0) rfl)) ?_
 obtain ⟨⟨x24, x25⟩, e26, hF⟩ := zD hF
 refine zV rfl rfl (zU en144 rfl) (F_event_reader_part_s rfB rhB c0p c1 b3 v4 v5 v6 _ e26 _ _ _ (H.enter [0, 1, 2, 3] [6, 7] (by decide) rfl)) ?_
 rintro _ w35 ⟨v27, v29, v30, v31, rfl, G36⟩
 have H : Hd O _ w35 _ [.blk b1 [.pointer (some ⟨b3, 0, none⟩)] 84, .blk b11 [.int .i64 c1] 3, .fz (.at 0 0 ((Fl.arr 7 Fl.str).f zJ)), .fz (.gi 4), .blk b20 [.int .i64 0, .string (bs []), .string (bs []), .int .i64 0, .int .i64 0, .int .i64 0, .slice none 0 0] 54, .fz (.sl rCond v27 x24.Kids), .own Rp.str v29 9 x25.r.Phases, .own rMoveT v30 102 x25.r.Moves, .own rRule v31 106 x25.r.Rules, .blk b3 [.string (bs x25.text), .int .i64 x25.at_, .int .i64 x25.now.kind, .int .i64 x25.now.at_, .int .i64 x25.now.n, .string (bs x25.now.text), v29, v30, v31] 88] := H.back [0, 1, 2, 3] [6, 7] rfl G36
 refine ⟨_, rfl, ?_⟩
 refine yN rfl (yH (vs := [.int .i64 x24.Kind, .string (bs x24.Name), .string (bs x24.Other), .int .i64 x24.Op, .int .i64 x24.N, .int .i64 x24.Frames, v27]) H 4 rfl sz54 rfl rfl rfl ⟨rfl, rfl, rfl, rfl, rfl, rfl, (wE (H.item (i := 5) rfl)), trivial⟩ rfl) ?_
 rintro w37 H
 refine (zF (zA (hK23 _ _ ?_)))
 obtain rfl := someI hF
 refine (zZ (postc  rfl rfl (yC agg54 sz54 rfl (Blk.cells (H.item (i := 4) rfl))) ?_))
 exact ⟨v27, v29, v30, v31, rfl, H.pick [5, 6, 7, 8, 9, 0, 1] (by decide)⟩
set_option maxHeartbeats 4000000 in
theorem F_event_reader_list_event_reader_cond_1_1_pa0d_w (rfB : EventReader → Int → Option (Cond × EventReader)) (rhB : S_event_reader_cond rfB) (p0 : EventReader) (p1 : Str) (p2 : Int) (p3c1 : Int) (b1 : Nat) (v2 : Value) (v3 : Value) (v4 : Value) (b9 : Nat) (b11 : Nat) (r : Cond × EventReader) (hF : F_event_reader_list_event_reader_cond_1_1_pa0d rfB p0 p1 p2 p3c1 = some r) (O S : List Nat) (w : World) (H : Hd O w w S [.own Rp.str v2 9 p0.r.Phases, .own rMoveT v3 102 p0.r.Moves, .own rRule v4 106 p0.r.Rules, .blk b1 [.string (bs p0.text), .int .i64 p0.at_, .int .i64 p0.now.kind, .int .i64 p0.now.at_, .int .i64 p0.now.n, .string (bs p0.now.text), v2, v3, v4] 88, .blk b9 [.pointer (some ⟨b1, 0, none⟩)] 84, .blk b11 [.int .i64 p3c1] 3, .fz (.at 0 0 ((Fl.arr 7 Fl.str).f zJ)), .fz (.gi 4)]) :
  Calls Tryz.prog 141 ([.pointer (some ⟨b1, 0, none⟩), .string (bs p1), .int .i64 p2, .func (.func 143) #[] #[.pointer (some ⟨b9, 0, none⟩), .pointer (some ⟨b11, 0, none⟩)]] : List Value).toArray w fun e w' => ∃ u15 u16 u17 u18, e = .returned (.agg [.int .i64 r.1.Kind, .string (bs r.1.Name), .string (bs r.1.Other), .int .i64 r.1.Op, .int .i64 r.1.N, .int .i64 r.1.Frames, u15].toArray) ∧ Hd O w w' S [.fz (.sl rCond u15 r.1.Kids), .own Rp.str u16 9 r.2.r.Phases, .own rMoveT u17 102 r.2.r.Moves, .own rRule u18 106 r.2.r.Rules, .blk b1 [.string (bs r.2.text), .int .i64 r.2.at_, .int .i64 r.2.now.kind, .int .i64 r.2.now.at_, .int .i64 r.2.now.n, .string (bs r.2.now.text), u16, u17, u18] 88, .blk b9 [.pointer (some ⟨b1, 0, none⟩)] 84, .blk b11 [.int .i64 p3c1] 3] := by
 unfold F_event_reader_list_event_reader_cond_1_1_pa0d at hF
 refine yB 32 Tryz.func141 rfl rfl rfl ?_
 refine zC fun K19 hK19 => ?_
 refine zB ?_
 refine yX rfl rfl (xB zero54 H) ?_
 rintro _ w22 ⟨b20, rfl, H⟩
 refine (zF (zA (hK19 _ _ ?_)))
 refine zC fun K23 hK23 => ?_
 refine zB ?_
 refine zM (.func (.func 143) #[] #[.pointer (some ⟨b9, 0, none⟩), .pointer (some ⟨b11, 0, none⟩)]) ?_
 obtain ⟨⟨x24, x25⟩, e26, hF⟩ := zD hF
 refine zV rfl rfl (DoC_clo en143 rfl rfl) (F_event_reader_cond_1_1_pdd_w rfB rhB p0 p3c1 b9 b1 v2 v3 v4 b11 _ e26 _ _ _ (H.enter [0, 1, 2, 3, 4, 5] [6, 7] (by decide) rfl)) ?_
 rintro _ w35 ⟨v27, v29, v30, v31, rfl, G36⟩
 have H : Hd O _ w35 _ [.fz (.at 0 0 ((Fl.arr 7 Fl.str).f zJ)), .fz (.gi 4), .blk b20 [.int .i64 0, .string (bs []), .string (bs []), .int .i64 0, .int .i64 0, .int .i64 0, .slice none 0 0] 54, .fz (.sl rCond v27 x24.Kids), .own Rp.str v29 9 x25.r.Phases, .own rMoveT v30 102 x25.r.Moves, .own rRule v31 106 x25.r.Rules, .blk b1 [.string (bs x25.text), .int .i64 x25.at_, .int .i64 x25.now.kind, .int .i64 x25.now.at_, .int .i64 x25.now.n, .string (bs x25.now.text), v29, v30, v31] 88, .blk b9 [.pointer (some ⟨b1, 0, none⟩)] 84, .blk b11 [.int .i64 p3c1] 3] := H.back [0, 1, 2, 3, 4, 5] [6, 7] rfl G36
 refine ⟨_, rfl, ?_⟩
 obtain ⟨x37, e38, hF⟩ := zG hF
 subst e38
 refine yX rfl rfl (Lx_bs (r := rCond) (xl := [x24]) (cs := [.int .i64 x24.Kind, .string (bs x24.Name), .string (bs x24.Other), .int .i64 x24.Op, .int .i64 x24.N, .int .i64 x24.Frames, v27]) u52 el54 (by decide) (by decide) rfl (xJ (vs := [.agg [.int .i64 x24.Kind, .string (bs x24.Name), .string (bs x24.Other), .int .i64 x24.Op, .int .i64 x24.N, .int .i64 x24.Frames, v27].toArray]) (by decide) rfl rfl ⟨rfl, trivial⟩ rfl) H ⟨[.int .i64 x24.Kind, .string (bs x24.Name), .string (bs x24.Other), .int .i64 x24.Op, .int .i64 x24.N, .int .i64 x24.Frames, v27], [], rfl, (rCond_mk (x := x24) (H.item (i := 3) rfl)), rfl⟩) ?_
 rintro v40 w41 H
 refine zI v40 ?_
 refine (zF (zA (hK23 _ _ ?_)))
 obtain ⟨j184, hF, hK183⟩ := zD hF
 refine yL [9, 13, 14, 15, 16, 17, 18, 19, 20, 21, 22] (fun (g : Value × Value × Value × Value) => [(9, g.1)]) (fun g wl => Hd O w wl S [.own rCond g.1 54 j184.1, .fz (.at 0 0 ((Fl.arr 7 Fl.str).f zJ)), .fz (.gi 4), .blk b20 [.int .i64 0, .string (bs []), .string (bs []), .int .i64 0, .int .i64 0, .int .i64 0, .slice none 0 0] 54, .blk b1 [.string (bs j184.2.1), .int .i64 j184.2.2.1, .int .i64 j184.2.2.2.1, .int .i64 j184.2.2.2.2.1, .int .i64 j184.2.2.2.2.2.1, .string (bs j184.2.2.2.2.2.2.1), g.2.1, g.2.2.1, g.2.2.2] 88, .own Rp.str g.2.1 9 j184.2.2.2.2.2.2.2.1, .own rMoveT g.2.2.1 102 j184.2.2.2.2.2.2.2.2.1, .own rRule g.2.2.2 106 j184.2.2.2.2.2.2.2.2.2, .blk b9 [.pointer (some ⟨b1, 0, none⟩)] 84, .blk b11 [.int .i64 p3c1] 3]) ?_ ?_
 ·skip
  refine yJ ?_
  unfold F_event_reader_list_event_reader_cond_1_1_pa0d_L1 at hF
  obtain ⟨B319, n320, eB321, hF⟩ := yY hF
  refine xK [9, 13, 14, 15, 16, 17, 18, 19, 20, 21, 22] (fun (g : Nat × (List Cond) × Str × Int × Int × Int × Int × Str × (List Str) × (List MoveT) × (List Rule) × Value × Value × Value × Value) => [(9, g.2.2.2.2.2.2.2.2.2.2.2.1)]) (fun g wl => Hd O w wl S [.own rCond g.2.2.2.2.2.2.2.2.2.2.2.1 54 g.2.1, .fz (.at 0 0 ((Fl.arr 7 Fl.str).f zJ)), .fz (.gi 4), .blk b20 [.int .i64 0, .string (bs []), .string (bs []), .int .i64 0, .int .i64 0, .int .i64 0, .slice none 0 0] 54, .blk b1 [.string (bs g.2.2.1), .int .i64 g.2.2.2.1, .int .i64 g.2.2.2.2.1, .int .i64 g.2.2.2.2.2.1, .int .i64 g.2.2.2.2.2.2.1, .string (bs g.2.2.2.2.2.2.2.1), g.2.2.2.2.2.2.2.2.2.2.2.2.1, g.2.2.2.2.2.2.2.2.2.2.2.2.2.1, g.2.2.2.2.2.2.2.2.2.2.2.2.2.2] 88, .own Rp.str g.2.2.2.2.2.2.2.2.2.2.2.2.1 9 g.2.2.2.2.2.2.2.2.1, .own rMoveT g.2.2.2.2.2.2.2.2.2.2.2.2.2.1 102 g.2.2.2.2.2.2.2.2.2.1, .own rRule g.2.2.2.2.2.2.2.2.2.2.2.2.2.2 106 g.2.2.2.2.2.2.2.2.2.2.1, .blk b9 [.pointer (some ⟨b1, 0, none⟩)] 84, .blk b11 [.int .i64 p3c1] 3] ∧ loopN B319 g.1 (g.2.1, g.2.2.1, g.2.2.2.1, g.2.2.2.2.1, g.2.2.2.2.2.1, g.2.2.2.2.2.2.1, g.2.2.2.2.2.2.2.1, g.2.2.2.2.2.2.2.2.1, g.2.2.2.2.2.2.2.2.2.1, g.2.2.2.2.2.2.2.2.2.2.1) = some j184) (fun g => g.1) (n320, ([x24] : List Cond), x25.text, x25.at_, x25.now.kind, x25.now.at_, x25.now.n, x25.now.text, x25.r.Phases, x25.r.Moves, x25.r.Rules, v40, v29, v30, v31) (zK rfl zL) ⟨H.pick [10, 0, 1, 2, 7, 4, 5, 6, 8, 9] (by decide), hF⟩ ?_
  clear H hF
  rintro ⟨n320, g302, g304, g305, g306, g307, g308, g309, g311, g314, g317, v303, v312, v315, v318⟩ ρ w323 ⟨H, hF⟩
  obtain ⟨n324, rfl, hF⟩ := xE hF
  have hF := xC eB321 hF
  refine zC fun K333 hK333 => ?_
  refine zC fun K334 hK334 => ?_
  refine zB ?_
  refine zM (.pointer (some ⟨b1, 0, none⟩)) ?_
  refine zM (.string (bs p1)) ?_
  have H335 := H
  have H := H.freezeB (i := 4) rfl
  have H := H.freeze (i := 5) rfl
  have H := H.freeze (i := 6) rfl
  have H := H.freeze (i := 7) rfl
  have H := H.fz (.pt rEventReader (some ⟨b1, 0, none⟩) (some (EventReader.mk g304 g305 (EventToken.mk g306 g307 g308 g309) (Rules.mk g311 g314 g317)))) ⟨_, _, _, rfl, (H.item (i := 4) rfl).1, (H.item (i := 4) rfl).2.1, (xN (x := EventReader.mk g304 g305 (EventToken.mk g306 g307 g308 g309) (Rules.mk g311 g314 g317)) (H.item (i := 5) rfl) (H.item (i := 6) rfl) (H.item (i := 7) rfl)), (H.item (i := 4) rfl).2.2⟩
  obtain ⟨x337, e338, hF⟩ := zD hF
  refine zV rfl rfl (zU en88 rfl) (F_event_reader_is_w (some (EventReader.mk g304 g305 (EventToken.mk g306 g307 g308 g309) (Rules.mk g311 g314 g317))) p1 (some ⟨b1, 0, none⟩) _ e338 _ _ _ (H.enter [] [10] (by decide) rfl)) ?_
  rintro _ w339 ⟨rfl, G340⟩
  have H := H335.step (G340.only : Only [] _ _)
  refine ⟨_, rfl, ?_⟩
  refine (zF (zA (hK334 _ _ ?_)))
  refine zW (b := x337) rfl (fun c341 => ?_) (fun c341 => ?_)
  ·have hF := zO c341 hF
   refine (yA (zA (hK333 _ _ ?_)))
   refine yJ ?_
   refine zC fun K342 hK342 => ?_
   refine zB ?_
   refine zM (.pointer (some ⟨b1, 0, none⟩)) ?_
   obtain ⟨x343, e344, hF⟩ := zD hF
   refine zV rfl rfl (zU en87 rfl) (F_event_reader_advance_w (EventReader.mk g304 g305 (EventToken.mk g306 g307 g308 g309) (Rules.mk g311 g314 g317)) b1 v312 v315 v318 _ e344 _ _ _ (H.enter [5, 6, 7, 4] [2] (by decide) rfl)) ?_
   rintro _ w351 ⟨v345, v346, v347, rfl, G352⟩
   have H : Hd O _ w351 _ [.own rCond v303 54 g302, .fz (.at 0 0 ((Fl.arr 7 Fl.str).f zJ)), .fz (.gi 4), .blk b20 [.int .i64 0, .string (bs []), .string (bs []), .int .i64 0, .int .i64 0, .int .i64 0, .slice none 0 0] 54, .blk b9 [.pointer (some ⟨b1, 0, none⟩)] 84, .blk b11 [.int .i64 p3c1] 3, .own Rp.str v345 9 x343.r.Phases, .own rMoveT v346 102 x343.r.Moves, .own rRule v347 106 x343.r.Rules, .blk b1 [.string (bs x343.text), .int .i64 x343.at_, .int .i64 x343.now.kind, .int .i64 x343.now.at_, .int .i64 x343.now.n, .string (bs x343.now.text), v345, v346, v347] 88] := H.back [5, 6, 7, 4] [2] rfl G352
   refine ⟨_, rfl, ?_⟩
   refine (zF (zA (hK342 _ _ ?_)))
   refine zB ?_
   refine zM v303 ?_
   refine zM (.func (.func 143) #[] #[.pointer (some ⟨b9, 0, none⟩), .pointer (some ⟨b11, 0, none⟩)]) ?_
   obtain ⟨⟨x353, x354⟩, e355, hF⟩ := zD hF
   refine zV rfl rfl (DoC_clo en143 rfl rfl) (F_event_reader_cond_1_1_pdd_w rfB rhB x343 p3c1 b9 b1 v345 v346 v347 b11 _ e355 _ _ _ (H.enter [6, 7, 8, 9, 4, 5] [1, 2] (by decide) rfl)) ?_
   rintro _ w364 ⟨v356, v358, v359, v360, rfl, G365⟩
   have H : Hd O _ w364 _ [.own rCond v303 54 g302, .fz (.at 0 0 ((Fl.arr 7 Fl.str).f zJ)), .fz (.gi 4), .blk b20 [.int .i64 0, .string (bs []), .string (bs []), .int .i64 0, .int .i64 0, .int .i64 0, .slice none 0 0] 54, .fz (.sl rCond v356 x353.Kids), .own Rp.str v358 9 x354.r.Phases, .own rMoveT v359 102 x354.r.Moves, .own rRule v360 106 x354.r.Rules, .blk b1 [.string (bs x354.text), .int .i64 x354.at_, .int .i64 x354.now.kind, .int .i64 x354.now.at_, .int .i64 x354.now.n, .string (bs x354.now.text), v358, v359, v360] 88, .blk b9 [.pointer (some ⟨b1, 0, none⟩)] 84, .blk b11 [.int .i64 p3c1] 3] := H.back [6, 7, 8, 9, 4, 5] [1, 2] rfl G365
   refine ⟨_, rfl, ?_⟩
   obtain ⟨x366, e367, hF⟩ := zG hF
   subst e367
   refine yX rfl rfl (Lx_bs (r := rCond) (xl := [x353]) (cs := [.int .i64 x353.Kind, .string (bs x353.Name), .string (bs x353.Other), .int .i64 x353.Op, .int .i64 x353.N, .int .i64 x353.Frames, v356]) u52 el54 (by decide) (by decide) rfl (xJ (vs := [.agg [.int .i64 x353.Kind, .string (bs x353.Name), .string (bs x353.Other), .int .i64 x353.Op, .int .i64 x353.N, .int .i64 x353.Frames, v356].toArray]) (by decide) rfl rfl ⟨rfl, trivial⟩ rfl) H ⟨[.int .i64 x353.Kind, .string (bs x353.Name), .string (bs x353.Other), .int .i64 x353.Op, .int .i64 x353.N, .int .i64 x353.Frames, v356], [], rfl, (rCond_mk (x := x353) (H.item (i := 4) rfl)), rfl⟩) ?_
   rintro v369 w370 H
   obtain ⟨x371, e372, hF⟩ := zD hF
   refine yX rfl rfl (Lx_app H (i := 0) rfl u52 el54 rfl rfl (Sr.of_own (H.item (i := 11) rfl)) e372) ?_
   rintro v373 w374 H
   refine zI v373 ?_
   exact (zF (yR (zA (meet ⟨(n324, x371, x354.text, x354.at_, x354.now.kind, x354.now.at_, x354.now.n, x354.now.text, x354.r.Phases, x354.r.Moves, x354.r.Rules, v373, v358, v359, v360), (zK rfl zL), ⟨H.pick [0, 1, 2, 3, 8, 5, 6, 7, 9, 10] (by decide), hF⟩, Nat.lt_succ_self _⟩))))
  have hF := zN c341 hF
  obtain rfl := someI hF
  exact (xW (yT (yT (xG (zA (meet ⟨(v303, v312, v315, v318), (zK rfl zL), H.pick [0, 1, 2, 3, 4, 5, 6, 7, 8, 9] (by decide)⟩))))))
 rintro ⟨v166, v175, v178, v181⟩ ρ w182 H
 have hF := hK183
 obtain ⟨g165, g167, g168, g169, g170, g171, g172, g174, g177, g180⟩ := j184
 refine zC fun K400 hK400 => ?_
 refine zC fun K401 hK401 => ?_
 refine zB ?_
 refine zM v166 ?_
 obtain ⟨x402, e403, hF⟩ := zG hF
 obtain ⟨a404, c405, q406⟩ := Sr.len (Sr.of_own (H.item (i := 0) rfl))
 refine zH (yQ (Do_len u52 q406) (congrArg (Value.int .i64) e403)) ?_
 obtain ⟨x407, e408, hF⟩ := zG hF
 refine zH (zS (yP (a := x402) (b := 1) rfl rfl) e408) ?_
 refine (zF (zA (hK401 _ _ ?_)))
 refine zW (b := x407) rfl (fun c409 => ?_) (fun c409 => ?_)
 ·have hF := zO c409 hF
  refine zC fun K410 hK410 => ?_
  refine zB ?_
  refine zM v166 ?_
  obtain ⟨x411, e412, hF⟩ := zD hF
  obtain ⟨b413, c415, cs416, q417, h420, h421⟩ := own_at (H.item (i := 0) rfl) e412
  obtain ⟨v422, rfl, h423⟩ := xX h420
  have H := H.fzs [.sl rCond v422 x411.Kids] ⟨h423, trivial⟩
  refine zH (Do_idx u52 sz54 q417 rfl (yU e412).1 (yU e412).2.1 rfl rfl) ?_
  refine zH (yQ (yM (cs := [.int .i64 x411.Kind, .string (bs x411.Name), .string (bs x411.Other), .int .i64 x411.Op, .int .i64 x411.N, .int .i64 x411.Frames, v422]) agg54 rfl sz54 rfl h421) rfl) ?_
  refine yN rfl (yH (vs := [.int .i64 x411.Kind, .string (bs x411.Name), .string (bs x411.Other), .int .i64 x411.Op, .int .i64 x411.N, .int .i64 x411.Frames, v422]) H 3 rfl sz54 rfl rfl rfl ⟨rfl, rfl, rfl, rfl, rfl, rfl, (wE (H.item (i := 10) rfl)), trivial⟩ rfl) ?_
  rintro w425 H
  refine (zF (zA (hK410 _ _ ?_)))
  obtain rfl := someI hF
  refine (zZ (zY (postc  rfl rfl (yC agg54 sz54 rfl (Blk.cells (H.item (i := 3) rfl))) ?_)))
  exact ⟨v422, v175, v178, v181, rfl, H.pick [10, 5, 6, 7, 4, 8, 9] (by decide)⟩
 have hF := zN c409 hF
 refine (yA (zA (hK400 _ _ ?_)))
 refine zC fun K426 hK426 => ?_
 refine zB ?_
 refine zM (.int .i64 p2) ?_
 refine zM v166 ?_
 obtain ⟨a427, c428, q429⟩ : ∃ a c, v166 = .slice a _ c := Sr.len (Sr.of_own (H.item (i := 0) rfl))
 refine zH (xH (cs := [.int .i64 p2, .string (bs []), .string (bs []), .int .i64 0, .int .i64 0, .int .i64 0, v166]) (by rw [q429]; exact bt54_0_6 _ a427 _ c428)) ?_
 refine yN rfl (yH (vs := [.int .i64 p2, .string (bs []), .string (bs []), .int .i64 0, .int .i64 0, .int .i64 0, v166]) H 3 rfl sz54 rfl rfl rfl ⟨rfl, rfl, rfl, rfl, rfl, rfl, (own_one (H.item (i := 0) rfl)), trivial⟩ rfl) ?_
 rintro w430 H
 refine (zF (zA (hK426 _ _ ?_)))
 have H := H.freeze (i := 0) rfl
 obtain rfl := someI hF
 refine (zZ (postc  rfl rfl (yC agg54 sz54 rfl (Blk.cells (H.item (i := 3) rfl))) ?_))
 exact ⟨v166, v175, v178, v181, rfl, H.pick [0, 5, 6, 7, 4, 8, 9] (by decide)⟩
set_option maxHeartbeats 4000000 in
theorem F_event_reader_cond_1_pdd_w (rfB : EventReader → Int → Option (Cond × EventReader)) (rhB : S_event_reader_cond rfB) (c0p : EventReader) (c1 : Int) (b1 : Nat) (b3 : Nat) (v4 : Value) (v5 : Value) (v6 : Value) (b11 : Nat) (r : Cond × EventReader) (hF : F_event_reader_cond_1_pdd rfB c0p c1 = some r) (O S : List Nat) (w : World) (H : Hd O w w S [.own Rp.str v4 9 c0p.r.Phases, .own rMoveT v5 102 c0p.r.Moves, .own rRule v6 106 c0p.r.Rules, .blk b3 [.string (bs c0p.text), .int .i64 c0p.at_, .int .i64 c0p.now.kind, .int .i64 c0p.now.at_, .int .i64 c0p.now.n, .string (bs c0p.now.text), v4, v5, v6] 88, .blk b1 [.pointer (some ⟨b3, 0, none⟩)] 84, .blk b11 [.int .i64 c1] 3, .fz (.at 0 0 ((Fl.arr 7 Fl.str).f zJ)), .fz (.gi 4)]) :
  Calls Tryz.prog 142 ([.pointer (some ⟨b1, 0, none⟩), .pointer (some ⟨b11, 0, none⟩)] : List Value).toArray w fun e w' => ∃ u15 u16 u17 u18, e = .returned (.agg [.int .i64 r.1.Kind, .string (bs r.1.Name), .string (bs r.1.Other), .int .i64 r.1.Op, .int .i64 r.1.N, .int .i64 r.1.Frames, u15].toArray) ∧ Hd O w w' S [.fz (.sl rCond u15 r.1.Kids), .own Rp.str u16 9 r.2.r.Phases, .own rMoveT u17 102 r.2.r.Moves, .own rRule u18 106 r.2.r.Rules, .blk b3 [.string (bs r.2.text), .int .i64 r.2.at_, .int .i64 r.2.now.kind, .int .i64 r.2.now.at_, .int .i64 r.2.now.n, .string (bs r.2.now.text), u16, u17, u18] 88, .blk b1 [.pointer (some ⟨b3, 0, none⟩)] 84, .blk b11 [.int .i64 c1] 3] := by
 unfold F_event_reader_cond_1_pdd at hF
 refine yB 6 Tryz.func142 rfl rfl rfl ?_
 refine zC fun K19 hK19 => ?_
 refine zB ?_
 refine yX rfl rfl (xB zero54 H) ?_
 rintro _ w22 ⟨b20, rfl, H⟩
 refine (zF (zA (hK19 _ _ ?_)))
 refine zC fun K23 hK23 => ?_
 refine zB ?_
 refine zH (zT one84 rfl (Cells.get (Blk.cells (H.item (i := 4) rfl)) (i := 0) rfl)) ?_
 refine zH (Do_makeFunc rfl) ?_
 obtain ⟨⟨x24, x25⟩, e26, hF⟩ := zD hF
 refine zV rfl rfl (zU en141 rfl) (F_event_reader_list_event_reader_cond_1_1_pa0d_w rfB rhB c0p [97, 110, 100] 9 c1 b3 v4 v5 v6 b1 b11 _ e26 _ _ _ (H.enter [0, 1, 2, 3, 4, 5] [6, 7] (by decide) rfl)) ?_
 rintro _ w35 ⟨v27, v29, v30, v31, rfl, G36⟩
 have H : Hd O _ w35 _ [.fz (.at 0 0 ((Fl.arr 7 Fl.str).f zJ)), .fz (.gi 4), .blk b20 [.int .i64 0, .string (bs []), .string (bs []), .int .i64 0, .int .i64 0, .int .i64 0, .slice none 0 0] 54, .fz (.sl rCond v27 x24.Kids), .own Rp.str v29 9 x25.r.Phases, .own rMoveT v30 102 x25.r.Moves, .own rRule v31 106 x25.r.Rules, .blk b3 [.string (bs x25.text), .int .i64 x25.at_, .int .i64 x25.now.kind, .int .i64 x25.now.at_, .int .i64 x25.now.n, .string (bs x25.now.text), v29, v30, v31] 88, .blk b1 [.pointer (some ⟨b3, 0, none⟩)] 84, .blk b11 [.int .i64 c1] 3] := H.back [0, 1, 2, 3, 4, 5] [6, 7] rfl G36
 refine ⟨_, rfl, ?_⟩
 refine yN rfl (yH (vs := [.int .i64 x24.Kind, .string (bs x24.Name), .string (bs x24.Other), .int .i64 x24.Op, .int .i64 x24.N, .int .i64 x24.Frames, v27]) H 2 rfl sz54 rfl rfl rfl ⟨rfl, rfl, rfl, rfl, rfl, rfl, (wE (H.item (i := 3) rfl)), trivial⟩ rfl) ?_
 rintro w37 H
 refine (zF (zA (hK23 _ _ ?_)))
 obtain rfl := someI hF
 refine (zZ (postc  rfl rfl (yC agg54 sz54 rfl (Blk.cells (H.item (i := 2) rfl))) ?_))
 exact ⟨v27, v29, v30, v31, rfl, H.pick [3, 4, 5, 6, 7, 8, 9] (by decide)⟩
set_option maxHeartbeats 4000000 in
theorem F_event_reader_list_event_reader_cond_1_pa0d_w (rfB : EventReader → Int → Option (Cond × EventReader)) (rhB : S_event_reader_cond rfB) (p0 : EventReader) (p1 : Str) (p2 : Int) (p3c1 : Int) (b1 : Nat) (v2 : Value) (v3 : Value) (v4 : Value) (b9 : Nat) (b11 : Nat) (r : Cond × EventReader) (hF : F_event_reader_list_event_reader_cond_1_pa0d rfB p0 p1 p2 p3c1 = some r) (O S : List Nat) (w : World) (H : Hd O w w S [.own Rp.str v2 9 p0.r.Phases, .own rMoveT v3 102 p0.r.Moves, .own rRule v4 106 p0.r.Rules, .blk b1 [.string (bs p0.text), .int .i64 p0.at_, .int .i64 p0.now.kind, .int .i64 p0.now.at_, .int .i64 p0.now.n, .string (bs p0.now.text), v2, v3, v4] 88, .blk b9 [.pointer (some ⟨b1, 0, none⟩)] 84, .blk b11 [.int .i64 p3c1] 3, .fz (.at 0 0 ((Fl.arr 7 Fl.str).f zJ)), .fz (.gi 4)]) :
  Calls Tryz.prog 141 ([.pointer (some ⟨b1, 0, none⟩), .string (bs p1), .int .i64 p2, .func (.func 142) #[] #[.pointer (some ⟨b9, 0, none⟩), .pointer (some ⟨b11, 0, none⟩)]] : List Value).toArray w fun e w' => ∃ u15 u16 u17 u18, e = .returned (.agg [.int .i64 r.1.Kind, .string (bs r.1.Name), .string (bs r.1.Other), .int .i64 r.1.Op, .int .i64 r.1.N, .int .i64 r.1.Frames, u15].toArray) ∧ Hd O w w' S [.fz (.sl rCond u15 r.1.Kids), .own Rp.str u16 9 r.2.r.Phases, .own rMoveT u17 102 r.2.r.Moves, .own rRule u18 106 r.2.r.Rules, .blk b1 [.string (bs r.2.text), .int .i64 r.2.at_, .int .i64 r.2.now.kind, .int .i64 r.2.now.at_, .int .i64 r.2.now.n, .string (bs r.2.now.text), u16, u17, u18] 88, .blk b9 [.pointer (some ⟨b1, 0, none⟩)] 84, .blk b11 [.int .i64 p3c1] 3] := by
 unfold F_event_reader_list_event_reader_cond_1_pa0d at hF
 refine yB 32 Tryz.func141 rfl rfl rfl ?_
 refine zC fun K19 hK19 => ?_
 refine zB ?_
 refine yX rfl rfl (xB zero54 H) ?_
 rintro _ w22 ⟨b20, rfl, H⟩
 refine (zF (zA (hK19 _ _ ?_)))
 refine zC fun K23 hK23 => ?_
 refine zB ?_
 refine zM (.func (.func 142) #[] #[.pointer (some ⟨b9, 0, none⟩), .pointer (some ⟨b11, 0, none⟩)]) ?_
 obtain ⟨⟨x24, x25⟩, e26, hF⟩ := zD hF
 refine zV rfl rfl (DoC_clo en142 rfl rfl) (F_event_reader_cond_1_pdd_w rfB rhB p0 p3c1 b9 b1 v2 v3 v4 b11 _ e26 _ _ _ (H.enter [0, 1, 2, 3, 4, 5] [6, 7] (by decide) rfl)) ?_
 rintro _ w35 ⟨v27, v29, v30, v31, rfl, G36⟩
 have H : Hd O _ w35 _ [.fz (.at 0 0 ((Fl.arr 7 Fl.str).f zJ)), .fz (.gi 4), .blk b20 [.int .i64 0, .string (bs []), .string (bs []), .int .i64 0, .int .i64 0, .int .i64 0, .slice none 0 0] 54, .fz (.sl rCond v27 x24.Kids), .own Rp.str v29 9 x25.r.Phases, .own rMoveT v30 102 x25.r.Moves, .own rRule v31 106 x25.r.Rules, .blk b1 [.string (bs x25.text), .int .i64 x25.at_, .int .i64 x25.now.kind, .int .i64 x25.now.at_, .int .i64 x25.now.n, .string (bs x25.now.text), v29, v30, v31] 88, .blk b9 [.pointer (some ⟨b1, 0, none⟩)] 84, .blk b11 [.int .i64 p3c1] 3] := H.back [0, 1, 2, 3, 4, 5] [6, 7] rfl G36
 refine ⟨_, rfl, ?_⟩
 obtain ⟨x37, e38, hF⟩ := zG hF
 subst e38
 refine yX rfl rfl (Lx_bs (r := rCond) (xl := [x24]) (cs := [.int .i64 x24.Kind, .string (bs x24.Name), .string (bs x24.Other), .int .i64 x24.Op, .int .i64 x24.N, .int .i64 x24.Frames, v27]) u52 el54 (by decide) (by decide) rfl (xJ (vs := [.agg [.int .i64 x24.Kind, .string (bs x24.Name), .string (bs x24.Other), .int .i64 x24.Op, .int .i64 x24.N, .int .i64 x24.Frames, v27].toArray]) (by decide) rfl rfl ⟨rfl, trivial⟩ rfl) H ⟨[.int .i64 x24.Kind, .string (bs x24.Name), .string (bs x24.Other), .int .i64 x24.Op, .int .i64 x24.N, .int .i64 x24.Frames, v27], [], rfl, (rCond_mk (x := x24) (H.item (i := 3) rfl)), rfl⟩) ?_
 rintro v40 w41 H
 refine zI v40 ?_
 refine (zF (zA (hK23 _ _ ?_)))
 obtain ⟨j184, hF, hK183⟩ := zD hF
 refine yL [9, 13, 14, 15, 16, 17, 18, 19, 20, 21, 22] (fun (g : Value × Value × Value × Value) => [(9, g.1)]) (fun g wl => Hd O w wl S [.own rCond g.1 54 j184.1, .fz (.at 0 0 ((Fl.arr 7 Fl.str).f zJ)), .fz (.gi 4), .blk b20 [.int .i64 0, .string (bs []), .string (bs []), .int .i64 0, .int .i64 0, .int .i64 0, .slice none 0 0] 54, .blk b1 [.string (bs j184.2.1), .int .i64 j184.2.2.1, .int .i64 j184.2.2.2.1, .int .i64 j184.2.2.2.2.1, .int .i64 j184.2.2.2.2.2.1, .string (bs j184.2.2.2.2.2.2.1), g.2.1, g.2.2.1, g.2.2.2] 88, .own Rp.str g.2.1 9 j184.2.2.2.2.2.2.2.1, .own rMoveT g.2.2.1 102 j184.2.2.2.2.2.2.2.2.1, .own rRule g.2.2.2 106 j184.2.2.2.2.2.2.2.2.2, .blk b9 [.pointer (some ⟨b1, 0, none⟩)] 84, .blk b11 [.int .i64 p3c1] 3]) ?_ ?_
 ·skip
  refine yJ ?_
  unfold F_event_reader_list_event_reader_cond_1_pa0d_L1 at hF
  obtain ⟨B319, n320, eB321, hF⟩ := yY hF
  refine xK [9, 13, 14, 15, 16, 17, 18, 19, 20, 21, 22] (fun (g : Nat × (List Cond) × Str × Int × Int × Int × Int × Str × (List Str) × (List MoveT) × (List Rule) × Value × Value × Value × Value) => [(9, g.2.2.2.2.2.2.2.2.2.2.2.1)]) (fun g wl => Hd O w wl S [.own rCond g.2.2.2.2.2.2.2.2.2.2.2.1 54 g.2.1, .fz (.at 0 0 ((Fl.arr 7 Fl.str).f zJ)), .fz (.gi 4), .blk b20 [.int .i64 0, .string (bs []), .string (bs []), .int .i64 0, .int .i64 0, .int .i64 0, .slice none 0 0] 54, .blk b1 [.string (bs g.2.2.1), .int .i64 g.2.2.2.1, .int .i64 g.2.2.2.2.1, .int .i64 g.2.2.2.2.2.1, .int .i64 g.2.2.2.2.2.2.1, .string (bs g.2.2.2.2.2.2.2.1), g.2.2.2.2.2.2.2.2.2.2.2.2.1, g.2.2.2.2.2.2.2.2.2.2.2.2.2.1, g.2.2.2.2.2.2.2.2.2.2.2.2.2.2] 88, .own Rp.str g.2.2.2.2.2.2.2.2.2.2.2.2.1 9 g.2.2.2.2.2.2.2.2.1, .own rMoveT g.2.2.2.2.2.2.2.2.2.2.2.2.2.1 102 g.2.2.2.2.2.2.2.2.2.1, .own rRule g.2.2.2.2.2.2.2.2.2.2.2.2.2.2 106 g.2.2.2.2.2.2.2.2.2.2.1, .blk b9 [.pointer (some ⟨b1, 0, none⟩)] 84, .blk b11 [.int .i64 p3c1] 3] ∧ loopN B319 g.1 (g.2.1, g.2.2.1, g.2.2.2.1, g.2.2.2.2.1, g.2.2.2.2.2.1, g.2.2.2.2.2.2.1, g.2.2.2.2.2.2.2.1, g.2.2.2.2.2.2.2.2.1, g.2.2.2.2.2.2.2.2.2.1, g.2.2.2.2.2.2.2.2.2.2.1) = some j184) (fun g => g.1) (n320, ([x24] : List Cond), x25.text, x25.at_, x25.now.kind, x25.now.at_, x25.now.n, x25.now.text, x25.r.Phases, x25.r.Moves, x25.r.Rules, v40, v29, v30, v31) (zK rfl zL) ⟨H.pick [10, 0, 1, 2, 7, 4, 5, 6, 8, 9] (by decide), hF⟩ ?_
  clear H hF
  rintro ⟨n320, g302, g304, g305, g306, g307, g308, g309, g311, g314, g317, v303, v312, v315, v318⟩ ρ w323 ⟨H, hF⟩
  obtain ⟨n324, rfl, hF⟩ := xE hF
  have hF := xC eB321 hF
  refine zC fun K333 hK333 => ?_
  refine zC fun K334 hK334 => ?_
  refine zB ?_
  refine zM (.pointer (some ⟨b1, 0, none⟩)) ?_
  refine zM (.string (bs p1)) ?_
  have H335 := H
  have H := H.freezeB (i := 4) rfl
  have H := H.freeze (i := 5) rfl
  have H := H.freeze (i := 6) rfl
  have H := H.freeze (i := 7) rfl
  have H := H.fz (.pt rEventReader (some ⟨b1, 0, none⟩) (some (EventReader.mk g304 g305 (EventToken.mk g306 g307 g308 g309) (Rules.mk g311 g314 g317)))) ⟨_, _, _, rfl, (H.item (i := 4) rfl).1, (H.item (i := 4) rfl).2.1, (xN (x := EventReader.mk g304 g305 (EventToken.mk g306 g307 g308 g309) (Rules.mk g311 g314 g317)) (H.item (i := 5) rfl) (H.item (i := 6) rfl) (H.item (i := 7) rfl)), (H.item (i := 4) rfl).2.2⟩
  obtain ⟨x337, e338, hF⟩ := zD hF
  refine zV rfl rfl (zU en88 rfl) (F_event_reader_is_w (some (EventReader.mk g304 g305 (EventToken.mk g306 g307 g308 g309) (Rules.mk g311 g314 g317))) p1 (some ⟨b1, 0, none⟩) _ e338 _ _ _ (H.enter [] [10] (by decide) rfl)) ?_
  rintro _ w339 ⟨rfl, G340⟩
  have H := H335.step (G340.only : Only [] _ _)
  refine ⟨_, rfl, ?_⟩
  refine (zF (zA (hK334 _ _ ?_)))
  refine zW (b := x337) rfl (fun c341 => ?_) (fun c341 => ?_)
  ·have hF := zO c341 hF
   refine (yA (zA (hK333 _ _ ?_)))
   refine yJ ?_
   refine zC fun K342 hK342 => ?_
   refine zB ?_
   refine zM (.pointer (some ⟨b1, 0, none⟩)) ?_
   obtain ⟨x343, e344, hF⟩ := zD hF
   refine zV rfl rfl (zU en87 rfl) (F_event_reader_advance_w (EventReader.mk g304 g305 (EventToken.mk g306 g307 g308 g309) (Rules.mk g311 g314 g317)) b1 v312 v315 v318 _ e344 _ _ _ (H.enter [5, 6, 7, 4] [2] (by decide) rfl)) ?_
   rintro _ w351 ⟨v345, v346, v347, rfl, G352⟩
   have H : Hd O _ w351 _ [.own rCond v303 54 g302, .fz (.at 0 0 ((Fl.arr 7 Fl.str).f zJ)), .fz (.gi 4), .blk b20 [.int .i64 0, .string (bs []), .string (bs []), .int .i64 0, .int .i64 0, .int .i64 0, .slice none 0 0] 54, .blk b9 [.pointer (some ⟨b1, 0, none⟩)] 84, .blk b11 [.int .i64 p3c1] 3, .own Rp.str v345 9 x343.r.Phases, .own rMoveT v346 102 x343.r.Moves, .own rRule v347 106 x343.r.Rules, .blk b1 [.string (bs x343.text), .int .i64 x343.at_, .int .i64 x343.now.kind, .int .i64 x343.now.at_, .int .i64 x343.now.n, .string (bs x343.now.text), v345, v346, v347] 88] := H.back [5, 6, 7, 4] [2] rfl G352
   refine ⟨_, rfl, ?_⟩
   refine (zF (zA (hK342 _ _ ?_)))
   refine zB ?_
   refine zM v303 ?_
   refine zM (.func (.func 142) #[] #[.pointer (some ⟨b9, 0, none⟩), .pointer (some ⟨b11, 0, none⟩)]) ?_
   obtain ⟨⟨x353, x354⟩, e355, hF⟩ := zD hF
   refine zV rfl rfl (DoC_clo en142 rfl rfl) (F_event_reader_cond_1_pdd_w rfB rhB x343 p3c1 b9 b1 v345 v346 v347 b11 _ e355 _ _ _ (H.enter [6, 7, 8, 9, 4, 5] [1, 2] (by decide) rfl)) ?_
   rintro _ w364 ⟨v356, v358, v359, v360, rfl, G365⟩
   have H : Hd O _ w364 _ [.own rCond v303 54 g302, .fz (.at 0 0 ((Fl.arr 7 Fl.str).f zJ)), .fz (.gi 4), .blk b20 [.int .i64 0, .string (bs []), .string (bs []), .int .i64 0, .int .i64 0, .int .i64 0, .slice none 0 0] 54, .fz (.sl rCond v356 x353.Kids), .own Rp.str v358 9 x354.r.Phases, .own rMoveT v359 102 x354.r.Moves, .own rRule v360 106 x354.r.Rules, .blk b1 [.string (bs x354.text), .int .i64 x354.at_, .int .i64 x354.now.kind, .int .i64 x354.now.at_, .int .i64 x354.now.n, .string (bs x354.now.text), v358, v359, v360] 88, .blk b9 [.pointer (some ⟨b1, 0, none⟩)] 84, .blk b11 [.int .i64 p3c1] 3] := H.back [6, 7, 8, 9, 4, 5] [1, 2] rfl G365
   refine ⟨_, rfl, ?_⟩
   obtain ⟨x366, e367, hF⟩ := zG hF
   subst e367
   refine yX rfl rfl (Lx_bs (r := rCond) (xl := [x353]) (cs := [.int .i64 x353.Kind, .string (bs x353.Name), .string (bs x353.Other), .int .i64 x353.Op, .int .i64 x353.N, .int .i64 x353.Frames, v356]) u52 el54 (by decide) (by decide) rfl (xJ (vs := [.agg [.int .i64 x353.Kind, .string (bs x353.Name), .string (bs x353.Other), .int .i64 x353.Op, .int .i64 x353.N, .int .i64 x353.Frames, v356].toArray]) (by decide) rfl rfl ⟨rfl, trivial⟩ rfl) H ⟨[.int .i64 x353.Kind, .string (bs x353.Name), .string (bs x353.Other), .int .i64 x353.Op, .int .i64 x353.N, .int .i64 x353.Frames, v356], [], rfl, (rCond_mk (x := x353) (H.item (i := 4) rfl)), rfl⟩) ?_
   rintro v369 w370 H
   obtain ⟨x371, e372, hF⟩ := zD hF
   refine yX rfl rfl (Lx_app H (i := 0) rfl u52 el54 rfl rfl (Sr.of_own (H.item (i := 11) rfl)) e372) ?_
   rintro v373 w374 H
   refine zI v373 ?_
   exact (zF (yR (zA (meet ⟨(n324, x371, x354.text, x354.at_, x354.now.kind, x354.now.at_, x354.now.n, x354.now.text, x354.r.Phases, x354.r.Moves, x354.r.Rules, v373, v358, v359, v360), (zK rfl zL), ⟨H.pick [0, 1, 2, 3, 8, 5, 6, 7, 9, 10] (by decide), hF⟩, Nat.lt_succ_self _⟩))))
  have hF := zN c341 hF
  obtain rfl := someI hF
  exact (xW (yT (yT (xG (zA (meet ⟨(v303, v312, v315, v318), (zK rfl zL), H.pick [0, 1, 2, 3, 4, 5, 6, 7, 8, 9] (by decide)⟩))))))
 rintro ⟨v166, v175, v178, v181⟩ ρ w182 H
 have hF := hK183
 obtain ⟨g165, g167, g168, g169, g170, g171, g172, g174, g177, g180⟩ := j184
 refine zC fun K400 hK400 => ?_
 refine zC fun K401 hK401 => ?_
 refine zB ?_
 refine zM v166 ?_
 obtain ⟨x402, e403, hF⟩ := zG hF
 obtain ⟨a404, c405, q406⟩ := Sr.len (Sr.of_own (H.item (i := 0) rfl))
 refine zH (yQ (Do_len u52 q406) (congrArg (Value.int .i64) e403)) ?_
 obtain ⟨x407, e408, hF⟩ := zG hF
 refine zH (zS (yP (a := x402) (b := 1) rfl rfl) e408) ?_
 refine (zF (zA (hK401 _ _ ?_)))
 refine zW (b := x407) rfl (fun c409 => ?_) (fun c409 => ?_)
 ·have hF := zO c409 hF
  refine zC fun K410 hK410 => ?_
  refine zB ?_
  refine zM v166 ?_
  obtain ⟨x411, e412, hF⟩ := zD hF
  obtain ⟨b413, c415, cs416, q417, h420, h421⟩ := own_at (H.item (i := 0) rfl) e412
  obtain ⟨v422, rfl, h423⟩ := xX h420
  have H := H.fzs [.sl rCond v422 x411.Kids] ⟨h423, trivial⟩
  refine zH (Do_idx u52 sz54 q417 rfl (yU e412).1 (yU e412).2.1 rfl rfl) ?_
  refine zH (yQ (yM (cs := [.int .i64 x411.Kind, .string (bs x411.Name), .string (bs x411.Other), .int .i64 x411.Op, .int .i64 x411.N, .int .i64 x411.Frames, v422]) agg54 rfl sz54 rfl h421) rfl) ?_
  refine yN rfl (yH (vs := [.int .i64 x411.Kind, .string (bs x411.Name), .string (bs x411.Other), .int .i64 x411.Op, .int .i64 x411.N, .int .i64 x411.Frames, v422]) H 3 rfl sz54 rfl rfl rfl ⟨rfl, rfl, rfl, rfl, rfl, rfl, (wE (H.item (i := 10) rfl)), trivial⟩ rfl) ?_
  rintro w425 H
  refine (zF (zA (hK410 _ _ ?_)))
  obtain rfl := someI hF
  refine (zZ (zY (postc  rfl rfl (yC agg54 sz54 rfl (Blk.cells (H.item (i := 3) rfl))) ?_)))
  exact ⟨v422, v175, v178, v181, rfl, H.pick [10, 5, 6, 7, 4, 8, 9] (by decide)⟩
 have hF := zN c409 hF
 refine (yA (zA (hK400 _ _ ?_)))
 refine zC fun K426 hK426 => ?_
 refine zB ?_
 refine zM (.int .i64 p2) ?_
 refine zM v166 ?_
 obtain ⟨a427, c428, q429⟩ : ∃ a c, v166 = .slice a _ c := Sr.len (Sr.of_own (H.item (i := 0) rfl))
 refine zH (xH (cs := [.int .i64 p2, .string (bs []), .string (bs []), .int .i64 0, .int .i64 0, .int .i64 0, v166]) (by rw [q429]; exact bt54_0_6 _ a427 _ c428)) ?_
 refine yN rfl (yH (vs := [.int .i64 p2, .string (bs []), .string (bs []), .int .i64 0, .int .i64 0, .int .i64 0, v166]) H 3 rfl sz54 rfl rfl rfl ⟨rfl, rfl, rfl, rfl, rfl, rfl, (own_one (H.item (i := 0) rfl)), trivial⟩ rfl) ?_
 rintro w430 H
 refine (zF (zA (hK426 _ _ ?_)))
 have H := H.freeze (i := 0) rfl
 obtain rfl := someI hF
 refine (zZ (postc  rfl rfl (yC agg54 sz54 rfl (Blk.cells (H.item (i := 3) rfl))) ?_))
 exact ⟨v166, v175, v178, v181, rfl, H.pick [0, 5, 6, 7, 4, 8, 9] (by decide)⟩
end Go.Proofs.YtnajnkghilemhaaGreatDoor.L
