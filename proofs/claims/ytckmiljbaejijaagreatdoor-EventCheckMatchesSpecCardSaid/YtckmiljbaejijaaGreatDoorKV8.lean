/- Walks: what each function computes, for every argument; no condition but those that stand in the statements. -/
import Derived.Test.YtckmiljbaejijaaGreatDoorKV0
import Derived.Test.YtckmiljbaejijaaGreatDoorKV7
import Derived.Test.YtckmiljbaejijaaGreatDoorKV3
namespace Go.Proofs.YtckmiljbaejijaaGreatDoor.L
open Go.RowKit Go.OB Go.Lf
set_option maxHeartbeats 4000000 in
theorem F_event_reader_part_B_w (rfB : EventReader → Int → Option (Cond × EventReader)) (rhB : S_event_reader_cond rfB) (rfA : EventReader → Int → Option (Cond × EventReader)) (rhA : S_event_reader_part rfA) (p0 : EventReader) (p1 : Int) (b1 : Nat) (v2 : Value) (v3 : Value) (v4 : Value) (r : Cond × EventReader) (hF : F_event_reader_part_B rfB rfA p0 p1 = some r) (O S : List Nat) (w : World) (H : Hd O w w S [.own Rp.str v2 9 p0.r.Phases, .own rMoveT v3 122 p0.r.Moves, .own rRule v4 95 p0.r.Rules, .blk b1 [.string (bs p0.text), .int .i64 p0.at_, .int .i64 p0.now.kind, .int .i64 p0.now.at_, .int .i64 p0.now.n, .string (bs p0.now.text), v2, v3, v4] 109, .fz (.at 0 0 ((Fl.arr 7 Fl.str).f zU)), .fz (.gi 4)]) :
  Calls Tryz.prog 181 ([.pointer (some ⟨b1, 0, none⟩), .int .i64 p1] : List Value).toArray w fun e w' => ∃ u11 u12 u13 u14, e = .returned (.agg [.int .i64 r.1.Kind, .string (bs r.1.Name), .string (bs r.1.Other), .int .i64 r.1.Op, .int .i64 r.1.N, .int .i64 r.1.Frames, u11].toArray) ∧ Hd O w w' S [.fz (.sl rCond u11 r.1.Kids), .own Rp.str u12 9 r.2.r.Phases, .own rMoveT u13 122 r.2.r.Moves, .own rRule u14 95 r.2.r.Rules, .blk b1 [.string (bs r.2.text), .int .i64 r.2.at_, .int .i64 r.2.now.kind, .int .i64 r.2.now.at_, .int .i64 r.2.now.n, .string (bs r.2.now.text), u12, u13, u14] 109] := by
 unfold F_event_reader_part_B at hF
 refine zY 110 Tryz.func181 rfl rfl rfl ?_
 refine zC fun K15 hK15 => ?_
 refine zB ?_
 refine yZ rfl rfl (Lx_box1 rfl rfl H) ?_
 rintro _ w18 ⟨b16, rfl, H⟩
 refine yZ rfl rfl (Lx_box1 rfl rfl H) ?_
 rintro _ w21 ⟨b19, rfl, H⟩
 refine yZ rfl rfl (xN zero70 H) ?_
 rintro _ w24 ⟨b22, rfl, H⟩
 refine (zD (zA (hK15 _ _ ?_)))
 refine zC fun K35 hK35 => ?_
 refine zC fun K36 hK36 => ?_
 refine zB ?_
 refine zH (zO one105 rfl (Cells.get (Blk.cells (H.item (i := 6) rfl)) (i := 0) rfl)) ?_
 have H37 := H
 have H := H.freezeB (i := 3) rfl
 have H := H.freeze (i := 0) rfl
 have H := H.freeze (i := 1) rfl
 have H := H.freeze (i := 2) rfl
 have H := H.fz (.pt rEventReader (some ⟨b1, 0, none⟩) (some p0)) ⟨_, _, _, rfl, (H.item (i := 3) rfl).1, (H.item (i := 3) rfl).2.1, (rEventReader_mk (x := p0) (H.item (i := 0) rfl) (H.item (i := 1) rfl) (H.item (i := 2) rfl)), (H.item (i := 3) rfl).2.2⟩
 obtain ⟨x39, e40, hF⟩ := zG hF
 refine zZ rfl rfl (zT en216 rfl) (F_event_reader_begins_w (some p0) (some ⟨b1, 0, none⟩) _ e40 _ _ _ (H.enter [] [9] (by decide) rfl)) ?_
 rintro _ w41 ⟨rfl, G42⟩
 have H := H37.step (G42.only : Only [] _ _)
 refine ⟨_, rfl, ?_⟩
 obtain ⟨x43, e44, hF⟩ := zF hF
 refine zH (zM (wJ (p := x39) rfl) e44) ?_
 refine (zD (zA (hK36 _ _ ?_)))
 obtain ⟨c45, hF⟩ := xZ hF
 refine WP_ifF c45 ?_
 refine (zX (zA (hK35 _ _ ?_)))
 refine zC fun K50 hK50 => ?_
 refine zC fun K51 hK51 => ?_
 refine zB ?_
 refine zH (zO one3 rfl (Cells.get (Blk.cells (H.item (i := 7) rfl)) (i := 0) rfl)) ?_
 obtain ⟨x52, e53, hF⟩ := zF hF
 refine zH (zM (Do_geq (a := p1) (b := 60) rfl rfl) e53) ?_
 refine (zD (zA (hK51 _ _ ?_)))
 obtain ⟨c54, hF⟩ := xZ hF
 refine WP_ifF c54 ?_
 refine (zX (zA (hK50 _ _ ?_)))
 refine zC fun K74 hK74 => ?_
 refine zC fun K75 hK75 => ?_
 refine zB ?_
 refine zH (zO one105 rfl (Cells.get (Blk.cells (H.item (i := 6) rfl)) (i := 0) rfl)) ?_
 refine zH (yM rfl) ?_
 refine zH (fa109_2 rfl) ?_
 refine zH (fa107_0 rfl) ?_
 refine zH (zO one3 rfl (Cells.get (Blk.cells (H.item (i := 3) rfl)) (i := 2) rfl)) ?_
 obtain ⟨x76, e77, hF⟩ := zF hF
 refine zH (zM (yR (a := p0.now.kind) (b := 2) rfl rfl) e77) ?_
 refine (zD (zA (hK75 _ _ ?_)))
 refine yA (b := x76) rfl (fun c78 => ?_) (fun c78 => ?_)
 ·have hF := zQ c78 hF
  refine zC fun K79 hK79 => ?_
  refine zB ?_
  refine zH (zO one105 rfl (Cells.get (Blk.cells (H.item (i := 6) rfl)) (i := 0) rfl)) ?_
  obtain ⟨⟨x80, x81⟩, e82, hF⟩ := zG hF
  refine zZ rfl rfl (zT en217 rfl) (F_event_reader_comparison_w p0 b1 v2 v3 v4 _ e82 _ _ _ (H.enter [0, 1, 2, 3] [4, 5] (by decide) rfl)) ?_
  rintro _ w91 ⟨v83, v85, v86, v87, rfl, G92⟩
  have H : Hd O _ w91 _ [.fz (.at 0 0 ((Fl.arr 7 Fl.str).f zU)), .fz (.gi 4), .blk b16 [.pointer (some ⟨b1, 0, none⟩)] 105, .blk b19 [.int .i64 p1] 3, .blk b22 [.int .i64 0, .string (bs []), .string (bs []), .int .i64 0, .int .i64 0, .int .i64 0, .slice none 0 0] 70, .fz (.sl rCond v83 x80.Kids), .own Rp.str v85 9 x81.r.Phases, .own rMoveT v86 122 x81.r.Moves, .own rRule v87 95 x81.r.Rules, .blk b1 [.string (bs x81.text), .int .i64 x81.at_, .int .i64 x81.now.kind, .int .i64 x81.now.at_, .int .i64 x81.now.n, .string (bs x81.now.text), v85, v86, v87] 109] := H.back [0, 1, 2, 3] [4, 5] rfl G92
  refine ⟨_, rfl, ?_⟩
  refine xH rfl (xC (vs := [.int .i64 x80.Kind, .string (bs x80.Name), .string (bs x80.Other), .int .i64 x80.Op, .int .i64 x80.N, .int .i64 x80.Frames, v83]) H 4 rfl sz70 rfl rfl rfl ⟨rfl, rfl, rfl, rfl, rfl, rfl, (slf_one (H.item (i := 5) rfl)), trivial⟩ rfl) ?_
  rintro w93 H
  refine (zD (zA (hK79 _ _ ?_)))
  obtain rfl := someI hF
  refine (yB (zW (postc  rfl rfl (xA agg70 sz70 rfl (Blk.cells (H.item (i := 4) rfl))) ?_)))
  exact ⟨v83, v85, v86, v87, rfl, H.pick [5, 6, 7, 8, 9] (by decide)⟩
 have hF := zS c78 hF
 refine (zX (zA (hK74 _ _ ?_)))
 refine zC fun K94 hK94 => ?_
 refine zB ?_
 refine zH (zO one105 rfl (Cells.get (Blk.cells (H.item (i := 6) rfl)) (i := 0) rfl)) ?_
 refine zH (yM rfl) ?_
 refine zH (fa109_2 rfl) ?_
 refine zH (fa107_3 rfl) ?_
 refine zH (zO one9 rfl (Cells.get (Blk.cells (H.item (i := 3) rfl)) (i := 5) rfl)) ?_
 refine zI (.string (bs p0.now.text)) ?_
 refine (zD (zA (hK94 _ _ ?_)))
 refine zC fun K95 hK95 => ?_
 refine zB ?_
 refine zH (zO one105 rfl (Cells.get (Blk.cells (H.item (i := 6) rfl)) (i := 0) rfl)) ?_
 obtain ⟨x96, e97, hF⟩ := zG hF
 refine zZ rfl rfl (zT en120 rfl) (F_event_reader_advance_w p0 b1 v2 v3 v4 _ e97 _ _ _ (H.enter [0, 1, 2, 3] [5] (by decide) rfl)) ?_
 rintro _ w104 ⟨v98, v99, v100, rfl, G105⟩
 have H : Hd O _ w104 _ [.fz (.at 0 0 ((Fl.arr 7 Fl.str).f zU)), .fz (.gi 4), .blk b16 [.pointer (some ⟨b1, 0, none⟩)] 105, .blk b19 [.int .i64 p1] 3, .blk b22 [.int .i64 0, .string (bs []), .string (bs []), .int .i64 0, .int .i64 0, .int .i64 0, .slice none 0 0] 70, .own Rp.str v98 9 x96.r.Phases, .own rMoveT v99 122 x96.r.Moves, .own rRule v100 95 x96.r.Rules, .blk b1 [.string (bs x96.text), .int .i64 x96.at_, .int .i64 x96.now.kind, .int .i64 x96.now.at_, .int .i64 x96.now.n, .string (bs x96.now.text), v98, v99, v100] 109] := H.back [0, 1, 2, 3] [5] rfl G105
 refine ⟨_, rfl, ?_⟩
 refine (zD (zA (hK95 _ _ ?_)))
 refine zC fun K106 hK106 => ?_
 refine zB ?_
 refine zH (Do_makeFunc rfl) ?_
 refine zI (.func (.func 218) #[] #[.pointer (some ⟨b16, 0, none⟩), .pointer (some ⟨b19, 0, none⟩)]) ?_
 refine (zD (zA (hK106 _ _ ?_)))
 refine zC fun K172 hK172 => ?_
 refine zC fun K173 hK173 => ?_
 refine zB ?_
 refine zK (.string (bs p0.now.text)) ?_
 refine (zD (zA (hK173 _ _ ?_)))
 refine yG ?_
 refine zC fun K174 hK174 => ?_
 refine zB ?_
 obtain ⟨x175, e176, hF⟩ := zF hF
 refine zH (zM (xW (s1 := p0.now.text) (s2 := [116, 114, 117, 101]) rfl rfl) e176) ?_
 refine zI (.bool x175) ?_
 refine (zD (zA (hK174 _ _ ?_)))
 refine yA (b := x175) rfl (fun c177 => ?_) (fun c177 => ?_)
 ·have hF := zQ c177 hF
  refine zC fun K178 hK178 => ?_
  refine zB ?_
  refine zH (Do_build (cs := [.int .i64 1, .string (bs []), .string (bs []), .int .i64 0, .int .i64 0, .int .i64 0, .slice none 0 0]) (bt70_0 _)) ?_
  refine xH rfl (xC (vs := [.int .i64 1, .string (bs []), .string (bs []), .int .i64 0, .int .i64 0, .int .i64 0, .slice none 0 0]) H 4 rfl sz70 rfl rfl rfl ⟨rfl, rfl, rfl, rfl, rfl, rfl, rfl, trivial⟩ rfl) ?_
  rintro w179 H
  refine (zD (zA (hK178 _ _ ?_)))
  have H := H.fz (.sl rCond (.slice none 0 0) []) SlF.nil
  obtain rfl := someI hF
  refine (yB (yE (zW (postc  rfl rfl (xA agg70 sz70 rfl (Blk.cells (H.item (i := 4) rfl))) ?_))))
  exact ⟨.slice none 0 0, v98, v99, v100, rfl, H.pick [9, 5, 6, 7, 8] (by decide)⟩
 have hF := zS c177 hF
 refine zC fun K181 hK181 => ?_
 refine zB ?_
 obtain ⟨x182, e183, hF⟩ := zF hF
 refine zH (zM (xW (s1 := p0.now.text) (s2 := [102, 97, 108, 115, 101]) rfl rfl) e183) ?_
 refine zI (.bool x182) ?_
 refine (zD (zA (hK181 _ _ ?_)))
 obtain ⟨c184, hF⟩ := xZ hF
 refine WP_ifF c184 ?_
 refine zC fun K185 hK185 => ?_
 refine zB ?_
 obtain ⟨x186, e187, hF⟩ := zF hF
 refine zH (zM (xW (s1 := p0.now.text) (s2 := [115, 116, 101, 97, 100, 121]) rfl rfl) e187) ?_
 refine zI (.bool x186) ?_
 refine (zD (zA (hK185 _ _ ?_)))
 obtain ⟨c188, hF⟩ := xZ hF
 refine WP_ifF c188 ?_
 refine zC fun K189 hK189 => ?_
 refine zB ?_
 obtain ⟨x190, e191, hF⟩ := zF hF
 refine zH (zM (xW (s1 := p0.now.text) (s2 := [112, 104, 97, 115, 101]) rfl rfl) e191) ?_
 refine zI (.bool x190) ?_
 refine (zD (zA (hK189 _ _ ?_)))
 obtain ⟨c192, hF⟩ := xZ hF
 refine WP_ifF c192 ?_
 refine zC fun K193 hK193 => ?_
 refine zB ?_
 obtain ⟨x194, e195, hF⟩ := zF hF
 refine zH (zM (xW (s1 := p0.now.text) (s2 := [114, 117, 108, 101]) rfl rfl) e195) ?_
 refine zI (.bool x194) ?_
 refine (zD (zA (hK193 _ _ ?_)))
 obtain ⟨c196, hF⟩ := xZ hF
 refine WP_ifF c196 ?_
 refine zC fun K197 hK197 => ?_
 refine zB ?_
 obtain ⟨x198, e199, hF⟩ := zF hF
 refine zH (zM (xW (s1 := p0.now.text) (s2 := [110, 111, 116]) rfl rfl) e199) ?_
 refine zI (.bool x198) ?_
 refine (zD (zA (hK197 _ _ ?_)))
 refine yA (b := x198) rfl (fun c200 => ?_) (fun c200 => ?_)
 ·have hF := zQ c200 hF
  refine zC fun K201 hK201 => ?_
  refine zB ?_
  refine zK (.func (.func 218) #[] #[.pointer (some ⟨b16, 0, none⟩), .pointer (some ⟨b19, 0, none⟩)]) ?_
  obtain ⟨⟨x202, x203⟩, e204, hF⟩ := zG hF
  refine zZ rfl rfl (DoC_clo en218 rfl rfl) (F_event_reader_part_1_pdd_w rfA rhA 1 x96 p1 b16 b1 v98 v99 v100 b19 _ e204 _ _ _ (H.enter [5, 6, 7, 8, 2, 3] [0, 1] (by decide) rfl)) ?_
  rintro _ w213 ⟨v205, v207, v208, v209, rfl, G214⟩
  have H : Hd O _ w213 _ [.fz (.at 0 0 ((Fl.arr 7 Fl.str).f zU)), .fz (.gi 4), .blk b22 [.int .i64 0, .string (bs []), .string (bs []), .int .i64 0, .int .i64 0, .int .i64 0, .slice none 0 0] 70, .own rCond v205 70 x202, .own Rp.str v207 9 x203.r.Phases, .own rMoveT v208 122 x203.r.Moves, .own rRule v209 95 x203.r.Rules, .blk b1 [.string (bs x203.text), .int .i64 x203.at_, .int .i64 x203.now.kind, .int .i64 x203.now.at_, .int .i64 x203.now.n, .string (bs x203.now.text), v207, v208, v209] 109, .blk b16 [.pointer (some ⟨b1, 0, none⟩)] 105, .blk b19 [.int .i64 p1] 3] := H.back [5, 6, 7, 8, 2, 3] [0, 1] rfl G214
  refine ⟨_, rfl, ?_⟩
  obtain ⟨a215, c216, q217⟩ : ∃ a c, v205 = .slice a _ c := Sr.len (Sr.of_own (H.item (i := 3) rfl))
  refine zH (Do_build (cs := [.int .i64 8, .string (bs []), .string (bs []), .int .i64 0, .int .i64 0, .int .i64 0, v205]) (by rw [q217]; exact bt70_0_6 _ a215 _ c216)) ?_
  refine xH rfl (xC (vs := [.int .i64 8, .string (bs []), .string (bs []), .int .i64 0, .int .i64 0, .int .i64 0, v205]) H 2 rfl sz70 rfl rfl rfl ⟨rfl, rfl, rfl, rfl, rfl, rfl, (own_one (H.item (i := 3) rfl)), trivial⟩ rfl) ?_
  rintro w218 H
  refine (zD (zA (hK201 _ _ ?_)))
  have H := H.freeze (i := 3) rfl
  obtain rfl := someI hF
  refine (yB (yE (zW (postc  rfl rfl (xA agg70 sz70 rfl (Blk.cells (H.item (i := 2) rfl))) ?_))))
  exact ⟨v205, v207, v208, v209, rfl, H.pick [3, 4, 5, 6, 7] (by decide)⟩
 have hF := zS c200 hF
 refine zC fun K219 hK219 => ?_
 refine zB ?_
 obtain ⟨x220, e221, hF⟩ := zF hF
 refine zH (zM (xW (s1 := p0.now.text) (s2 := [102, 111, 114]) rfl rfl) e221) ?_
 refine zI (.bool x220) ?_
 refine (zD (zA (hK219 _ _ ?_)))
 obtain ⟨c222, hF⟩ := xZ hF
 refine WP_ifF c222 ?_
 refine zC fun K223 hK223 => ?_
 refine zB ?_
 obtain ⟨x224, e225, hF⟩ := zF hF
 refine zH (zM (xW (s1 := p0.now.text) (s2 := [119, 105, 116, 104, 105, 110]) rfl rfl) e225) ?_
 refine zI (.bool x224) ?_
 refine (zD (zA (hK223 _ _ ?_)))
 obtain ⟨c226, hF⟩ := xZ hF
 refine WP_ifF c226 ?_
 refine zC fun K227 hK227 => ?_
 refine zB ?_
 obtain ⟨x228, e229, hF⟩ := zF hF
 refine zH (zM (xW (s1 := p0.now.text) (s2 := [99, 111, 117, 110, 116]) rfl rfl) e229) ?_
 refine zI (.bool x228) ?_
 refine (zD (zA (hK227 _ _ ?_)))
 obtain ⟨c230, hF⟩ := xZ hF
 refine WP_ifF c230 ?_
 refine zC fun K231 hK231 => ?_
 refine zB ?_
 obtain ⟨x232, e233, hF⟩ := zF hF
 refine zH (zM (xW (s1 := p0.now.text) (s2 := [114, 105, 115, 101, 115]) rfl rfl) e233) ?_
 refine zI (.bool x232) ?_
 refine (zD (zA (hK231 _ _ ?_)))
 obtain ⟨c234, hF⟩ := xZ hF
 refine WP_ifF c234 ?_
 refine zC fun K235 hK235 => ?_
 refine zB ?_
 obtain ⟨x236, e237, hF⟩ := zF hF
 refine zH (zM (xW (s1 := p0.now.text) (s2 := [115, 105, 110, 99, 101]) rfl rfl) e237) ?_
 refine zI (.bool x236) ?_
 refine (zD (zA (hK235 _ _ ?_)))
 obtain ⟨c238, hF⟩ := xZ hF
 refine WP_ifF c238 ?_
 refine (zX (yT (zA (hK172 _ _ ?_))))
 refine zC fun K239 hK239 => ?_
 refine zB ?_
 refine zH (zO one105 rfl (Cells.get (Blk.cells (H.item (i := 2) rfl)) (i := 0) rfl)) ?_
 refine zH (zO one3 rfl (Cells.get (Blk.cells (H.item (i := 3) rfl)) (i := 0) rfl)) ?_
 obtain ⟨x240, e241, hF⟩ := zF hF
 refine zH (xP (a := p1) (b := 1) rfl rfl e241) ?_
 obtain ⟨⟨x242, x243⟩, e244, hF⟩ := zG hF
 refine zZ rfl rfl (zT en124 rfl) (rhB x96 x240 b1 v98 v99 v100 _ e244 _ _ _ (H.enter [5, 6, 7, 8] [0, 1] (by decide) rfl)) ?_
 rintro _ w253 ⟨v245, v247, v248, v249, rfl, G254⟩
 have H : Hd O _ w253 _ [.fz (.at 0 0 ((Fl.arr 7 Fl.str).f zU)), .fz (.gi 4), .blk b16 [.pointer (some ⟨b1, 0, none⟩)] 105, .blk b19 [.int .i64 p1] 3, .blk b22 [.int .i64 0, .string (bs []), .string (bs []), .int .i64 0, .int .i64 0, .int .i64 0, .slice none 0 0] 70, .fz (.sl rCond v245 x242.Kids), .own Rp.str v247 9 x243.r.Phases, .own rMoveT v248 122 x243.r.Moves, .own rRule v249 95 x243.r.Rules, .blk b1 [.string (bs x243.text), .int .i64 x243.at_, .int .i64 x243.now.kind, .int .i64 x243.now.at_, .int .i64 x243.now.n, .string (bs x243.now.text), v247, v248, v249] 109] := H.back [5, 6, 7, 8] [0, 1] rfl G254
 refine ⟨_, rfl, ?_⟩
 refine yZ rfl rfl (xN zero70 H) ?_
 rintro _ w257 ⟨b255, rfl, H⟩
 refine xH rfl (xC (vs := [.int .i64 x242.Kind, .string (bs x242.Name), .string (bs x242.Other), .int .i64 x242.Op, .int .i64 x242.N, .int .i64 x242.Frames, v245]) H 10 rfl sz70 rfl rfl rfl ⟨rfl, rfl, rfl, rfl, rfl, rfl, (slf_one (H.item (i := 5) rfl)), trivial⟩ rfl) ?_
 rintro w258 H
 refine (zD (zA (hK239 _ _ ?_)))
 refine zC fun K259 hK259 => ?_
 refine zB ?_
 refine zH (zO one105 rfl (Cells.get (Blk.cells (H.item (i := 2) rfl)) (i := 0) rfl)) ?_
 obtain ⟨x260, e261, hF⟩ := zG hF
 refine zZ rfl rfl (zT en123 rfl) (F_event_reader_must_w x243 [41] b1 v247 v248 v249 _ e261 _ _ _ (H.enter [6, 7, 8, 9] [1] (by decide) rfl)) ?_
 rintro _ w268 ⟨v262, v263, v264, rfl, G269⟩
 have H : Hd O _ w268 _ [.fz (.at 0 0 ((Fl.arr 7 Fl.str).f zU)), .fz (.gi 4), .blk b16 [.pointer (some ⟨b1, 0, none⟩)] 105, .blk b19 [.int .i64 p1] 3, .blk b22 [.int .i64 0, .string (bs []), .string (bs []), .int .i64 0, .int .i64 0, .int .i64 0, .slice none 0 0] 70, .fz (.sl rCond v245 x242.Kids), .blk b255 [.int .i64 x242.Kind, .string (bs x242.Name), .string (bs x242.Other), .int .i64 x242.Op, .int .i64 x242.N, .int .i64 x242.Frames, v245] 70, .own Rp.str v262 9 x260.r.Phases, .own rMoveT v263 122 x260.r.Moves, .own rRule v264 95 x260.r.Rules, .blk b1 [.string (bs x260.text), .int .i64 x260.at_, .int .i64 x260.now.kind, .int .i64 x260.now.at_, .int .i64 x260.now.n, .string (bs x260.now.text), v262, v263, v264] 109] := H.back [6, 7, 8, 9] [1] rfl G269
 refine ⟨_, rfl, ?_⟩
 refine (zD (zA (hK259 _ _ ?_)))
 refine zC fun K270 hK270 => ?_
 refine zB ?_
 refine zH (yN (yJ (cs := [.int .i64 x242.Kind, .string (bs x242.Name), .string (bs x242.Other), .int .i64 x242.Op, .int .i64 x242.N, .int .i64 x242.Frames, v245]) agg70 rfl sz70 rfl (Blk.cells (H.item (i := 6) rfl))) rfl) ?_
 refine xH rfl (xC (vs := [.int .i64 x242.Kind, .string (bs x242.Name), .string (bs x242.Other), .int .i64 x242.Op, .int .i64 x242.N, .int .i64 x242.Frames, v245]) H 4 rfl sz70 rfl rfl rfl ⟨rfl, rfl, rfl, rfl, rfl, rfl, (slf_one (H.item (i := 5) rfl)), trivial⟩ rfl) ?_
 rintro w271 H
 refine (zD (zA (hK270 _ _ ?_)))
 obtain rfl := someI hF
 refine (yB (postc  rfl rfl (xA agg70 sz70 rfl (Blk.cells (H.item (i := 4) rfl))) ?_))
 exact ⟨v245, v262, v263, v264, rfl, H.pick [5, 7, 8, 9, 10] (by decide)⟩
theorem F_event_reader_part_s (rfB : EventReader → Int → Option (Cond × EventReader)) (rhB : S_event_reader_cond rfB) : S_event_reader_part (F_event_reader_part rfB) := by
 have h : ∀ n, S_event_reader_part (F_event_reader_part_R rfB n) := by
  intro n
  induction n with
  | zero => intro p0 p1 b1 v2 v3 v4 r hF; cases hF
  | succ n ih => intro p0 p1 b1 v2 v3 v4 r hF; exact F_event_reader_part_B_w rfB rhB (F_event_reader_part_R rfB n) ih p0 p1 b1 v2 v3 v4 r hF
 exact h FU
set_option maxHeartbeats 4000000 in
theorem F_event_reader_cond_1_1_pdd_w (rfB : EventReader → Int → Option (Cond × EventReader)) (rhB : S_event_reader_cond rfB) (c0p : EventReader) (c1 : Int) (b1 : Nat) (b3 : Nat) (v4 : Value) (v5 : Value) (v6 : Value) (b11 : Nat) (r : Cond × EventReader) (hF : F_event_reader_cond_1_1_pdd rfB c0p c1 = some r) (O S : List Nat) (w : World) (H : Hd O w w S [.own Rp.str v4 9 c0p.r.Phases, .own rMoveT v5 122 c0p.r.Moves, .own rRule v6 95 c0p.r.Rules, .blk b3 [.string (bs c0p.text), .int .i64 c0p.at_, .int .i64 c0p.now.kind, .int .i64 c0p.now.at_, .int .i64 c0p.now.n, .string (bs c0p.now.text), v4, v5, v6] 109, .blk b1 [.pointer (some ⟨b3, 0, none⟩)] 105, .blk b11 [.int .i64 c1] 3, .fz (.at 0 0 ((Fl.arr 7 Fl.str).f zU)), .fz (.gi 4)]) :
  Calls Tryz.prog 180 ([.pointer (some ⟨b1, 0, none⟩), .pointer (some ⟨b11, 0, none⟩)] : List Value).toArray w fun e w' => ∃ u15 u16 u17 u18, e = .returned (.agg [.int .i64 r.1.Kind, .string (bs r.1.Name), .string (bs r.1.Other), .int .i64 r.1.Op, .int .i64 r.1.N, .int .i64 r.1.Frames, u15].toArray) ∧ Hd O w w' S [.fz (.sl rCond u15 r.1.Kids), .own Rp.str u16 9 r.2.r.Phases, .own rMoveT u17 122 r.2.r.Moves, .own rRule u18 95 r.2.r.Rules, .blk b3 [.string (bs r.2.text), .int .i64 r.2.at_, .int .i64 r.2.now.kind, .int .i64 r.2.now.at_, .int .i64 r.2.now.n, .string (bs r.2.now.text), u16, u17, u18] 109, .blk b1 [.pointer (some ⟨b3, 0, none⟩)] 105, .blk b11 [.int .i64 c1] 3] := by
 unfold F_event_reader_cond_1_1_pdd at hF
 refine zY 6 Tryz.func180 rfl rfl rfl ?_
 refine zC fun K19 hK19 => ?_
 refine zB ?_
 refine yZ rfl rfl (xN zero70 H) ?_
 rintro _ w22 ⟨b20, rfl, H⟩
 refine (zD (zA (hK19 _ _ ?_)))
 refine zC fun K23 hK23 => ?_
 refine zB ?_
 refine zH (zO one105 rfl (Cells.get (Blk.cells (H.item (i := 4) rfl)) (i := 0) rfl)) ?_
 refine zH (zO one3 rfl (Cells.get (Blk.cells (H.item (i := 5) rfl)) (i := 0) rfl)) ?_
 obtain ⟨⟨x24, x25⟩, e26, hF⟩ := zG hF
 refine zZ rfl rfl (zT en181 rfl) (F_event_reader_part_s rfB rhB c0p c1 b3 v4 v5 v6 _ e26 _ _ _ (H.enter [0, 1, 2, 3] [6, 7] (by decide) rfl)) ?_
 rintro _ w35 ⟨v27, v29, v30, v31, rfl, G36⟩
 have H : Hd O _ w35 _ [.blk b1 [.pointer (some ⟨b3, 0, none⟩)] 105, .blk b11 [.int .i64 c1] 3, .fz (.at 0 0 ((Fl.arr 7 Fl.str).f zU)), .fz (.gi 4), .blk b20 [.int .i64 0, .string (bs []), .string (bs []), .int .i64 0, .int .i64 0, .int .i64 0, .slice none 0 0] 70, .fz (.sl rCond v27 x24.Kids), .own Rp.str v29 9 x25.r.Phases, .own rMoveT v30 122 x25.r.Moves, .own rRule v31 95 x25.r.Rules, .blk b3 [.string (bs x25.text), .int .i64 x25.at_, .int .i64 x25.now.kind, .int .i64 x25.now.at_, .int .i64 x25.now.n, .string (bs x25.now.text), v29, v30, v31] 109] := H.back [0, 1, 2, 3] [6, 7] rfl G36
 refine ⟨_, rfl, ?_⟩
 refine xH rfl (xC (vs := [.int .i64 x24.Kind, .string (bs x24.Name), .string (bs x24.Other), .int .i64 x24.Op, .int .i64 x24.N, .int .i64 x24.Frames, v27]) H 4 rfl sz70 rfl rfl rfl ⟨rfl, rfl, rfl, rfl, rfl, rfl, (slf_one (H.item (i := 5) rfl)), trivial⟩ rfl) ?_
 rintro w37 H
 refine (zD (zA (hK23 _ _ ?_)))
 obtain rfl := someI hF
 refine (yB (postc  rfl rfl (xA agg70 sz70 rfl (Blk.cells (H.item (i := 4) rfl))) ?_))
 exact ⟨v27, v29, v30, v31, rfl, H.pick [5, 6, 7, 8, 9, 0, 1] (by decide)⟩
set_option maxHeartbeats 4000000 in
theorem F_event_reader_list_event_reader_cond_1_1_pa0d_w (rfB : EventReader → Int → Option (Cond × EventReader)) (rhB : S_event_reader_cond rfB) (p0 : EventReader) (p1 : Str) (p2 : Int) (p3c1 : Int) (b1 : Nat) (v2 : Value) (v3 : Value) (v4 : Value) (b9 : Nat) (b11 : Nat) (r : Cond × EventReader) (hF : F_event_reader_list_event_reader_cond_1_1_pa0d rfB p0 p1 p2 p3c1 = some r) (O S : List Nat) (w : World) (H : Hd O w w S [.own Rp.str v2 9 p0.r.Phases, .own rMoveT v3 122 p0.r.Moves, .own rRule v4 95 p0.r.Rules, .blk b1 [.string (bs p0.text), .int .i64 p0.at_, .int .i64 p0.now.kind, .int .i64 p0.now.at_, .int .i64 p0.now.n, .string (bs p0.now.text), v2, v3, v4] 109, .blk b9 [.pointer (some ⟨b1, 0, none⟩)] 105, .blk b11 [.int .i64 p3c1] 3, .fz (.at 0 0 ((Fl.arr 7 Fl.str).f zU)), .fz (.gi 4)]) :
  Calls Tryz.prog 178 ([.pointer (some ⟨b1, 0, none⟩), .string (bs p1), .int .i64 p2, .func (.func 180) #[] #[.pointer (some ⟨b9, 0, none⟩), .pointer (some ⟨b11, 0, none⟩)]] : List Value).toArray w fun e w' => ∃ u15 u16 u17 u18, e = .returned (.agg [.int .i64 r.1.Kind, .string (bs r.1.Name), .string (bs r.1.Other), .int .i64 r.1.Op, .int .i64 r.1.N, .int .i64 r.1.Frames, u15].toArray) ∧ Hd O w w' S [.fz (.sl rCond u15 r.1.Kids), .own Rp.str u16 9 r.2.r.Phases, .own rMoveT u17 122 r.2.r.Moves, .own rRule u18 95 r.2.r.Rules, .blk b1 [.string (bs r.2.text), .int .i64 r.2.at_, .int .i64 r.2.now.kind, .int .i64 r.2.now.at_, .int .i64 r.2.now.n, .string (bs r.2.now.text), u16, u17, u18] 109, .blk b9 [.pointer (some ⟨b1, 0, none⟩)] 105, .blk b11 [.int .i64 p3c1] 3] := by
 unfold F_event_reader_list_event_reader_cond_1_1_pa0d at hF
 refine zY 32 Tryz.func178 rfl rfl rfl ?_
 refine zC fun K19 hK19 => ?_
 refine zB ?_
 refine yZ rfl rfl (xN zero70 H) ?_
 rintro _ w22 ⟨b20, rfl, H⟩
 refine (zD (zA (hK19 _ _ ?_)))
 refine zC fun K23 hK23 => ?_
 refine zB ?_
 refine zK (.func (.func 180) #[] #[.pointer (some ⟨b9, 0, none⟩), .pointer (some ⟨b11, 0, none⟩)]) ?_
 obtain ⟨⟨x24, x25⟩, e26, hF⟩ := zG hF
 refine zZ rfl rfl (DoC_clo en180 rfl rfl) (F_event_reader_cond_1_1_pdd_w rfB rhB p0 p3c1 b9 b1 v2 v3 v4 b11 _ e26 _ _ _ (H.enter [0, 1, 2, 3, 4, 5] [6, 7] (by decide) rfl)) ?_
 rintro _ w35 ⟨v27, v29, v30, v31, rfl, G36⟩
 have H : Hd O _ w35 _ [.fz (.at 0 0 ((Fl.arr 7 Fl.str).f zU)), .fz (.gi 4), .blk b20 [.int .i64 0, .string (bs []), .string (bs []), .int .i64 0, .int .i64 0, .int .i64 0, .slice none 0 0] 70, .fz (.sl rCond v27 x24.Kids), .own Rp.str v29 9 x25.r.Phases, .own rMoveT v30 122 x25.r.Moves, .own rRule v31 95 x25.r.Rules, .blk b1 [.string (bs x25.text), .int .i64 x25.at_, .int .i64 x25.now.kind, .int .i64 x25.now.at_, .int .i64 x25.now.n, .string (bs x25.now.text), v29, v30, v31] 109, .blk b9 [.pointer (some ⟨b1, 0, none⟩)] 105, .blk b11 [.int .i64 p3c1] 3] := H.back [0, 1, 2, 3, 4, 5] [6, 7] rfl G36
 refine ⟨_, rfl, ?_⟩
 obtain ⟨x37, e38, hF⟩ := zF hF
 subst e38
 refine yZ rfl rfl (Lx_bs (r := rCond) (xl := [x24]) (cs := [.int .i64 x24.Kind, .string (bs x24.Name), .string (bs x24.Other), .int .i64 x24.Op, .int .i64 x24.N, .int .i64 x24.Frames, v27]) u68 el70 (by decide) (by decide) rfl (xU (vs := [.agg [.int .i64 x24.Kind, .string (bs x24.Name), .string (bs x24.Other), .int .i64 x24.Op, .int .i64 x24.N, .int .i64 x24.Frames, v27].toArray]) (by decide) rfl rfl ⟨rfl, trivial⟩ rfl) H ⟨[.int .i64 x24.Kind, .string (bs x24.Name), .string (bs x24.Other), .int .i64 x24.Op, .int .i64 x24.N, .int .i64 x24.Frames, v27], [], rfl, (rCond_mk (x := x24) (H.item (i := 3) rfl)), rfl⟩) ?_
 rintro v40 w41 H
 refine zI v40 ?_
 refine (zD (zA (hK23 _ _ ?_)))
 obtain ⟨j84, hF, hK83⟩ := zG hF
 refine yL [9, 13, 14, 15, 16, 17, 18, 19, 20, 21, 22] (fun (g : Unit) => [(9, v40)]) (fun g wl => Hd O w wl S [.own rCond v40 70 ([x24] : List Cond), .fz (.at 0 0 ((Fl.arr 7 Fl.str).f zU)), .fz (.gi 4), .blk b20 [.int .i64 0, .string (bs []), .string (bs []), .int .i64 0, .int .i64 0, .int .i64 0, .slice none 0 0] 70, .own Rp.str v29 9 x25.r.Phases, .own rMoveT v30 122 x25.r.Moves, .own rRule v31 95 x25.r.Rules, .blk b1 [.string (bs x25.text), .int .i64 x25.at_, .int .i64 x25.now.kind, .int .i64 x25.now.at_, .int .i64 x25.now.n, .string (bs x25.now.text), v29, v30, v31] 109, .blk b9 [.pointer (some ⟨b1, 0, none⟩)] 105, .blk b11 [.int .i64 p3c1] 3]) ?_ ?_
 ·skip
  refine yG ?_
  unfold F_event_reader_list_event_reader_cond_1_1_pa0d_L1 at hF
  obtain ⟨B119, n120, eB121, hF⟩ := yS hF
  refine xE [9, 13, 14, 15, 16, 17, 18, 19, 20, 21, 22] (fun (g : Nat) => [(9, v40)]) (fun g wl => Hd O w wl S [.own rCond v40 70 ([x24] : List Cond), .fz (.at 0 0 ((Fl.arr 7 Fl.str).f zU)), .fz (.gi 4), .blk b20 [.int .i64 0, .string (bs []), .string (bs []), .int .i64 0, .int .i64 0, .int .i64 0, .slice none 0 0] 70, .own Rp.str v29 9 x25.r.Phases, .own rMoveT v30 122 x25.r.Moves, .own rRule v31 95 x25.r.Rules, .blk b1 [.string (bs x25.text), .int .i64 x25.at_, .int .i64 x25.now.kind, .int .i64 x25.now.at_, .int .i64 x25.now.n, .string (bs x25.now.text), v29, v30, v31] 109, .blk b9 [.pointer (some ⟨b1, 0, none⟩)] 105, .blk b11 [.int .i64 p3c1] 3] ∧ loopN B119 g () = some j84) (fun g => g) n120 (zJ rfl zL) ⟨H.pick [10, 0, 1, 2, 4, 5, 6, 7, 8, 9] (by decide), hF⟩ ?_
  clear H hF
  rintro n120 ρ w123 ⟨H, hF⟩
  obtain ⟨n124, rfl, hF⟩ := yX hF
  have hF := yY eB121 hF
  refine zC fun K133 hK133 => ?_
  refine zC fun K134 hK134 => ?_
  refine zB ?_
  refine zK (.pointer (some ⟨b1, 0, none⟩)) ?_
  refine zK (.string (bs p1)) ?_
  have H135 := H
  have H := H.freezeB (i := 7) rfl
  have H := H.freeze (i := 4) rfl
  have H := H.freeze (i := 5) rfl
  have H := H.freeze (i := 6) rfl
  have H := H.fz (.pt rEventReader (some ⟨b1, 0, none⟩) (some x25)) ⟨_, _, _, rfl, (H.item (i := 7) rfl).1, (H.item (i := 7) rfl).2.1, (rEventReader_mk (x := x25) (H.item (i := 4) rfl) (H.item (i := 5) rfl) (H.item (i := 6) rfl)), (H.item (i := 7) rfl).2.2⟩
  obtain ⟨x137, e138, hF⟩ := zG hF
  refine zZ rfl rfl (zT en121 rfl) (F_event_reader_is_w (some x25) p1 (some ⟨b1, 0, none⟩) _ e138 _ _ _ (H.enter [] [10] (by decide) rfl)) ?_
  rintro _ w139 ⟨rfl, G140⟩
  have H := H135.step (G140.only : Only [] _ _)
  refine ⟨_, rfl, ?_⟩
  refine (zD (zA (hK134 _ _ ?_)))
  obtain ⟨c141, hF⟩ := xZ hF
  refine WP_ifF c141 ?_
  obtain rfl := someI hF
  exact (xJ (yO (yO (xB (zA (meet ⟨(), (zJ rfl zL), H.pick [0, 1, 2, 3, 4, 5, 6, 7, 8, 9] (by decide)⟩))))))
 rintro _ ρ w82 H
 have hF := hK83
 refine zC fun K167 hK167 => ?_
 refine zC fun K168 hK168 => ?_
 refine zB ?_
 refine zK v40 ?_
 obtain ⟨x169, e170, hF⟩ := zF hF
 obtain ⟨a171, c172, q173⟩ := Sr.len (Sr.of_own (H.item (i := 0) rfl))
 refine zH (yN (xM u68 q173) (congrArg (Value.int .i64) e170)) ?_
 obtain ⟨x174, e175, hF⟩ := zF hF
 refine zH (zM (yR (a := x169) (b := 1) rfl rfl) e175) ?_
 refine (zD (zA (hK168 _ _ ?_)))
 obtain ⟨c176, hF⟩ := iteB_nf hF
 refine WP_ifT c176 ?_
 refine zC fun K177 hK177 => ?_
 refine zB ?_
 refine zK v40 ?_
 obtain ⟨x178, e179, hF⟩ := zG hF
 obtain ⟨b180, c182, cs183, q184, h187, h188⟩ := own_at (H.item (i := 0) rfl) e179
 obtain ⟨v189, rfl, h190⟩ := wI h187
 have H := H.fzs [.sl rCond v189 x178.Kids] ⟨h190, trivial⟩
 refine zH (wC u68 sz70 q184 rfl (yP e179).1 (yP e179).2.1 rfl rfl) ?_
 refine zH (yN (yJ (cs := [.int .i64 x178.Kind, .string (bs x178.Name), .string (bs x178.Other), .int .i64 x178.Op, .int .i64 x178.N, .int .i64 x178.Frames, v189]) agg70 rfl sz70 rfl h188) rfl) ?_
 refine xH rfl (xC (vs := [.int .i64 x178.Kind, .string (bs x178.Name), .string (bs x178.Other), .int .i64 x178.Op, .int .i64 x178.N, .int .i64 x178.Frames, v189]) H 3 rfl sz70 rfl rfl rfl ⟨rfl, rfl, rfl, rfl, rfl, rfl, (slf_one (H.item (i := 10) rfl)), trivial⟩ rfl) ?_
 rintro w192 H
 refine (zD (zA (hK177 _ _ ?_)))
 obtain rfl := someI hF
 refine (yB (zW (postc  rfl rfl (xA agg70 sz70 rfl (Blk.cells (H.item (i := 3) rfl))) ?_)))
 exact ⟨v189, v29, v30, v31, rfl, H.pick [10, 4, 5, 6, 7, 8, 9] (by decide)⟩
set_option maxHeartbeats 4000000 in
theorem F_event_reader_cond_1_pdd_w (rfB : EventReader → Int → Option (Cond × EventReader)) (rhB : S_event_reader_cond rfB) (c0p : EventReader) (c1 : Int) (b1 : Nat) (b3 : Nat) (v4 : Value) (v5 : Value) (v6 : Value) (b11 : Nat) (r : Cond × EventReader) (hF : F_event_reader_cond_1_pdd rfB c0p c1 = some r) (O S : List Nat) (w : World) (H : Hd O w w S [.own Rp.str v4 9 c0p.r.Phases, .own rMoveT v5 122 c0p.r.Moves, .own rRule v6 95 c0p.r.Rules, .blk b3 [.string (bs c0p.text), .int .i64 c0p.at_, .int .i64 c0p.now.kind, .int .i64 c0p.now.at_, .int .i64 c0p.now.n, .string (bs c0p.now.text), v4, v5, v6] 109, .blk b1 [.pointer (some ⟨b3, 0, none⟩)] 105, .blk b11 [.int .i64 c1] 3, .fz (.at 0 0 ((Fl.arr 7 Fl.str).f zU)), .fz (.gi 4)]) :
  Calls Tryz.prog 179 ([.pointer (some ⟨b1, 0, none⟩), .pointer (some ⟨b11, 0, none⟩)] : List Value).toArray w fun e w' => ∃ u15 u16 u17 u18, e = .returned (.agg [.int .i64 r.1.Kind, .string (bs r.1.Name), .string (bs r.1.Other), .int .i64 r.1.Op, .int .i64 r.1.N, .int .i64 r.1.Frames, u15].toArray) ∧ Hd O w w' S [.fz (.sl rCond u15 r.1.Kids), .own Rp.str u16 9 r.2.r.Phases, .own rMoveT u17 122 r.2.r.Moves, .own rRule u18 95 r.2.r.Rules, .blk b3 [.string (bs r.2.text), .int .i64 r.2.at_, .int .i64 r.2.now.kind, .int .i64 r.2.now.at_, .int .i64 r.2.now.n, .string (bs r.2.now.text), u16, u17, u18] 109, .blk b1 [.pointer (some ⟨b3, 0, none⟩)] 105, .blk b11 [.int .i64 c1] 3] := by
 unfold F_event_reader_cond_1_pdd at hF
 refine zY 6 Tryz.func179 rfl rfl rfl ?_
 refine zC fun K19 hK19 => ?_
 refine zB ?_
 refine yZ rfl rfl (xN zero70 H) ?_
 rintro _ w22 ⟨b20, rfl, H⟩
 refine (zD (zA (hK19 _ _ ?_)))
 refine zC fun K23 hK23 => ?_
 refine zB ?_
 refine zH (zO one105 rfl (Cells.get (Blk.cells (H.item (i := 4) rfl)) (i := 0) rfl)) ?_
 refine zH (Do_makeFunc rfl) ?_
 obtain ⟨⟨x24, x25⟩, e26, hF⟩ := zG hF
 refine zZ rfl rfl (zT en178 rfl) (F_event_reader_list_event_reader_cond_1_1_pa0d_w rfB rhB c0p [97, 110, 100] 9 c1 b3 v4 v5 v6 b1 b11 _ e26 _ _ _ (H.enter [0, 1, 2, 3, 4, 5] [6, 7] (by decide) rfl)) ?_
 rintro _ w35 ⟨v27, v29, v30, v31, rfl, G36⟩
 have H : Hd O _ w35 _ [.fz (.at 0 0 ((Fl.arr 7 Fl.str).f zU)), .fz (.gi 4), .blk b20 [.int .i64 0, .string (bs []), .string (bs []), .int .i64 0, .int .i64 0, .int .i64 0, .slice none 0 0] 70, .fz (.sl rCond v27 x24.Kids), .own Rp.str v29 9 x25.r.Phases, .own rMoveT v30 122 x25.r.Moves, .own rRule v31 95 x25.r.Rules, .blk b3 [.string (bs x25.text), .int .i64 x25.at_, .int .i64 x25.now.kind, .int .i64 x25.now.at_, .int .i64 x25.now.n, .string (bs x25.now.text), v29, v30, v31] 109, .blk b1 [.pointer (some ⟨b3, 0, none⟩)] 105, .blk b11 [.int .i64 c1] 3] := H.back [0, 1, 2, 3, 4, 5] [6, 7] rfl G36
 refine ⟨_, rfl, ?_⟩
 refine xH rfl (xC (vs := [.int .i64 x24.Kind, .string (bs x24.Name), .string (bs x24.Other), .int .i64 x24.Op, .int .i64 x24.N, .int .i64 x24.Frames, v27]) H 2 rfl sz70 rfl rfl rfl ⟨rfl, rfl, rfl, rfl, rfl, rfl, (slf_one (H.item (i := 3) rfl)), trivial⟩ rfl) ?_
 rintro w37 H
 refine (zD (zA (hK23 _ _ ?_)))
 obtain rfl := someI hF
 refine (yB (postc  rfl rfl (xA agg70 sz70 rfl (Blk.cells (H.item (i := 2) rfl))) ?_))
 exact ⟨v27, v29, v30, v31, rfl, H.pick [3, 4, 5, 6, 7, 8, 9] (by decide)⟩
set_option maxHeartbeats 4000000 in
theorem F_event_reader_list_event_reader_cond_1_pa0d_w (rfB : EventReader → Int → Option (Cond × EventReader)) (rhB : S_event_reader_cond rfB) (p0 : EventReader) (p1 : Str) (p2 : Int) (p3c1 : Int) (b1 : Nat) (v2 : Value) (v3 : Value) (v4 : Value) (b9 : Nat) (b11 : Nat) (r : Cond × EventReader) (hF : F_event_reader_list_event_reader_cond_1_pa0d rfB p0 p1 p2 p3c1 = some r) (O S : List Nat) (w : World) (H : Hd O w w S [.own Rp.str v2 9 p0.r.Phases, .own rMoveT v3 122 p0.r.Moves, .own rRule v4 95 p0.r.Rules, .blk b1 [.string (bs p0.text), .int .i64 p0.at_, .int .i64 p0.now.kind, .int .i64 p0.now.at_, .int .i64 p0.now.n, .string (bs p0.now.text), v2, v3, v4] 109, .blk b9 [.pointer (some ⟨b1, 0, none⟩)] 105, .blk b11 [.int .i64 p3c1] 3, .fz (.at 0 0 ((Fl.arr 7 Fl.str).f zU)), .fz (.gi 4)]) :
  Calls Tryz.prog 178 ([.pointer (some ⟨b1, 0, none⟩), .string (bs p1), .int .i64 p2, .func (.func 179) #[] #[.pointer (some ⟨b9, 0, none⟩), .pointer (some ⟨b11, 0, none⟩)]] : List Value).toArray w fun e w' => ∃ u15 u16 u17 u18, e = .returned (.agg [.int .i64 r.1.Kind, .string (bs r.1.Name), .string (bs r.1.Other), .int .i64 r.1.Op, .int .i64 r.1.N, .int .i64 r.1.Frames, u15].toArray) ∧ Hd O w w' S [.fz (.sl rCond u15 r.1.Kids), .own Rp.str u16 9 r.2.r.Phases, .own rMoveT u17 122 r.2.r.Moves, .own rRule u18 95 r.2.r.Rules, .blk b1 [.string (bs r.2.text), .int .i64 r.2.at_, .int .i64 r.2.now.kind, .int .i64 r.2.now.at_, .int .i64 r.2.now.n, .string (bs r.2.now.text), u16, u17, u18] 109, .blk b9 [.pointer (some ⟨b1, 0, none⟩)] 105, .blk b11 [.int .i64 p3c1] 3] := by
 unfold F_event_reader_list_event_reader_cond_1_pa0d at hF
 refine zY 32 Tryz.func178 rfl rfl rfl ?_
 refine zC fun K19 hK19 => ?_
 refine zB ?_
 refine yZ rfl rfl (xN zero70 H) ?_
 rintro _ w22 ⟨b20, rfl, H⟩
 refine (zD (zA (hK19 _ _ ?_)))
 refine zC fun K23 hK23 => ?_
 refine zB ?_
 refine zK (.func (.func 179) #[] #[.pointer (some ⟨b9, 0, none⟩), .pointer (some ⟨b11, 0, none⟩)]) ?_
 obtain ⟨⟨x24, x25⟩, e26, hF⟩ := zG hF
 refine zZ rfl rfl (DoC_clo en179 rfl rfl) (F_event_reader_cond_1_pdd_w rfB rhB p0 p3c1 b9 b1 v2 v3 v4 b11 _ e26 _ _ _ (H.enter [0, 1, 2, 3, 4, 5] [6, 7] (by decide) rfl)) ?_
 rintro _ w35 ⟨v27, v29, v30, v31, rfl, G36⟩
 have H : Hd O _ w35 _ [.fz (.at 0 0 ((Fl.arr 7 Fl.str).f zU)), .fz (.gi 4), .blk b20 [.int .i64 0, .string (bs []), .string (bs []), .int .i64 0, .int .i64 0, .int .i64 0, .slice none 0 0] 70, .fz (.sl rCond v27 x24.Kids), .own Rp.str v29 9 x25.r.Phases, .own rMoveT v30 122 x25.r.Moves, .own rRule v31 95 x25.r.Rules, .blk b1 [.string (bs x25.text), .int .i64 x25.at_, .int .i64 x25.now.kind, .int .i64 x25.now.at_, .int .i64 x25.now.n, .string (bs x25.now.text), v29, v30, v31] 109, .blk b9 [.pointer (some ⟨b1, 0, none⟩)] 105, .blk b11 [.int .i64 p3c1] 3] := H.back [0, 1, 2, 3, 4, 5] [6, 7] rfl G36
 refine ⟨_, rfl, ?_⟩
 obtain ⟨x37, e38, hF⟩ := zF hF
 subst e38
 refine yZ rfl rfl (Lx_bs (r := rCond) (xl := [x24]) (cs := [.int .i64 x24.Kind, .string (bs x24.Name), .string (bs x24.Other), .int .i64 x24.Op, .int .i64 x24.N, .int .i64 x24.Frames, v27]) u68 el70 (by decide) (by decide) rfl (xU (vs := [.agg [.int .i64 x24.Kind, .string (bs x24.Name), .string (bs x24.Other), .int .i64 x24.Op, .int .i64 x24.N, .int .i64 x24.Frames, v27].toArray]) (by decide) rfl rfl ⟨rfl, trivial⟩ rfl) H ⟨[.int .i64 x24.Kind, .string (bs x24.Name), .string (bs x24.Other), .int .i64 x24.Op, .int .i64 x24.N, .int .i64 x24.Frames, v27], [], rfl, (rCond_mk (x := x24) (H.item (i := 3) rfl)), rfl⟩) ?_
 rintro v40 w41 H
 refine zI v40 ?_
 refine (zD (zA (hK23 _ _ ?_)))
 obtain ⟨j184, hF, hK183⟩ := zG hF
 refine yL [9, 13, 14, 15, 16, 17, 18, 19, 20, 21, 22] (fun (g : Value × Value × Value × Value) => [(9, g.1)]) (fun g wl => Hd O w wl S [.own rCond g.1 70 j184.1, .fz (.at 0 0 ((Fl.arr 7 Fl.str).f zU)), .fz (.gi 4), .blk b20 [.int .i64 0, .string (bs []), .string (bs []), .int .i64 0, .int .i64 0, .int .i64 0, .slice none 0 0] 70, .blk b1 [.string (bs j184.2.1), .int .i64 j184.2.2.1, .int .i64 j184.2.2.2.1, .int .i64 j184.2.2.2.2.1, .int .i64 j184.2.2.2.2.2.1, .string (bs j184.2.2.2.2.2.2.1), g.2.1, g.2.2.1, g.2.2.2] 109, .own Rp.str g.2.1 9 j184.2.2.2.2.2.2.2.1, .own rMoveT g.2.2.1 122 j184.2.2.2.2.2.2.2.2.1, .own rRule g.2.2.2 95 j184.2.2.2.2.2.2.2.2.2, .blk b9 [.pointer (some ⟨b1, 0, none⟩)] 105, .blk b11 [.int .i64 p3c1] 3]) ?_ ?_
 ·skip
  refine yG ?_
  unfold F_event_reader_list_event_reader_cond_1_pa0d_L1 at hF
  obtain ⟨B319, n320, eB321, hF⟩ := yS hF
  refine xE [9, 13, 14, 15, 16, 17, 18, 19, 20, 21, 22] (fun (g : Nat × (List Cond) × Str × Int × Int × Int × Int × Str × (List Str) × (List MoveT) × (List Rule) × Value × Value × Value × Value) => [(9, g.2.2.2.2.2.2.2.2.2.2.2.1)]) (fun g wl => Hd O w wl S [.own rCond g.2.2.2.2.2.2.2.2.2.2.2.1 70 g.2.1, .fz (.at 0 0 ((Fl.arr 7 Fl.str).f zU)), .fz (.gi 4), .blk b20 [.int .i64 0, .string (bs []), .string (bs []), .int .i64 0, .int .i64 0, .int .i64 0, .slice none 0 0] 70, .blk b1 [.string (bs g.2.2.1), .int .i64 g.2.2.2.1, .int .i64 g.2.2.2.2.1, .int .i64 g.2.2.2.2.2.1, .int .i64 g.2.2.2.2.2.2.1, .string (bs g.2.2.2.2.2.2.2.1), g.2.2.2.2.2.2.2.2.2.2.2.2.1, g.2.2.2.2.2.2.2.2.2.2.2.2.2.1, g.2.2.2.2.2.2.2.2.2.2.2.2.2.2] 109, .own Rp.str g.2.2.2.2.2.2.2.2.2.2.2.2.1 9 g.2.2.2.2.2.2.2.2.1, .own rMoveT g.2.2.2.2.2.2.2.2.2.2.2.2.2.1 122 g.2.2.2.2.2.2.2.2.2.1, .own rRule g.2.2.2.2.2.2.2.2.2.2.2.2.2.2 95 g.2.2.2.2.2.2.2.2.2.2.1, .blk b9 [.pointer (some ⟨b1, 0, none⟩)] 105, .blk b11 [.int .i64 p3c1] 3] ∧ loopN B319 g.1 (g.2.1, g.2.2.1, g.2.2.2.1, g.2.2.2.2.1, g.2.2.2.2.2.1, g.2.2.2.2.2.2.1, g.2.2.2.2.2.2.2.1, g.2.2.2.2.2.2.2.2.1, g.2.2.2.2.2.2.2.2.2.1, g.2.2.2.2.2.2.2.2.2.2.1) = some j184) (fun g => g.1) (n320, ([x24] : List Cond), x25.text, x25.at_, x25.now.kind, x25.now.at_, x25.now.n, x25.now.text, x25.r.Phases, x25.r.Moves, x25.r.Rules, v40, v29, v30, v31) (zJ rfl zL) ⟨H.pick [10, 0, 1, 2, 7, 4, 5, 6, 8, 9] (by decide), hF⟩ ?_
  clear H hF
  rintro ⟨n320, g302, g304, g305, g306, g307, g308, g309, g311, g314, g317, v303, v312, v315, v318⟩ ρ w323 ⟨H, hF⟩
  obtain ⟨n324, rfl, hF⟩ := yX hF
  have hF := yY eB321 hF
  refine zC fun K333 hK333 => ?_
  refine zC fun K334 hK334 => ?_
  refine zB ?_
  refine zK (.pointer (some ⟨b1, 0, none⟩)) ?_
  refine zK (.string (bs p1)) ?_
  have H335 := H
  have H := H.freezeB (i := 4) rfl
  have H := H.freeze (i := 5) rfl
  have H := H.freeze (i := 6) rfl
  have H := H.freeze (i := 7) rfl
  have H := H.fz (.pt rEventReader (some ⟨b1, 0, none⟩) (some (EventReader.mk g304 g305 (EventToken.mk g306 g307 g308 g309) (Rules.mk g311 g314 g317)))) ⟨_, _, _, rfl, (H.item (i := 4) rfl).1, (H.item (i := 4) rfl).2.1, (rEventReader_mk (x := EventReader.mk g304 g305 (EventToken.mk g306 g307 g308 g309) (Rules.mk g311 g314 g317)) (H.item (i := 5) rfl) (H.item (i := 6) rfl) (H.item (i := 7) rfl)), (H.item (i := 4) rfl).2.2⟩
  obtain ⟨x337, e338, hF⟩ := zG hF
  refine zZ rfl rfl (zT en121 rfl) (F_event_reader_is_w (some (EventReader.mk g304 g305 (EventToken.mk g306 g307 g308 g309) (Rules.mk g311 g314 g317))) p1 (some ⟨b1, 0, none⟩) _ e338 _ _ _ (H.enter [] [10] (by decide) rfl)) ?_
  rintro _ w339 ⟨rfl, G340⟩
  have H := H335.step (G340.only : Only [] _ _)
  refine ⟨_, rfl, ?_⟩
  refine (zD (zA (hK334 _ _ ?_)))
  refine yA (b := x337) rfl (fun c341 => ?_) (fun c341 => ?_)
  ·have hF := zQ c341 hF
   refine (zX (zA (hK333 _ _ ?_)))
   refine yG ?_
   refine zC fun K342 hK342 => ?_
   refine zB ?_
   refine zK (.pointer (some ⟨b1, 0, none⟩)) ?_
   obtain ⟨x343, e344, hF⟩ := zG hF
   refine zZ rfl rfl (zT en120 rfl) (F_event_reader_advance_w (EventReader.mk g304 g305 (EventToken.mk g306 g307 g308 g309) (Rules.mk g311 g314 g317)) b1 v312 v315 v318 _ e344 _ _ _ (H.enter [5, 6, 7, 4] [2] (by decide) rfl)) ?_
   rintro _ w351 ⟨v345, v346, v347, rfl, G352⟩
   have H : Hd O _ w351 _ [.own rCond v303 70 g302, .fz (.at 0 0 ((Fl.arr 7 Fl.str).f zU)), .fz (.gi 4), .blk b20 [.int .i64 0, .string (bs []), .string (bs []), .int .i64 0, .int .i64 0, .int .i64 0, .slice none 0 0] 70, .blk b9 [.pointer (some ⟨b1, 0, none⟩)] 105, .blk b11 [.int .i64 p3c1] 3, .own Rp.str v345 9 x343.r.Phases, .own rMoveT v346 122 x343.r.Moves, .own rRule v347 95 x343.r.Rules, .blk b1 [.string (bs x343.text), .int .i64 x343.at_, .int .i64 x343.now.kind, .int .i64 x343.now.at_, .int .i64 x343.now.n, .string (bs x343.now.text), v345, v346, v347] 109] := H.back [5, 6, 7, 4] [2] rfl G352
   refine ⟨_, rfl, ?_⟩
   refine (zD (zA (hK342 _ _ ?_)))
   refine zB ?_
   refine zK v303 ?_
   refine zK (.func (.func 179) #[] #[.pointer (some ⟨b9, 0, none⟩), .pointer (some ⟨b11, 0, none⟩)]) ?_
   obtain ⟨⟨x353, x354⟩, e355, hF⟩ := zG hF
   refine zZ rfl rfl (DoC_clo en179 rfl rfl) (F_event_reader_cond_1_pdd_w rfB rhB x343 p3c1 b9 b1 v345 v346 v347 b11 _ e355 _ _ _ (H.enter [6, 7, 8, 9, 4, 5] [1, 2] (by decide) rfl)) ?_
   rintro _ w364 ⟨v356, v358, v359, v360, rfl, G365⟩
   have H : Hd O _ w364 _ [.own rCond v303 70 g302, .fz (.at 0 0 ((Fl.arr 7 Fl.str).f zU)), .fz (.gi 4), .blk b20 [.int .i64 0, .string (bs []), .string (bs []), .int .i64 0, .int .i64 0, .int .i64 0, .slice none 0 0] 70, .fz (.sl rCond v356 x353.Kids), .own Rp.str v358 9 x354.r.Phases, .own rMoveT v359 122 x354.r.Moves, .own rRule v360 95 x354.r.Rules, .blk b1 [.string (bs x354.text), .int .i64 x354.at_, .int .i64 x354.now.kind, .int .i64 x354.now.at_, .int .i64 x354.now.n, .string (bs x354.now.text), v358, v359, v360] 109, .blk b9 [.pointer (some ⟨b1, 0, none⟩)] 105, .blk b11 [.int .i64 p3c1] 3] := H.back [6, 7, 8, 9, 4, 5] [1, 2] rfl G365
   refine ⟨_, rfl, ?_⟩
   obtain ⟨x366, e367, hF⟩ := zF hF
   subst e367
   refine yZ rfl rfl (Lx_bs (r := rCond) (xl := [x353]) (cs := [.int .i64 x353.Kind, .string (bs x353.Name), .string (bs x353.Other), .int .i64 x353.Op, .int .i64 x353.N, .int .i64 x353.Frames, v356]) u68 el70 (by decide) (by decide) rfl (xU (vs := [.agg [.int .i64 x353.Kind, .string (bs x353.Name), .string (bs x353.Other), .int .i64 x353.Op, .int .i64 x353.N, .int .i64 x353.Frames, v356].toArray]) (by decide) rfl rfl ⟨rfl, trivial⟩ rfl) H ⟨[.int .i64 x353.Kind, .string (bs x353.Name), .string (bs x353.Other), .int .i64 x353.Op, .int .i64 x353.N, .int .i64 x353.Frames, v356], [], rfl, (rCond_mk (x := x353) (H.item (i := 4) rfl)), rfl⟩) ?_
   rintro v369 w370 H
   obtain ⟨x371, e372, hF⟩ := zG hF
   refine yZ rfl rfl (Lx_app H (i := 0) rfl u68 el70 rfl rfl (Sr.of_own (H.item (i := 11) rfl)) e372) ?_
   rintro v373 w374 H
   refine zI v373 ?_
   exact (zD (yT (zA (meet ⟨(n324, x371, x354.text, x354.at_, x354.now.kind, x354.now.at_, x354.now.n, x354.now.text, x354.r.Phases, x354.r.Moves, x354.r.Rules, v373, v358, v359, v360), (zJ rfl zL), ⟨H.pick [0, 1, 2, 3, 8, 5, 6, 7, 9, 10] (by decide), hF⟩, Nat.lt_succ_self _⟩))))
  have hF := zS c341 hF
  obtain rfl := someI hF
  exact (xJ (yO (yO (xB (zA (meet ⟨(v303, v312, v315, v318), (zJ rfl zL), H.pick [0, 1, 2, 3, 4, 5, 6, 7, 8, 9] (by decide)⟩))))))
 rintro ⟨v166, v175, v178, v181⟩ ρ w182 H
 have hF := hK183
 obtain ⟨g165, g167, g168, g169, g170, g171, g172, g174, g177, g180⟩ := j184
 refine zC fun K400 hK400 => ?_
 refine zC fun K401 hK401 => ?_
 refine zB ?_
 refine zK v166 ?_
 obtain ⟨x402, e403, hF⟩ := zF hF
 obtain ⟨a404, c405, q406⟩ := Sr.len (Sr.of_own (H.item (i := 0) rfl))
 refine zH (yN (xM u68 q406) (congrArg (Value.int .i64) e403)) ?_
 obtain ⟨x407, e408, hF⟩ := zF hF
 refine zH (zM (yR (a := x402) (b := 1) rfl rfl) e408) ?_
 refine (zD (zA (hK401 _ _ ?_)))
 refine yA (b := x407) rfl (fun c409 => ?_) (fun c409 => ?_)
 ·have hF := zQ c409 hF
  refine zC fun K410 hK410 => ?_
  refine zB ?_
  refine zK v166 ?_
  obtain ⟨x411, e412, hF⟩ := zG hF
  obtain ⟨b413, c415, cs416, q417, h420, h421⟩ := own_at (H.item (i := 0) rfl) e412
  obtain ⟨v422, rfl, h423⟩ := wI h420
  have H := H.fzs [.sl rCond v422 x411.Kids] ⟨h423, trivial⟩
  refine zH (wC u68 sz70 q417 rfl (yP e412).1 (yP e412).2.1 rfl rfl) ?_
  refine zH (yN (yJ (cs := [.int .i64 x411.Kind, .string (bs x411.Name), .string (bs x411.Other), .int .i64 x411.Op, .int .i64 x411.N, .int .i64 x411.Frames, v422]) agg70 rfl sz70 rfl h421) rfl) ?_
  refine xH rfl (xC (vs := [.int .i64 x411.Kind, .string (bs x411.Name), .string (bs x411.Other), .int .i64 x411.Op, .int .i64 x411.N, .int .i64 x411.Frames, v422]) H 3 rfl sz70 rfl rfl rfl ⟨rfl, rfl, rfl, rfl, rfl, rfl, (slf_one (H.item (i := 10) rfl)), trivial⟩ rfl) ?_
  rintro w425 H
  refine (zD (zA (hK410 _ _ ?_)))
  obtain rfl := someI hF
  refine (yB (zW (postc  rfl rfl (xA agg70 sz70 rfl (Blk.cells (H.item (i := 3) rfl))) ?_)))
  exact ⟨v422, v175, v178, v181, rfl, H.pick [10, 5, 6, 7, 4, 8, 9] (by decide)⟩
 have hF := zS c409 hF
 refine (zX (zA (hK400 _ _ ?_)))
 refine zC fun K426 hK426 => ?_
 refine zB ?_
 refine zK (.int .i64 p2) ?_
 refine zK v166 ?_
 obtain ⟨a427, c428, q429⟩ : ∃ a c, v166 = .slice a _ c := Sr.len (Sr.of_own (H.item (i := 0) rfl))
 refine zH (Do_build (cs := [.int .i64 p2, .string (bs []), .string (bs []), .int .i64 0, .int .i64 0, .int .i64 0, v166]) (by rw [q429]; exact bt70_0_6 _ a427 _ c428)) ?_
 refine xH rfl (xC (vs := [.int .i64 p2, .string (bs []), .string (bs []), .int .i64 0, .int .i64 0, .int .i64 0, v166]) H 3 rfl sz70 rfl rfl rfl ⟨rfl, rfl, rfl, rfl, rfl, rfl, (own_one (H.item (i := 0) rfl)), trivial⟩ rfl) ?_
 rintro w430 H
 refine (zD (zA (hK426 _ _ ?_)))
 have H := H.freeze (i := 0) rfl
 obtain rfl := someI hF
 refine (yB (postc  rfl rfl (xA agg70 sz70 rfl (Blk.cells (H.item (i := 3) rfl))) ?_))
 exact ⟨v166, v175, v178, v181, rfl, H.pick [0, 5, 6, 7, 4, 8, 9] (by decide)⟩
set_option maxHeartbeats 4000000 in
theorem F_event_reader_cond_B_w (rfB : EventReader → Int → Option (Cond × EventReader)) (rhB : S_event_reader_cond rfB) (p0 : EventReader) (p1 : Int) (b1 : Nat) (v2 : Value) (v3 : Value) (v4 : Value) (r : Cond × EventReader) (hF : F_event_reader_cond_B rfB p0 p1 = some r) (O S : List Nat) (w : World) (H : Hd O w w S [.own Rp.str v2 9 p0.r.Phases, .own rMoveT v3 122 p0.r.Moves, .own rRule v4 95 p0.r.Rules, .blk b1 [.string (bs p0.text), .int .i64 p0.at_, .int .i64 p0.now.kind, .int .i64 p0.now.at_, .int .i64 p0.now.n, .string (bs p0.now.text), v2, v3, v4] 109, .fz (.at 0 0 ((Fl.arr 7 Fl.str).f zU)), .fz (.gi 4)]) :
  Calls Tryz.prog 124 ([.pointer (some ⟨b1, 0, none⟩), .int .i64 p1] : List Value).toArray w fun e w' => ∃ u11 u12 u13 u14, e = .returned (.agg [.int .i64 r.1.Kind, .string (bs r.1.Name), .string (bs r.1.Other), .int .i64 r.1.Op, .int .i64 r.1.N, .int .i64 r.1.Frames, u11].toArray) ∧ Hd O w w' S [.fz (.sl rCond u11 r.1.Kids), .own Rp.str u12 9 r.2.r.Phases, .own rMoveT u13 122 r.2.r.Moves, .own rRule u14 95 r.2.r.Rules, .blk b1 [.string (bs r.2.text), .int .i64 r.2.at_, .int .i64 r.2.now.kind, .int .i64 r.2.now.at_, .int .i64 r.2.now.n, .string (bs r.2.now.text), u12, u13, u14] 109] := by
 unfold F_event_reader_cond_B at hF
 refine zY 8 Tryz.func124 rfl rfl rfl ?_
 refine zC fun K15 hK15 => ?_
 refine zB ?_
 refine yZ rfl rfl (Lx_box1 rfl rfl H) ?_
 rintro _ w18 ⟨b16, rfl, H⟩
 refine yZ rfl rfl (Lx_box1 rfl rfl H) ?_
 rintro _ w21 ⟨b19, rfl, H⟩
 refine yZ rfl rfl (xN zero70 H) ?_
 rintro _ w24 ⟨b22, rfl, H⟩
 refine (zD (zA (hK15 _ _ ?_)))
 refine zC fun K25 hK25 => ?_
 refine zB ?_
 refine zH (zO one105 rfl (Cells.get (Blk.cells (H.item (i := 6) rfl)) (i := 0) rfl)) ?_
 refine zH (Do_makeFunc rfl) ?_
 obtain ⟨⟨x26, x27⟩, e28, hF⟩ := zG hF
 refine zZ rfl rfl (zT en178 rfl) (F_event_reader_list_event_reader_cond_1_pa0d_w rfB rhB p0 [111, 114] 10 p1 b1 v2 v3 v4 b16 b19 _ e28 _ _ _ (H.enter [0, 1, 2, 3, 6, 7] [4, 5] (by decide) rfl)) ?_
 rintro _ w37 ⟨v29, v31, v32, v33, rfl, G38⟩
 have H : Hd O _ w37 _ [.fz (.at 0 0 ((Fl.arr 7 Fl.str).f zU)), .fz (.gi 4), .blk b22 [.int .i64 0, .string (bs []), .string (bs []), .int .i64 0, .int .i64 0, .int .i64 0, .slice none 0 0] 70, .fz (.sl rCond v29 x26.Kids), .own Rp.str v31 9 x27.r.Phases, .own rMoveT v32 122 x27.r.Moves, .own rRule v33 95 x27.r.Rules, .blk b1 [.string (bs x27.text), .int .i64 x27.at_, .int .i64 x27.now.kind, .int .i64 x27.now.at_, .int .i64 x27.now.n, .string (bs x27.now.text), v31, v32, v33] 109, .blk b16 [.pointer (some ⟨b1, 0, none⟩)] 105, .blk b19 [.int .i64 p1] 3] := H.back [0, 1, 2, 3, 6, 7] [4, 5] rfl G38
 refine ⟨_, rfl, ?_⟩
 refine xH rfl (xC (vs := [.int .i64 x26.Kind, .string (bs x26.Name), .string (bs x26.Other), .int .i64 x26.Op, .int .i64 x26.N, .int .i64 x26.Frames, v29]) H 2 rfl sz70 rfl rfl rfl ⟨rfl, rfl, rfl, rfl, rfl, rfl, (slf_one (H.item (i := 3) rfl)), trivial⟩ rfl) ?_
 rintro w39 H
 refine (zD (zA (hK25 _ _ ?_)))
 obtain rfl := someI hF
 refine (yB (postc  rfl rfl (xA agg70 sz70 rfl (Blk.cells (H.item (i := 2) rfl))) ?_))
 exact ⟨v29, v31, v32, v33, rfl, H.pick [3, 4, 5, 6, 7] (by decide)⟩
theorem F_event_reader_cond_s : S_event_reader_cond (F_event_reader_cond) := by
 have h : ∀ n, S_event_reader_cond (F_event_reader_cond_R n) := by
  intro n
  induction n with
  | zero => intro p0 p1 b1 v2 v3 v4 r hF; cases hF
  | succ n ih => intro p0 p1 b1 v2 v3 v4 r hF; exact F_event_reader_cond_B_w (F_event_reader_cond_R n) ih p0 p1 b1 v2 v3 v4 r hF
 exact h FU
set_option maxHeartbeats 4000000 in
theorem F_event_reader_rules_w (p0 : EventReader) (b1 : Nat) (v2 : Value) (v3 : Value) (v4 : Value) (r : EventReader) (hF : F_event_reader_rules p0 = some r) (O S : List Nat) (w : World) (H : Hd O w w S [.own Rp.str v2 9 p0.r.Phases, .own rMoveT v3 122 p0.r.Moves, .own rRule v4 95 p0.r.Rules, .blk b1 [.string (bs p0.text), .int .i64 p0.at_, .int .i64 p0.now.kind, .int .i64 p0.now.at_, .int .i64 p0.now.n, .string (bs p0.now.text), v2, v3, v4] 109, .fz (.at 0 0 ((Fl.arr 7 Fl.str).f zU)), .fz (.gi 4)]) :
  Calls Tryz.prog 59 ([.pointer (some ⟨b1, 0, none⟩)] : List Value).toArray w fun e w' => ∃ u11 u12 u13, e = .returned (.tuple #[]) ∧ Hd O w w' S [.own Rp.str u11 9 r.r.Phases, .own rMoveT u12 122 r.r.Moves, .own rRule u13 95 r.r.Rules, .blk b1 [.string (bs r.text), .int .i64 r.at_, .int .i64 r.now.kind, .int .i64 r.now.at_, .int .i64 r.now.n, .string (bs r.now.text), u11, u12, u13] 109] := by
 unfold F_event_reader_rules at hF
 refine zY 81 Tryz.func59 rfl rfl rfl ?_
 obtain ⟨j82, hF, hK81⟩ := zG hF
 refine yL [4, 5, 6, 7, 8, 9, 10, 11, 12, 13, 14, 15, 16, 17, 18, 19, 20, 21, 22] (fun (g : Value × Value × Value) => []) (fun g wl => Hd O w wl S [.blk b1 [.string (bs j82.1), .int .i64 j82.2.1, .int .i64 j82.2.2.1, .int .i64 j82.2.2.2.1, .int .i64 j82.2.2.2.2.1, .string (bs j82.2.2.2.2.2.1), g.1, g.2.1, g.2.2] 109, .own Rp.str g.1 9 j82.2.2.2.2.2.2.1, .own rMoveT g.2.1 122 j82.2.2.2.2.2.2.2.1, .own rRule g.2.2 95 j82.2.2.2.2.2.2.2.2, .fz (.at 0 0 ((Fl.arr 7 Fl.str).f zU)), .fz (.gi 4)]) ?_ ?_
 ·skip
  refine zC fun K83 hK83 => ?_
  refine zB ?_
  refine zK (.pointer (some ⟨b1, 0, none⟩)) ?_
  obtain ⟨x84, e85, hF⟩ := zG hF
  refine zZ rfl rfl (zT en120 rfl) (F_event_reader_advance_w p0 b1 v2 v3 v4 _ e85 _ _ _ (H.enter [0, 1, 2, 3] [5] (by decide) rfl)) ?_
  rintro _ w92 ⟨v86, v87, v88, rfl, G93⟩
  have H : Hd O _ w92 _ [.fz (.at 0 0 ((Fl.arr 7 Fl.str).f zU)), .fz (.gi 4), .own Rp.str v86 9 x84.r.Phases, .own rMoveT v87 122 x84.r.Moves, .own rRule v88 95 x84.r.Rules, .blk b1 [.string (bs x84.text), .int .i64 x84.at_, .int .i64 x84.now.kind, .int .i64 x84.now.at_, .int .i64 x84.now.n, .string (bs x84.now.text), v86, v87, v88] 109] := H.back [0, 1, 2, 3] [5] rfl G93
  refine ⟨_, rfl, ?_⟩
  refine (zD (zA (hK83 _ _ ?_)))
  refine yG ?_
  unfold F_event_reader_rules_L1 at hF
  obtain ⟨B128, n129, eB130, hF⟩ := yS hF
  refine xE [6, 7, 8, 9, 10, 11, 12, 13, 14, 15, 16, 17, 18, 19, 20, 21, 22] (fun (g : Nat) => []) (fun g wl => Hd O w wl S [.fz (.at 0 0 ((Fl.arr 7 Fl.str).f zU)), .fz (.gi 4), .own Rp.str v86 9 x84.r.Phases, .own rMoveT v87 122 x84.r.Moves, .own rRule v88 95 x84.r.Rules, .blk b1 [.string (bs x84.text), .int .i64 x84.at_, .int .i64 x84.now.kind, .int .i64 x84.now.at_, .int .i64 x84.now.n, .string (bs x84.now.text), v86, v87, v88] 109] ∧ loopN B128 g () = some j82) (fun g => g) n129 zL ⟨H.pick [0, 1, 2, 3, 4, 5] (by decide), hF⟩ ?_
  clear H hF
  rintro n129 ρ w132 ⟨H, hF⟩
  obtain ⟨n133, rfl, hF⟩ := yX hF
  have hF := yY eB130 hF
  refine zC fun K142 hK142 => ?_
  refine zC fun K143 hK143 => ?_
  refine zB ?_
  refine zK (.pointer (some ⟨b1, 0, none⟩)) ?_
  have H144 := H
  have H := H.freezeB (i := 5) rfl
  have H := H.freeze (i := 2) rfl
  have H := H.freeze (i := 3) rfl
  have H := H.freeze (i := 4) rfl
  have H := H.fz (.pt rEventReader (some ⟨b1, 0, none⟩) (some x84)) ⟨_, _, _, rfl, (H.item (i := 5) rfl).1, (H.item (i := 5) rfl).2.1, (rEventReader_mk (x := x84) (H.item (i := 2) rfl) (H.item (i := 3) rfl) (H.item (i := 4) rfl)), (H.item (i := 5) rfl).2.2⟩
  obtain ⟨x146, e147, hF⟩ := zG hF
  refine zZ rfl rfl (zT en121 rfl) (F_event_reader_is_w (some x84) [112, 104, 97, 115, 101] (some ⟨b1, 0, none⟩) _ e147 _ _ _ (H.enter [] [6] (by decide) rfl)) ?_
  rintro _ w148 ⟨rfl, G149⟩
  have H := H144.step (G149.only : Only [] _ _)
  refine ⟨_, rfl, ?_⟩
  refine (zD (zA (hK143 _ _ ?_)))
  obtain ⟨c150, hF⟩ := xZ hF
  refine WP_ifF c150 ?_
  obtain rfl := someI hF
  exact (xJ (yO (yO (xB (zA (meet ⟨(v86, v87, v88), zL, H.pick [5, 2, 3, 4, 0, 1] (by decide)⟩))))))
 rintro ⟨v73, v76, v79⟩ ρ w80 H
 have hF := hK81
 obtain ⟨g65, g66, g67, g68, g69, g70, g72, g75, g78⟩ := j82
 obtain ⟨j193, hF, hK192⟩ := zG hF
 refine yL [2, 23, 24, 25, 26, 27, 28, 29, 30, 31, 32, 33, 34, 35, 36, 37, 38, 39, 40, 41, 42, 43, 44, 45, 46, 47, 48] (fun (g : Unit) => []) (fun g wl => Hd O w wl S [.blk b1 [.string (bs g65), .int .i64 g66, .int .i64 g67, .int .i64 g68, .int .i64 g69, .string (bs g70), v73, v76, v79] 109, .own Rp.str v73 9 g72, .own rMoveT v76 122 g75, .own rRule v79 95 g78, .fz (.at 0 0 ((Fl.arr 7 Fl.str).f zU)), .fz (.gi 4)]) ?_ ?_
 ·skip
  refine yG ?_
  unfold F_event_reader_rules_L2 at hF
  obtain ⟨B228, n229, eB230, hF⟩ := yS hF
  refine xE [2, 23, 24, 25, 26, 27, 28, 29, 30, 31, 32, 33, 34, 35, 36, 37, 38, 39, 40, 41, 42, 43, 44, 45, 46, 47, 48] (fun (g : Nat) => []) (fun g wl => Hd O w wl S [.blk b1 [.string (bs g65), .int .i64 g66, .int .i64 g67, .int .i64 g68, .int .i64 g69, .string (bs g70), v73, v76, v79] 109, .own Rp.str v73 9 g72, .own rMoveT v76 122 g75, .own rRule v79 95 g78, .fz (.at 0 0 ((Fl.arr 7 Fl.str).f zU)), .fz (.gi 4)] ∧ loopN B228 g () = some j193) (fun g => g) n229 zL ⟨H.pick [0, 1, 2, 3, 4, 5] (by decide), hF⟩ ?_
  clear H hF
  rintro n229 ρ w232 ⟨H, hF⟩
  obtain ⟨n233, rfl, hF⟩ := yX hF
  have hF := yY eB230 hF
  refine zC fun K242 hK242 => ?_
  refine zC fun K243 hK243 => ?_
  refine zB ?_
  refine zK (.pointer (some ⟨b1, 0, none⟩)) ?_
  have H244 := H
  have H := H.freezeB (i := 0) rfl
  have H := H.freeze (i := 1) rfl
  have H := H.freeze (i := 2) rfl
  have H := H.freeze (i := 3) rfl
  have H := H.fz (.pt rEventReader (some ⟨b1, 0, none⟩) (some (EventReader.mk g65 g66 (EventToken.mk g67 g68 g69 g70) (Rules.mk g72 g75 g78)))) ⟨_, _, _, rfl, (H.item (i := 0) rfl).1, (H.item (i := 0) rfl).2.1, (rEventReader_mk (x := EventReader.mk g65 g66 (EventToken.mk g67 g68 g69 g70) (Rules.mk g72 g75 g78)) (H.item (i := 1) rfl) (H.item (i := 2) rfl) (H.item (i := 3) rfl)), (H.item (i := 0) rfl).2.2⟩
  obtain ⟨x246, e247, hF⟩ := zG hF
  refine zZ rfl rfl (zT en121 rfl) (F_event_reader_is_w (some (EventReader.mk g65 g66 (EventToken.mk g67 g68 g69 g70) (Rules.mk g72 g75 g78))) [109, 111, 118, 101] (some ⟨b1, 0, none⟩) _ e247 _ _ _ (H.enter [] [6] (by decide) rfl)) ?_
  rintro _ w248 ⟨rfl, G249⟩
  have H := H244.step (G249.only : Only [] _ _)
  refine ⟨_, rfl, ?_⟩
  refine (zD (zA (hK243 _ _ ?_)))
  obtain ⟨c250, hF⟩ := xZ hF
  refine WP_ifF c250 ?_
  obtain rfl := someI hF
  exact (xJ (yO (yO (xB (zA (meet ⟨(), zL, H.pick [0, 1, 2, 3, 4, 5] (by decide)⟩))))))
 rintro _ ρ w191 H
 have hF := hK192
 obtain ⟨j455, hF, hK454⟩ := zG hF
 refine yL [3, 49, 50, 51, 52, 53, 54, 55, 56, 57, 58, 59, 60, 61, 62, 63, 64, 65, 66, 67, 68, 69, 70, 71, 72] (fun (g : Value × Value × Value) => []) (fun g wl => Hd O w wl S [.blk b1 [.string (bs j455.1), .int .i64 j455.2.1, .int .i64 j455.2.2.1, .int .i64 j455.2.2.2.1, .int .i64 j455.2.2.2.2.1, .string (bs j455.2.2.2.2.2.1), g.1, g.2.1, g.2.2] 109, .own Rp.str g.1 9 j455.2.2.2.2.2.2.1, .own rMoveT g.2.1 122 j455.2.2.2.2.2.2.2.1, .own rRule g.2.2 95 j455.2.2.2.2.2.2.2.2, .fz (.at 0 0 ((Fl.arr 7 Fl.str).f zU)), .fz (.gi 4)]) ?_ ?_
 ·skip
  refine yG ?_
  unfold F_event_reader_rules_L3 at hF
  obtain ⟨B652, n653, eB654, hF⟩ := yS hF
  refine xE [3, 49, 50, 51, 52, 53, 54, 55, 56, 57, 58, 59, 60, 61, 62, 63, 64, 65, 66, 67, 68, 69, 70, 71, 72] (fun (g : Nat × Str × Int × Int × Int × Int × Str × (List Str) × (List MoveT) × (List Rule) × Value × Value × Value) => []) (fun g wl => Hd O w wl S [.blk b1 [.string (bs g.2.1), .int .i64 g.2.2.1, .int .i64 g.2.2.2.1, .int .i64 g.2.2.2.2.1, .int .i64 g.2.2.2.2.2.1, .string (bs g.2.2.2.2.2.2.1), g.2.2.2.2.2.2.2.2.2.2.1, g.2.2.2.2.2.2.2.2.2.2.2.1, g.2.2.2.2.2.2.2.2.2.2.2.2] 109, .own Rp.str g.2.2.2.2.2.2.2.2.2.2.1 9 g.2.2.2.2.2.2.2.1, .own rMoveT g.2.2.2.2.2.2.2.2.2.2.2.1 122 g.2.2.2.2.2.2.2.2.1, .own rRule g.2.2.2.2.2.2.2.2.2.2.2.2 95 g.2.2.2.2.2.2.2.2.2.1, .fz (.at 0 0 ((Fl.arr 7 Fl.str).f zU)), .fz (.gi 4)] ∧ loopN B652 g.1 (g.2.1, g.2.2.1, g.2.2.2.1, g.2.2.2.2.1, g.2.2.2.2.2.1, g.2.2.2.2.2.2.1, g.2.2.2.2.2.2.2.1, g.2.2.2.2.2.2.2.2.1, g.2.2.2.2.2.2.2.2.2.1) = some j455) (fun g => g.1) (n653, g65, g66, g67, g68, g69, g70, g72, g75, g78, v73, v76, v79) zL ⟨H.pick [0, 1, 2, 3, 4, 5] (by decide), hF⟩ ?_
  clear H hF
  rintro ⟨n653, g637, g638, g639, g640, g641, g642, g644, g647, g650, v645, v648, v651⟩ ρ w656 ⟨H, hF⟩
  obtain ⟨n657, rfl, hF⟩ := yX hF
  have hF := yY eB654 hF
  refine zC fun K666 hK666 => ?_
  refine zC fun K667 hK667 => ?_
  refine zB ?_
  refine zK (.pointer (some ⟨b1, 0, none⟩)) ?_
  have H668 := H
  have H := H.freezeB (i := 0) rfl
  have H := H.freeze (i := 1) rfl
  have H := H.freeze (i := 2) rfl
  have H := H.freeze (i := 3) rfl
  have H := H.fz (.pt rEventReader (some ⟨b1, 0, none⟩) (some (EventReader.mk g637 g638 (EventToken.mk g639 g640 g641 g642) (Rules.mk g644 g647 g650)))) ⟨_, _, _, rfl, (H.item (i := 0) rfl).1, (H.item (i := 0) rfl).2.1, (rEventReader_mk (x := EventReader.mk g637 g638 (EventToken.mk g639 g640 g641 g642) (Rules.mk g644 g647 g650)) (H.item (i := 1) rfl) (H.item (i := 2) rfl) (H.item (i := 3) rfl)), (H.item (i := 0) rfl).2.2⟩
  obtain ⟨x670, e671, hF⟩ := zG hF
  refine zZ rfl rfl (zT en121 rfl) (F_event_reader_is_w (some (EventReader.mk g637 g638 (EventToken.mk g639 g640 g641 g642) (Rules.mk g644 g647 g650))) [114, 117, 108, 101] (some ⟨b1, 0, none⟩) _ e671 _ _ _ (H.enter [] [6] (by decide) rfl)) ?_
  rintro _ w672 ⟨rfl, G673⟩
  have H := H668.step (G673.only : Only [] _ _)
  refine ⟨_, rfl, ?_⟩
  refine (zD (zA (hK667 _ _ ?_)))
  refine yA (b := x670) rfl (fun c674 => ?_) (fun c674 => ?_)
  ·have hF := zQ c674 hF
   refine (zX (zA (hK666 _ _ ?_)))
   refine yG ?_
   refine zC fun K675 hK675 => ?_
   refine zB ?_
   refine zK (.pointer (some ⟨b1, 0, none⟩)) ?_
   obtain ⟨x676, e677, hF⟩ := zG hF
   refine zZ rfl rfl (zT en120 rfl) (F_event_reader_advance_w (EventReader.mk g637 g638 (EventToken.mk g639 g640 g641 g642) (Rules.mk g644 g647 g650)) b1 v645 v648 v651 _ e677 _ _ _ (H.enter [1, 2, 3, 0] [5] (by decide) rfl)) ?_
   rintro _ w684 ⟨v678, v679, v680, rfl, G685⟩
   have H : Hd O _ w684 _ [.fz (.at 0 0 ((Fl.arr 7 Fl.str).f zU)), .fz (.gi 4), .own Rp.str v678 9 x676.r.Phases, .own rMoveT v679 122 x676.r.Moves, .own rRule v680 95 x676.r.Rules, .blk b1 [.string (bs x676.text), .int .i64 x676.at_, .int .i64 x676.now.kind, .int .i64 x676.now.at_, .int .i64 x676.now.n, .string (bs x676.now.text), v678, v679, v680] 109] := H.back [1, 2, 3, 0] [5] rfl G685
   refine ⟨_, rfl, ?_⟩
   refine (zD (zA (hK675 _ _ ?_)))
   refine zC fun K686 hK686 => ?_
   refine zB ?_
   refine zK (.pointer (some ⟨b1, 0, none⟩)) ?_
   obtain ⟨⟨x687, x688⟩, e689, hF⟩ := zG hF
   refine zZ rfl rfl (zT en122 rfl) (F_event_reader_name_w x676 b1 v678 v679 v680 _ e689 _ _ _ (H.enter [2, 3, 4, 5] [1] (by decide) rfl)) ?_
   rintro _ w696 ⟨v690, v691, v692, rfl, G697⟩
   have H : Hd O _ w696 _ [.fz (.at 0 0 ((Fl.arr 7 Fl.str).f zU)), .fz (.gi 4), .own Rp.str v690 9 x688.r.Phases, .own rMoveT v691 122 x688.r.Moves, .own rRule v692 95 x688.r.Rules, .blk b1 [.string (bs x688.text), .int .i64 x688.at_, .int .i64 x688.now.kind, .int .i64 x688.now.at_, .int .i64 x688.now.n, .string (bs x688.now.text), v690, v691, v692] 109] := H.back [2, 3, 4, 5] [1] rfl G697
   refine ⟨_, rfl, ?_⟩
   refine zH (Do_build (cs := [.string (bs x687), .int .i64 0, .string (bs []), .string (bs []), .int .i64 0, .int .i64 0, .int .i64 0, .slice none 0 0]) (bt95_0 _)) ?_
   refine yZ rfl rfl (xN zero95 H) ?_
   rintro _ w700 ⟨b698, rfl, H⟩
   refine xH rfl (xC (vs := [.string (bs x687), .int .i64 0, .string (bs []), .string (bs []), .int .i64 0, .int .i64 0, .int .i64 0, .slice none 0 0]) H 6 rfl sz95 rfl rfl rfl ⟨rfl, rfl, rfl, rfl, rfl, rfl, rfl, rfl, trivial⟩ rfl) ?_
   rintro w701 H
   refine (zD (zA (hK686 _ _ ?_)))
   refine zC fun K702 hK702 => ?_
   refine zB ?_
   refine zK (.pointer (some ⟨b1, 0, none⟩)) ?_
   obtain ⟨x703, e704, hF⟩ := zG hF
   refine zZ rfl rfl (zT en123 rfl) (F_event_reader_must_w x688 [105, 102] b1 v690 v691 v692 _ e704 _ _ _ (H.enter [2, 3, 4, 5] [1] (by decide) rfl)) ?_
   rintro _ w711 ⟨v705, v706, v707, rfl, G712⟩
   have H : Hd O _ w711 _ [.fz (.at 0 0 ((Fl.arr 7 Fl.str).f zU)), .fz (.gi 4), .blk b698 [.string (bs x687), .int .i64 0, .string (bs []), .string (bs []), .int .i64 0, .int .i64 0, .int .i64 0, .slice none 0 0] 95, .own Rp.str v705 9 x703.r.Phases, .own rMoveT v706 122 x703.r.Moves, .own rRule v707 95 x703.r.Rules, .blk b1 [.string (bs x703.text), .int .i64 x703.at_, .int .i64 x703.now.kind, .int .i64 x703.now.at_, .int .i64 x703.now.n, .string (bs x703.now.text), v705, v706, v707] 109] := H.back [2, 3, 4, 5] [1] rfl G712
   refine ⟨_, rfl, ?_⟩
   refine (zD (zA (hK702 _ _ ?_)))
   refine zC fun K713 hK713 => ?_
   refine zB ?_
   refine zK (.pointer (some ⟨b1, 0, none⟩)) ?_
   obtain ⟨⟨x714, x715⟩, e716, hF⟩ := zG hF
   refine zZ rfl rfl (zT en124 rfl) (F_event_reader_cond_s x703 0 b1 v705 v706 v707 _ e716 _ _ _ (H.enter [3, 4, 5, 6] [0, 1] (by decide) rfl)) ?_
   rintro _ w725 ⟨v717, v719, v720, v721, rfl, G726⟩
   have H : Hd O _ w725 _ [.fz (.at 0 0 ((Fl.arr 7 Fl.str).f zU)), .fz (.gi 4), .blk b698 [.string (bs x687), .int .i64 0, .string (bs []), .string (bs []), .int .i64 0, .int .i64 0, .int .i64 0, .slice none 0 0] 95, .fz (.sl rCond v717 x714.Kids), .own Rp.str v719 9 x715.r.Phases, .own rMoveT v720 122 x715.r.Moves, .own rRule v721 95 x715.r.Rules, .blk b1 [.string (bs x715.text), .int .i64 x715.at_, .int .i64 x715.now.kind, .int .i64 x715.now.at_, .int .i64 x715.now.n, .string (bs x715.now.text), v719, v720, v721] 109] := H.back [3, 4, 5, 6] [0, 1] rfl G726
   refine ⟨_, rfl, ?_⟩
   refine zH (fa95_1 rfl) ?_
   refine xH rfl (xC (vs := [.int .i64 x714.Kind, .string (bs x714.Name), .string (bs x714.Other), .int .i64 x714.Op, .int .i64 x714.N, .int .i64 x714.Frames, v717]) H 2 rfl sz70 rfl rfl rfl ⟨rfl, rfl, rfl, rfl, rfl, rfl, (slf_one (H.item (i := 3) rfl)), trivial⟩ rfl) ?_
   rintro w727 H
   refine (zD (zA (hK713 _ _ ?_)))
   have H728 := H
   have H := H.rebase
   have H729 := H
   refine WP_mix0 H [0, 1, 2, 3, 4, 5, 6, 7, 8, 9, 10, 11, 12] [.pure, .pure, .pure, .pure, .pure, .read, .read, .new, .eff, .pure, .pure, .pure, .eff] mixed (by kernel_rfl) (by kernel_rfl) (by kernel_rfl) rfl ?_
   refine Mx.yD rfl rfl rfl (fun w' hw' => xK (v := .pointer (some ⟨b1, 0, none⟩)) rfl) ?_
   refine Mx.yD rfl rfl rfl (fun w' hw' => xK (v := .pointer (some ⟨b1, 0, none⟩)) rfl) ?_
   refine Mx.yD rfl rfl rfl (fun w' hw' => yM rfl) ?_
   refine Mx.yD rfl rfl rfl (fun w' hw' => fa109_3 rfl) ?_
   refine Mx.yD rfl rfl rfl (fun w' hw' => fa26_2 rfl) ?_
   refine Mx.xO oS rfl rfl rfl (fun w' hw' => zO one24 rfl (Cells.get (Blk.cells ((H.sees hw').item (i := 7) rfl)) (i := 8) rfl)) ?_
   refine Mx.xO oS rfl rfl rfl (fun w' hw' => yN (yJ (cs := [.string (bs x687), .int .i64 x714.Kind, .string (bs x714.Name), .string (bs x714.Other), .int .i64 x714.Op, .int .i64 x714.N, .int .i64 x714.Frames, v717]) agg95 rfl sz95 rfl (Blk.cells ((H.sees hw').item (i := 2) rfl))) rfl) ?_
   obtain ⟨x730, e731, hF⟩ := zF hF
   subst e731
   refine Mx.XL_exN oS rfl rfl rfl (fun w' hw' => Ls_of (Lx_bs (r := rRule) (xl := [Rule.mk x687 x714]) (cs := [.string (bs x687), .int .i64 x714.Kind, .string (bs x714.Name), .string (bs x714.Other), .int .i64 x714.Op, .int .i64 x714.N, .int .i64 x714.Frames, v717]) u24 el95 (by decide) (by decide) rfl (xU (vs := [.agg [.string (bs x687), .int .i64 x714.Kind, .string (bs x714.Name), .string (bs x714.Other), .int .i64 x714.Op, .int .i64 x714.N, .int .i64 x714.Frames, v717].toArray]) (by decide) rfl rfl ⟨rfl, trivial⟩ rfl) (H.sees hw') ⟨[.string (bs x687), .int .i64 x714.Kind, .string (bs x714.Name), .string (bs x714.Other), .int .i64 x714.Op, .int .i64 x714.N, .int .i64 x714.Frames, v717], [], rfl, (rRule_mk (x := Rule.mk x687 x714) ((H.sees hw').item (i := 3) rfl)), rfl⟩) (Ys_bs (cs := [.string (bs x687), .int .i64 x714.Kind, .string (bs x714.Name), .string (bs x714.Other), .int .i64 x714.Op, .int .i64 x714.N, .int .i64 x714.Frames, v717]) u24 el95 (by decide) (by decide) (xU (vs := [.agg [.string (bs x687), .int .i64 x714.Kind, .string (bs x714.Name), .string (bs x714.Other), .int .i64 x714.Op, .int .i64 x714.N, .int .i64 x714.Frames, v717].toArray]) (by decide) rfl rfl ⟨rfl, trivial⟩ rfl))) ?_
   rintro w' v733 w734 hw' H
   obtain ⟨x735, e736, hF⟩ := zG hF
   refine Mx.XL_ex oS rfl rfl rfl (fun w' hw' => Lx_app (H.sees hw') (i := 6) rfl u24 el95 rfl rfl (Sr.of_own ((H.sees hw').item (i := 8) rfl)) e736) ?_
   rintro w' v737 w738 hw' H
   refine ⟨H.only, ?_⟩
   refine Mx.yD rfl rfl rfl (fun w' hw' => yM rfl) ?_
   refine Mx.yD rfl rfl rfl (fun w' hw' => fa109_3 rfl) ?_
   refine Mx.yD rfl rfl rfl (fun w' hw' => fa26_2 rfl) ?_
   refine Mx.XL_exU oS rfl rfl (fun w' hw' => wH (H.sees hw') 7 rfl sz24 rfl (v := v737) rfl (own_one ((H.sees hw').item (i := 6) rfl)) rfl) ?_
   rintro w' w739 hw' H
   refine ⟨H.only, ?_⟩
   refine Mx.XL_nil fun w740 hS => ?_
   have H := H.sees hS
   have H := H728.rejoin H
   exact (yT (zA (meet ⟨(n657, x715.text, x715.at_, x715.now.kind, x715.now.at_, x715.now.n, x715.now.text, x715.r.Phases, x715.r.Moves, x735, v719, v720, v737), zL, ⟨H.pick [7, 4, 5, 6, 0, 1] (by decide), hF⟩, Nat.lt_succ_self _⟩)))
  have hF := zS c674 hF
  obtain rfl := someI hF
  exact (xJ (yO (yO (xB (zA (meet ⟨(v645, v648, v651), zL, H.pick [0, 1, 2, 3, 4, 5] (by decide)⟩))))))
 rintro ⟨v446, v449, v452⟩ ρ w453 H
 have hF := hK454
 obtain ⟨g438, g439, g440, g441, g442, g443, g445, g448, g451⟩ := j455
 refine zC fun K741 hK741 => ?_
 refine zB ?_
 refine zK (.pointer (some ⟨b1, 0, none⟩)) ?_
 refine zH (yM rfl) ?_
 refine zH (fa109_2 rfl) ?_
 refine zH (fa107_0 rfl) ?_
 refine zH (zO one3 rfl (Cells.get (Blk.cells (H.item (i := 0) rfl)) (i := 2) rfl)) ?_
 obtain ⟨x742, e743, hF⟩ := zF hF
 refine zH (zM (Do_neq (a := g440) (b := 0) rfl rfl) e743) ?_
 refine (zD (zA (hK741 _ _ ?_)))
 obtain ⟨c744, hF⟩ := xZ hF
 refine WP_ifF c744 ?_
 obtain rfl := someI hF
 refine (zX (post0n rfl ?_))
 exact ⟨v446, v449, v452, rfl, H.pick [1, 2, 3, 0] (by decide)⟩
theorem caught_idle (b : Nat) (w : World) : CallsD Tryz.prog 119 #[.pointer (some ⟨b, 0, none⟩)] .returning w fun e u' w' => e = .returned (.tuple #[]) ∧ u' = .returning ∧ w' = w := by
 refine callsD_of_wpS Tryz.func119 rfl fun c₀ cs hu => ?_
 apply wpS_seq
 apply wpS_region
 simp [wpOpsS, go_sem, recoverD, hu, Tryz.ntmps119, Exit.thenS]
 apply wpS_seq
 apply wpS_region
 simp [wpOpsS, go_sem, Exit.thenS, Act.eval, Array.replicate]
 refine wpS_cond (t := false) (by simp [Act.eval, Array.replicate]) ?_
 simp only [Bool.false_eq_true, if_false]
 refine wpS_of_wp (wp_skip ?_)
 cases c₀
 simp_all [bodyPostS, results, Tryz.results119]
theorem en59c : Go.OB.Enters Tryz.prog 59 := ⟨_, Tryz.func59, rfl, by kernel_rfl⟩
theorem zero111c : Go.OB.Zero Tryz.prog 111 ([.int .i64 0, .int .i64 0]) := by unfold Go.OB.Zero; kernel_rfl
theorem sz111c : Sz Tryz.prog 111 2 := by unfold Sz; kernel_rfl
theorem agg111c : Agg Tryz.prog 111 := by unfold Agg; kernel_rfl
theorem bz111c : Tryz.prog.built 111 [] = some ([.int .i64 0, .int .i64 0] : List Value).toArray := by kernel_rfl
set_option maxHeartbeats 4000000 in
theorem F_caught_w (p0 : EventReader) (b1 : Nat) (v2 : Value) (v3 : Value) (v4 : Value) (r : EventFault × EventReader) (hF : F_caught p0 = some r) (O S : List Nat) (w : World) (H : Hd O w w S [.own Rp.str v2 9 p0.r.Phases, .own rMoveT v3 122 p0.r.Moves, .own rRule v4 95 p0.r.Rules, .blk b1 [.string (bs p0.text), .int .i64 p0.at_, .int .i64 p0.now.kind, .int .i64 p0.now.at_, .int .i64 p0.now.n, .string (bs p0.now.text), v2, v3, v4] 109, .fz (.at 0 0 ((Fl.arr 7 Fl.str).f zU)), .fz (.gi 4)]) :
  Calls Tryz.prog 58 ([.func (.func 59) #[.pointer (some ⟨b1, 0, none⟩)] #[]] : List Value).toArray w fun e w' => ∃ u11 u12 u13, e = .returned (.agg [.int .i64 r.1.at_, .int .i64 r.1.e].toArray) ∧ Hd O w w' S [.own Rp.str u11 9 r.2.r.Phases, .own rMoveT u12 122 r.2.r.Moves, .own rRule u13 95 r.2.r.Rules, .blk b1 [.string (bs r.2.text), .int .i64 r.2.at_, .int .i64 r.2.now.kind, .int .i64 r.2.now.at_, .int .i64 r.2.now.n, .string (bs r.2.now.text), u11, u12, u13] 109] := by
 unfold F_caught at hF
 obtain ⟨x, e, hF⟩ := zG hF
 have hr := Option.some.inj hF
 subst hr
 refine calls_of_WPD 7 Tryz.func58 rfl rfl rfl ?_
 refine WPD_seq ?_
 refine WPD_region ?_
 refine RLD_ex rfl rfl (xN zero111c H) ?_
 rintro _ w1 ⟨b2, rfl, H⟩
 refine RLD_nil ?_
 refine WPD_seq ?_
 refine WPD_region ?_
 refine RLD_do rfl rfl (Do_makeFunc rfl) ?_
 refine RLD_defer (x := { target := .fn (.func 119) #[.pointer (some ⟨b2, 0, none⟩)], args := #[] }) rfl (run_defer (cap := [_]) (us := []) rfl rfl) ?_
 refine RLD_nil ?_
 refine WPD_seq ?_
 refine WPD_region ?_
 refine RLD_do rfl rfl (xK (v := .func (.func 59) #[.pointer (some ⟨b1, 0, none⟩)] #[]) rfl) ?_
 refine RLD_call rfl rfl (DoC_bnd en59c rfl rfl) (F_event_reader_rules_w p0 b1 v2 v3 v4 _ e _ _ _ (H.enter [0, 1, 2, 3] [4, 5] (by decide) rfl)) ?_
 rintro _ w2 ⟨u11, u12, u13, rfl, G⟩
 have H := H.back [0, 1, 2, 3] [4, 5] rfl G
 refine ⟨_, rfl, ?_⟩
 refine RLD_nil ?_
 refine WPD_seq ?_
 refine WPD_region ?_
 refine RLD_do rfl rfl (Do_build (cs := [.int .i64 0, .int .i64 0]) bz111c) ?_
 refine RLD_exU rfl (xC (vs := [.int .i64 0, .int .i64 0]) H 2 rfl sz111c rfl rfl rfl ⟨rfl, rfl, trivial⟩ rfl) ?_
 rintro w3 H
 refine RLD_nil ?_
 refine WPD_ret ?_
 intro tmps ht
 refine leaves_cons (f := 119) (args := #[.pointer (some ⟨b2, 0, none⟩)]) (by simp) (by simp [go_sem]) ?_
 refine (caught_idle b2 _).mono ?_
 rintro e u' w'' ⟨rfl, rfl, rfl⟩
 refine leaves_res (fn := _) rfl ht (postc rfl rfl (xA agg111c sz111c rfl (Blk.cells (H.item (i := 2) rfl))) ?_)
 exact ⟨u11, u12, u13, rfl, H.pick [3, 4, 5, 6] (by decide)⟩
set_option maxHeartbeats 4000000 in
theorem F_event_Read_w (p0 : Str) (r : Rules × Int × Int) (hF : F_event_Read p0 = some r) (O S : List Nat) (w : World) (H : Hd O w w S [.fz (.at 0 0 ((Fl.arr 7 Fl.str).f zU)), .fz (.gi 4)]) :
  Calls Tryz.prog 18 ([.string (bs p0)] : List Value).toArray w fun e w' => ∃ u3 u4 u5, e = .returned (.tuple #[.agg [u3, u4, u5].toArray, .int .i64 r.2.1, .int .i64 r.2.2]) ∧ Hd O w w' S [.fz (.sl Rp.str u3 r.1.Phases), .fz (.sl rMoveT u4 r.1.Moves), .fz (.sl rRule u5 r.1.Rules)] := by
 unfold F_event_Read at hF
 refine zY 39 Tryz.func18 rfl rfl rfl ?_
 refine zC fun K6 hK6 => ?_
 refine zB ?_
 refine yZ rfl rfl (xN zero26 H) ?_
 rintro _ w9 ⟨b7, rfl, H⟩
 refine zI (.int .i64 0) ?_
 refine zI (.int .i64 0) ?_
 refine (zD (zA (hK6 _ _ ?_)))
 refine zC fun K16 hK16 => ?_
 refine zC fun K17 hK17 => ?_
 refine zB ?_
 refine zK (.string (bs p0)) ?_
 obtain ⟨x18, e19, hF⟩ := zF hF
 refine zH (yN (Do_slen (s1 := p0) u9 rfl) (congrArg (Value.int .i64) e19)) ?_
 obtain ⟨x20, e21, hF⟩ := zF hF
 refine zH (zM (Do_gtr (a := x18) (b := 200000) rfl rfl) e21) ?_
 refine (zD (zA (hK17 _ _ ?_)))
 obtain ⟨c22, hF⟩ := xZ hF
 refine WP_ifF c22 ?_
 refine (zX (zA (hK16 _ _ ?_)))
 refine zC fun K23 hK23 => ?_
 refine zB ?_
 refine zK (.string (bs p0)) ?_
 refine zH (Do_build (cs := [.string (bs p0), .int .i64 0, .int .i64 0, .int .i64 0, .int .i64 0, .string (bs []), .slice none 0 0, .slice none 0 0, .slice none 0 0]) (bt109_0 _)) ?_
 refine yZ rfl rfl (wF (cs := [.string (bs p0), .int .i64 0, .int .i64 0, .int .i64 0, .int .i64 0, .string (bs []), .slice none 0 0, .slice none 0 0, .slice none 0 0]) rfl H) ?_
 rintro _ w26 ⟨b24, rfl, H⟩
 refine zI (.pointer (some ⟨b24, 0, none⟩)) ?_
 refine (zD (zA (hK23 _ _ ?_)))
 refine zC fun K50 hK50 => ?_
 refine zC fun K51 hK51 => ?_
 refine zB ?_
 refine zK (.pointer (some ⟨b24, 0, none⟩)) ?_
 refine zH (Do_makeFuncB rfl) ?_
 have H := own_nil H Rp.str 9
 have H := own_nil H rMoveT 122
 have H := own_nil H rRule 95
 obtain ⟨⟨x55, x56⟩, e57, hF⟩ := zG hF
 refine zZ rfl rfl (zT en58 rfl) (F_caught_w (EventReader.mk p0 0 (EventToken.mk 0 0 0 []) (Rules.mk [] [] [])) b24 (.slice none 0 0) (.slice none 0 0) (.slice none 0 0) _ e57 _ _ _ (H.enter [4, 5, 6, 3] [0, 1] (by decide) rfl)) ?_
 rintro _ w64 ⟨v58, v59, v60, rfl, G65⟩
 have H : Hd O _ w64 _ [.fz (.at 0 0 ((Fl.arr 7 Fl.str).f zU)), .fz (.gi 4), .blk b7 [.slice none 0 0, .slice none 0 0, .slice none 0 0] 26, .own Rp.str v58 9 x56.r.Phases, .own rMoveT v59 122 x56.r.Moves, .own rRule v60 95 x56.r.Rules, .blk b24 [.string (bs x56.text), .int .i64 x56.at_, .int .i64 x56.now.kind, .int .i64 x56.now.at_, .int .i64 x56.now.n, .string (bs x56.now.text), v58, v59, v60] 109] := H.back [4, 5, 6, 3] [0, 1] rfl G65
 refine ⟨_, rfl, ?_⟩
 refine yZ rfl rfl (xN zero111 H) ?_
 rintro _ w68 ⟨b66, rfl, H⟩
 refine xH rfl (xC (vs := [.int .i64 x55.at_, .int .i64 x55.e]) H 7 rfl sz111 rfl rfl rfl ⟨rfl, rfl, trivial⟩ rfl) ?_
 rintro w69 H
 refine (zD (zA (hK51 _ _ ?_)))
 refine zC fun K70 hK70 => ?_
 refine zB ?_
 refine zH (fa111_1 rfl) ?_
 refine zH (zO one30 rfl (Cells.get (Blk.cells (H.item (i := 7) rfl)) (i := 1) rfl)) ?_
 obtain ⟨x71, e72, hF⟩ := zF hF
 refine zH (zM (Do_neq (a := x55.e) (b := 0) rfl rfl) e72) ?_
 refine (zD (zA (hK70 _ _ ?_)))
 obtain ⟨c73, hF⟩ := xZ hF
 refine WP_ifF c73 ?_
 refine (zX (zA (hK50 _ _ ?_)))
 refine zC fun K84 hK84 => ?_
 refine zC fun K85 hK85 => ?_
 refine zB ?_
 refine zK (.pointer (some ⟨b24, 0, none⟩)) ?_
 refine zH (yM rfl) ?_
 refine zH (fa109_3 rfl) ?_
 refine zH (yN (yJ (cs := [v58, v59, v60]) agg26 rfl sz26 rfl (Cells.drop (Blk.cells (H.item (i := 6) rfl)) 6 3)) rfl) ?_
 have H86 := H
 have H := H.freeze (i := 3) rfl
 have H := H.freeze (i := 4) rfl
 have H := H.freeze (i := 5) rfl
 obtain ⟨x87, e88, hF⟩ := zG hF
 refine zZ rfl rfl (zT en31 rfl) (F_event_Check_w x56.r v58 v59 v60 _ e88 _ _ _ (H.enter [] [3, 4, 5] (by decide) rfl)) ?_
 rintro _ w89 ⟨rfl, G90⟩
 have H := H86.step (G90.only : Only [] _ _)
 refine ⟨_, rfl, ?_⟩
 refine zI (.int .i64 x87) ?_
 refine (zD (zA (hK85 _ _ ?_)))
 refine zC fun K91 hK91 => ?_
 refine zB ?_
 refine zK (.int .i64 x87) ?_
 obtain ⟨x92, e93, hF⟩ := zF hF
 refine zH (zM (Do_neq (a := x87) (b := 0) rfl rfl) e93) ?_
 refine (zD (zA (hK91 _ _ ?_)))
 obtain ⟨c94, hF⟩ := xZ hF
 refine WP_ifF c94 ?_
 refine (zX (zA (hK84 _ _ ?_)))
 refine zC fun K95 hK95 => ?_
 refine zB ?_
 refine zK (.pointer (some ⟨b24, 0, none⟩)) ?_
 refine zH (yM rfl) ?_
 refine zH (fa109_3 rfl) ?_
 refine zH (yN (yJ (cs := [v58, v59, v60]) agg26 rfl sz26 rfl (Cells.drop (Blk.cells (H.item (i := 6) rfl)) 6 3)) rfl) ?_
 refine xH rfl (xC (vs := [v58, v59, v60]) H 2 rfl sz26 rfl rfl rfl ⟨(own_one (H.item (i := 3) rfl)), (own_one (H.item (i := 4) rfl)), (own_one (H.item (i := 5) rfl)), trivial⟩ rfl) ?_
 rintro w96 H
 refine zI (.int .i64 0) ?_
 refine zI (.int .i64 0) ?_
 refine (zD (zA (hK95 _ _ ?_)))
 have H := H.freeze (i := 3) rfl
 have H := H.freeze (i := 4) rfl
 have H := H.freeze (i := 5) rfl
 obtain rfl := someI hF
 refine (yB (postc2 (v1 := .int .i64 0) (v2 := .int .i64 0) rfl rfl (xA agg26 sz26 rfl (Blk.cells (H.item (i := 2) rfl))) rfl rfl ?_))
 exact ⟨v58, v59, v60, rfl, H.pick [3, 4, 5] (by decide)⟩
abbrev S_event_condText (f : Cond → Int → Option Str) : Prop := ∀ (p0 : Cond) (p1 : Int) (v1 : Value) (r : Str) (_ : f p0 p1 = some r) (O S : List Nat) (w : World) (_ : Hd O w w S [.fz (.sl rCond v1 p0.Kids), .fz (.at 0 0 ((Fl.arr 7 Fl.str).f zU))]),
  Calls Tryz.prog 69 ([.agg [.int .i64 p0.Kind, .string (bs p0.Name), .string (bs p0.Other), .int .i64 p0.Op, .int .i64 p0.N, .int .i64 p0.Frames, v1].toArray, .int .i64 p1] : List Value).toArray w fun e w' => e = .returned (.string (bs r)) ∧ Hd O w w' S []
end Go.Proofs.YtckmiljbaejijaaGreatDoor.L
