/- Walks: what each function computes, for every argument; no condition but those that stand in the statements. -/
import Derived.Test.YtnajnkghilemhaaGreatDoorSV0
import Derived.Test.YtnajnkghilemhaaGreatDoorSV8
import Derived.Test.YtnajnkghilemhaaGreatDoorSV9
import Derived.Test.YtnajnkghilemhaaGreatDoorSV7
import Derived.Test.YtnajnkghilemhaaGreatDoorSV2
namespace Go.Proofs.YtnajnkghilemhaaGreatDoor.L
open Go.RowKit Go.OB Go.Lf
set_option maxHeartbeats 4000000 in
theorem F_event_reader_list_event_reader_cond_1_pa0d_w (rfB : EventReader → Int → Option (Cond × EventReader)) (rhB : S_event_reader_cond rfB) (p0 : EventReader) (p1 : Str) (p2 : Int) (p3c1 : Int) (b1 : Nat) (v2 : Value) (v3 : Value) (v4 : Value) (b9 : Nat) (b11 : Nat) (r : Cond × EventReader) (hF : F_event_reader_list_event_reader_cond_1_pa0d rfB p0 p1 p2 p3c1 = some r) (O S : List Nat) (w : World) (H : Hd O w w S [.own Rp.str v2 9 p0.r.Phases, .own rMoveT v3 102 p0.r.Moves, .own rRule v4 106 p0.r.Rules, .blk b1 [.string (bs p0.text), .int .i64 p0.at_, .int .i64 p0.now.kind, .int .i64 p0.now.at_, .int .i64 p0.now.n, .string (bs p0.now.text), v2, v3, v4] 88, .blk b9 [.pointer (some ⟨b1, 0, none⟩)] 84, .blk b11 [.int .i64 p3c1] 3, .fz (.at 0 0 ((Fl.arr 7 Fl.str).f zK)), .fz (.gi 4)]) :
  Calls Tryz.prog 141 ([.pointer (some ⟨b1, 0, none⟩), .string (bs p1), .int .i64 p2, .func (.func 142) #[] #[.pointer (some ⟨b9, 0, none⟩), .pointer (some ⟨b11, 0, none⟩)]] : List Value).toArray w fun e w' => ∃ u15 u16 u17 u18, e = .returned (.agg [.int .i64 r.1.Kind, .string (bs r.1.Name), .string (bs r.1.Other), .int .i64 r.1.Op, .int .i64 r.1.N, .int .i64 r.1.Frames, u15].toArray) ∧ Hd O w w' S [.fz (.sl rCond u15 r.1.Kids), .own Rp.str u16 9 r.2.r.Phases, .own rMoveT u17 102 r.2.r.Moves, .own rRule u18 106 r.2.r.Rules, .blk b1 [.string (bs r.2.text), .int .i64 r.2.at_, .int .i64 r.2.now.kind, .int .i64 r.2.now.at_, .int .i64 r.2.now.n, .string (bs r.2.now.text), u16, u17, u18] 88, .blk b9 [.pointer (some ⟨b1, 0, none⟩)] 84, .blk b11 [.int .i64 p3c1] 3] := by
 unfold F_event_reader_list_event_reader_cond_1_pa0d at hF
 refine yC 32 Tryz.func141 rfl rfl rfl ?_
 refine zC fun K19 hK19 => ?_
 refine zB ?_
 refine yT rfl rfl (xG zero54 H) ?_
 rintro _ w22 ⟨b20, rfl, H⟩
 refine (zF (zA (hK19 _ _ ?_)))
 refine zC fun K23 hK23 => ?_
 refine zB ?_
 refine zN (.func (.func 142) #[] #[.pointer (some ⟨b9, 0, none⟩), .pointer (some ⟨b11, 0, none⟩)]) ?_
 obtain ⟨⟨x24, x25⟩, e26, hF⟩ := zD hF
 refine zW rfl rfl (wP en142 rfl rfl) (F_event_reader_cond_1_pdd_w rfB rhB p0 p3c1 b9 b1 v2 v3 v4 b11 _ e26 _ _ _ (H.enter [0, 1, 2, 3, 4, 5] [6, 7] (by decide) rfl)) ?_
 rintro _ w35 ⟨v27, v29, v30, v31, rfl, G36⟩
 have H : Hd O _ w35 _ [.fz (.at 0 0 ((Fl.arr 7 Fl.str).f zK)), .fz (.gi 4), .blk b20 [.int .i64 0, .string (bs []), .string (bs []), .int .i64 0, .int .i64 0, .int .i64 0, .slice none 0 0] 54, .fz (.sl rCond v27 x24.Kids), .own Rp.str v29 9 x25.r.Phases, .own rMoveT v30 102 x25.r.Moves, .own rRule v31 106 x25.r.Rules, .blk b1 [.string (bs x25.text), .int .i64 x25.at_, .int .i64 x25.now.kind, .int .i64 x25.now.at_, .int .i64 x25.now.n, .string (bs x25.now.text), v29, v30, v31] 88, .blk b9 [.pointer (some ⟨b1, 0, none⟩)] 84, .blk b11 [.int .i64 p3c1] 3] := H.back [0, 1, 2, 3, 4, 5] [6, 7] rfl G36
 refine ⟨_, rfl, ?_⟩
 obtain ⟨x37, e38, hF⟩ := zG hF
 subst e38
 refine yT rfl rfl (Lx_bs (r := rCond) (xl := [x24]) (cs := [.int .i64 x24.Kind, .string (bs x24.Name), .string (bs x24.Other), .int .i64 x24.Op, .int .i64 x24.N, .int .i64 x24.Frames, v27]) u52 el54 (by decide) (by decide) rfl (xK (vs := [.agg [.int .i64 x24.Kind, .string (bs x24.Name), .string (bs x24.Other), .int .i64 x24.Op, .int .i64 x24.N, .int .i64 x24.Frames, v27].toArray]) (by decide) rfl rfl ⟨rfl, trivial⟩ rfl) H ⟨[.int .i64 x24.Kind, .string (bs x24.Name), .string (bs x24.Other), .int .i64 x24.Op, .int .i64 x24.N, .int .i64 x24.Frames, v27], [], rfl, (rCond_mk (x := x24) (H.item (i := 3) rfl)), rfl⟩) ?_
 rintro v40 w41 H
 refine zI v40 ?_
 refine (zF (zA (hK23 _ _ ?_)))
 obtain ⟨j184, hF, hK183⟩ := zD hF
 refine yO [9, 13, 14, 15, 16, 17, 18, 19, 20, 21, 22] (fun (g : Value × Value × Value × Value) => [(9, g.1)]) (fun g wl => Hd O w wl S [.own rCond g.1 54 j184.1, .fz (.at 0 0 ((Fl.arr 7 Fl.str).f zK)), .fz (.gi 4), .blk b20 [.int .i64 0, .string (bs []), .string (bs []), .int .i64 0, .int .i64 0, .int .i64 0, .slice none 0 0] 54, .blk b1 [.string (bs j184.2.1), .int .i64 j184.2.2.1, .int .i64 j184.2.2.2.1, .int .i64 j184.2.2.2.2.1, .int .i64 j184.2.2.2.2.2.1, .string (bs j184.2.2.2.2.2.2.1), g.2.1, g.2.2.1, g.2.2.2] 88, .own Rp.str g.2.1 9 j184.2.2.2.2.2.2.2.1, .own rMoveT g.2.2.1 102 j184.2.2.2.2.2.2.2.2.1, .own rRule g.2.2.2 106 j184.2.2.2.2.2.2.2.2.2, .blk b9 [.pointer (some ⟨b1, 0, none⟩)] 84, .blk b11 [.int .i64 p3c1] 3]) ?_ ?_
 ·skip
  refine yF ?_
  unfold F_event_reader_list_event_reader_cond_1_pa0d_L1 at hF
  obtain ⟨B319, n320, eB321, hF⟩ := yV hF
  refine xJ [9, 13, 14, 15, 16, 17, 18, 19, 20, 21, 22] (fun (g : Nat × (List Cond) × Str × Int × Int × Int × Int × Str × (List Str) × (List MoveT) × (List Rule) × Value × Value × Value × Value) => [(9, g.2.2.2.2.2.2.2.2.2.2.2.1)]) (fun g wl => Hd O w wl S [.own rCond g.2.2.2.2.2.2.2.2.2.2.2.1 54 g.2.1, .fz (.at 0 0 ((Fl.arr 7 Fl.str).f zK)), .fz (.gi 4), .blk b20 [.int .i64 0, .string (bs []), .string (bs []), .int .i64 0, .int .i64 0, .int .i64 0, .slice none 0 0] 54, .blk b1 [.string (bs g.2.2.1), .int .i64 g.2.2.2.1, .int .i64 g.2.2.2.2.1, .int .i64 g.2.2.2.2.2.1, .int .i64 g.2.2.2.2.2.2.1, .string (bs g.2.2.2.2.2.2.2.1), g.2.2.2.2.2.2.2.2.2.2.2.2.1, g.2.2.2.2.2.2.2.2.2.2.2.2.2.1, g.2.2.2.2.2.2.2.2.2.2.2.2.2.2] 88, .own Rp.str g.2.2.2.2.2.2.2.2.2.2.2.2.1 9 g.2.2.2.2.2.2.2.2.1, .own rMoveT g.2.2.2.2.2.2.2.2.2.2.2.2.2.1 102 g.2.2.2.2.2.2.2.2.2.1, .own rRule g.2.2.2.2.2.2.2.2.2.2.2.2.2.2 106 g.2.2.2.2.2.2.2.2.2.2.1, .blk b9 [.pointer (some ⟨b1, 0, none⟩)] 84, .blk b11 [.int .i64 p3c1] 3] ∧ loopN B319 g.1 (g.2.1, g.2.2.1, g.2.2.2.1, g.2.2.2.2.1, g.2.2.2.2.2.1, g.2.2.2.2.2.2.1, g.2.2.2.2.2.2.2.1, g.2.2.2.2.2.2.2.2.1, g.2.2.2.2.2.2.2.2.2.1, g.2.2.2.2.2.2.2.2.2.2.1) = some j184) (fun g => g.1) (n320, ([x24] : List Cond), x25.text, x25.at_, x25.now.kind, x25.now.at_, x25.now.n, x25.now.text, x25.r.Phases, x25.r.Moves, x25.r.Rules, v40, v29, v30, v31) (zL rfl zO) ⟨H.pick [10, 0, 1, 2, 7, 4, 5, 6, 8, 9] (by decide), hF⟩ ?_
  clear H hF
  rintro ⟨n320, g302, g304, g305, g306, g307, g308, g309, g311, g314, g317, v303, v312, v315, v318⟩ ρ w323 ⟨H, hF⟩
  obtain ⟨n324, rfl, hF⟩ := xB hF
  have hF := yZ eB321 hF
  refine zC fun K333 hK333 => ?_
  refine zC fun K334 hK334 => ?_
  refine zB ?_
  refine zN (.pointer (some ⟨b1, 0, none⟩)) ?_
  refine zN (.string (bs p1)) ?_
  have H335 := H
  have H := H.freezeB (i := 4) rfl
  have H := H.freeze (i := 5) rfl
  have H := H.freeze (i := 6) rfl
  have H := H.freeze (i := 7) rfl
  have H := H.fz (.pt rEventReader (some ⟨b1, 0, none⟩) (some (EventReader.mk g304 g305 (EventToken.mk g306 g307 g308 g309) (Rules.mk g311 g314 g317)))) ⟨_, _, _, rfl, (H.item (i := 4) rfl).1, (H.item (i := 4) rfl).2.1, (wB (x := EventReader.mk g304 g305 (EventToken.mk g306 g307 g308 g309) (Rules.mk g311 g314 g317)) (H.item (i := 5) rfl) (H.item (i := 6) rfl) (H.item (i := 7) rfl)), (H.item (i := 4) rfl).2.2⟩
  obtain ⟨x337, e338, hF⟩ := zD hF
  refine zW rfl rfl (zT en88 rfl) (F_event_reader_is_w (some (EventReader.mk g304 g305 (EventToken.mk g306 g307 g308 g309) (Rules.mk g311 g314 g317))) p1 (some ⟨b1, 0, none⟩) _ e338 _ _ _ (H.enter [] [10] (by decide) rfl)) ?_
  rintro _ w339 ⟨rfl, G340⟩
  have H := H335.step (G340.only : Only [] _ _)
  refine ⟨_, rfl, ?_⟩
  refine (zF (zA (hK334 _ _ ?_)))
  refine zZ (b := x337) rfl (fun c341 => ?_) (fun c341 => ?_)
  ·have hF := zQ c341 hF
   refine (yA (zA (hK333 _ _ ?_)))
   refine yF ?_
   refine zC fun K342 hK342 => ?_
   refine zB ?_
   refine zN (.pointer (some ⟨b1, 0, none⟩)) ?_
   obtain ⟨x343, e344, hF⟩ := zD hF
   refine zW rfl rfl (zT en87 rfl) (F_event_reader_advance_w (EventReader.mk g304 g305 (EventToken.mk g306 g307 g308 g309) (Rules.mk g311 g314 g317)) b1 v312 v315 v318 _ e344 _ _ _ (H.enter [5, 6, 7, 4] [2] (by decide) rfl)) ?_
   rintro _ w351 ⟨v345, v346, v347, rfl, G352⟩
   have H : Hd O _ w351 _ [.own rCond v303 54 g302, .fz (.at 0 0 ((Fl.arr 7 Fl.str).f zK)), .fz (.gi 4), .blk b20 [.int .i64 0, .string (bs []), .string (bs []), .int .i64 0, .int .i64 0, .int .i64 0, .slice none 0 0] 54, .blk b9 [.pointer (some ⟨b1, 0, none⟩)] 84, .blk b11 [.int .i64 p3c1] 3, .own Rp.str v345 9 x343.r.Phases, .own rMoveT v346 102 x343.r.Moves, .own rRule v347 106 x343.r.Rules, .blk b1 [.string (bs x343.text), .int .i64 x343.at_, .int .i64 x343.now.kind, .int .i64 x343.now.at_, .int .i64 x343.now.n, .string (bs x343.now.text), v345, v346, v347] 88] := H.back [5, 6, 7, 4] [2] rfl G352
   refine ⟨_, rfl, ?_⟩
   refine (zF (zA (hK342 _ _ ?_)))
   refine zB ?_
   refine zN v303 ?_
   refine zN (.func (.func 142) #[] #[.pointer (some ⟨b9, 0, none⟩), .pointer (some ⟨b11, 0, none⟩)]) ?_
   obtain ⟨⟨x353, x354⟩, e355, hF⟩ := zD hF
   refine zW rfl rfl (wP en142 rfl rfl) (F_event_reader_cond_1_pdd_w rfB rhB x343 p3c1 b9 b1 v345 v346 v347 b11 _ e355 _ _ _ (H.enter [6, 7, 8, 9, 4, 5] [1, 2] (by decide) rfl)) ?_
   rintro _ w364 ⟨v356, v358, v359, v360, rfl, G365⟩
   have H : Hd O _ w364 _ [.own rCond v303 54 g302, .fz (.at 0 0 ((Fl.arr 7 Fl.str).f zK)), .fz (.gi 4), .blk b20 [.int .i64 0, .string (bs []), .string (bs []), .int .i64 0, .int .i64 0, .int .i64 0, .slice none 0 0] 54, .fz (.sl rCond v356 x353.Kids), .own Rp.str v358 9 x354.r.Phases, .own rMoveT v359 102 x354.r.Moves, .own rRule v360 106 x354.r.Rules, .blk b1 [.string (bs x354.text), .int .i64 x354.at_, .int .i64 x354.now.kind, .int .i64 x354.now.at_, .int .i64 x354.now.n, .string (bs x354.now.text), v358, v359, v360] 88, .blk b9 [.pointer (some ⟨b1, 0, none⟩)] 84, .blk b11 [.int .i64 p3c1] 3] := H.back [6, 7, 8, 9, 4, 5] [1, 2] rfl G365
   refine ⟨_, rfl, ?_⟩
   obtain ⟨x366, e367, hF⟩ := zG hF
   subst e367
   refine yT rfl rfl (Lx_bs (r := rCond) (xl := [x353]) (cs := [.int .i64 x353.Kind, .string (bs x353.Name), .string (bs x353.Other), .int .i64 x353.Op, .int .i64 x353.N, .int .i64 x353.Frames, v356]) u52 el54 (by decide) (by decide) rfl (xK (vs := [.agg [.int .i64 x353.Kind, .string (bs x353.Name), .string (bs x353.Other), .int .i64 x353.Op, .int .i64 x353.N, .int .i64 x353.Frames, v356].toArray]) (by decide) rfl rfl ⟨rfl, trivial⟩ rfl) H ⟨[.int .i64 x353.Kind, .string (bs x353.Name), .string (bs x353.Other), .int .i64 x353.Op, .int .i64 x353.N, .int .i64 x353.Frames, v356], [], rfl, (rCond_mk (x := x353) (H.item (i := 4) rfl)), rfl⟩) ?_
   rintro v369 w370 H
   obtain ⟨x371, e372, hF⟩ := zD hF
   refine yT rfl rfl (Lx_app H (i := 0) rfl u52 el54 rfl rfl (Sr.of_own (H.item (i := 11) rfl)) e372) ?_
   rintro v373 w374 H
   refine zI v373 ?_
   exact (zF (yU (zA (meet ⟨(n324, x371, x354.text, x354.at_, x354.now.kind, x354.now.at_, x354.now.n, x354.now.text, x354.r.Phases, x354.r.Moves, x354.r.Rules, v373, v358, v359, v360), (zL rfl zO), ⟨H.pick [0, 1, 2, 3, 8, 5, 6, 7, 9, 10] (by decide), hF⟩, Nat.lt_succ_self _⟩))))
  have hF := zS c341 hF
  obtain rfl := someI hF
  exact (xP (yR (yR (xA (zA (meet ⟨(v303, v312, v315, v318), (zL rfl zO), H.pick [0, 1, 2, 3, 4, 5, 6, 7, 8, 9] (by decide)⟩))))))
 rintro ⟨v166, v175, v178, v181⟩ ρ w182 H
 have hF := hK183
 obtain ⟨g165, g167, g168, g169, g170, g171, g172, g174, g177, g180⟩ := j184
 refine zC fun K400 hK400 => ?_
 refine zC fun K401 hK401 => ?_
 refine zB ?_
 refine zN v166 ?_
 obtain ⟨x402, e403, hF⟩ := zG hF
 obtain ⟨a404, c405, q406⟩ := Sr.len (Sr.of_own (H.item (i := 0) rfl))
 refine zH (yL (xW u52 q406) (congrArg (Value.int .i64) e403)) ?_
 obtain ⟨x407, e408, hF⟩ := zG hF
 refine zH (zV (xH (a := x402) (b := 1) rfl rfl) e408) ?_
 refine (zF (zA (hK401 _ _ ?_)))
 refine zZ (b := x407) rfl (fun c409 => ?_) (fun c409 => ?_)
 ·have hF := zQ c409 hF
  refine zC fun K410 hK410 => ?_
  refine zB ?_
  refine zN v166 ?_
  obtain ⟨x411, e412, hF⟩ := zD hF
  obtain ⟨b413, c415, cs416, q417, h420, h421⟩ := own_at (H.item (i := 0) rfl) e412
  obtain ⟨v422, rfl, h423⟩ := wK h420
  have H := H.fzs [.sl rCond v422 x411.Kids] ⟨h423, trivial⟩
  refine zH (xY u52 sz54 q417 rfl (yN e412).1 (yN e412).2.1 rfl rfl) ?_
  refine zH (yL (yH (cs := [.int .i64 x411.Kind, .string (bs x411.Name), .string (bs x411.Other), .int .i64 x411.Op, .int .i64 x411.N, .int .i64 x411.Frames, v422]) agg54 rfl sz54 rfl h421) rfl) ?_
  refine yS rfl (yI (vs := [.int .i64 x411.Kind, .string (bs x411.Name), .string (bs x411.Other), .int .i64 x411.Op, .int .i64 x411.N, .int .i64 x411.Frames, v422]) H 3 rfl sz54 rfl rfl rfl ⟨rfl, rfl, rfl, rfl, rfl, rfl, (xR (H.item (i := 10) rfl)), trivial⟩ rfl) ?_
  rintro w425 H
  refine (zF (zA (hK410 _ _ ?_)))
  obtain rfl := someI hF
  refine (yB (zX (postc  rfl rfl (yD agg54 sz54 rfl (Blk.cells (H.item (i := 3) rfl))) ?_)))
  exact ⟨v422, v175, v178, v181, rfl, H.pick [10, 5, 6, 7, 4, 8, 9] (by decide)⟩
 have hF := zS c409 hF
 refine (yA (zA (hK400 _ _ ?_)))
 refine zC fun K426 hK426 => ?_
 refine zB ?_
 refine zN (.int .i64 p2) ?_
 refine zN v166 ?_
 obtain ⟨a427, c428, q429⟩ : ∃ a c, v166 = .slice a _ c := Sr.len (Sr.of_own (H.item (i := 0) rfl))
 refine zH (xN (cs := [.int .i64 p2, .string (bs []), .string (bs []), .int .i64 0, .int .i64 0, .int .i64 0, v166]) (by rw [q429]; exact bt54_0_6 _ a427 _ c428)) ?_
 refine yS rfl (yI (vs := [.int .i64 p2, .string (bs []), .string (bs []), .int .i64 0, .int .i64 0, .int .i64 0, v166]) H 3 rfl sz54 rfl rfl rfl ⟨rfl, rfl, rfl, rfl, rfl, rfl, (xU (H.item (i := 0) rfl)), trivial⟩ rfl) ?_
 rintro w430 H
 refine (zF (zA (hK426 _ _ ?_)))
 have H := H.freeze (i := 0) rfl
 obtain rfl := someI hF
 refine (yB (postc  rfl rfl (yD agg54 sz54 rfl (Blk.cells (H.item (i := 3) rfl))) ?_))
 exact ⟨v166, v175, v178, v181, rfl, H.pick [0, 5, 6, 7, 4, 8, 9] (by decide)⟩
set_option maxHeartbeats 4000000 in
theorem F_event_reader_cond_B_w (rfB : EventReader → Int → Option (Cond × EventReader)) (rhB : S_event_reader_cond rfB) (p0 : EventReader) (p1 : Int) (b1 : Nat) (v2 : Value) (v3 : Value) (v4 : Value) (r : Cond × EventReader) (hF : F_event_reader_cond_B rfB p0 p1 = some r) (O S : List Nat) (w : World) (H : Hd O w w S [.own Rp.str v2 9 p0.r.Phases, .own rMoveT v3 102 p0.r.Moves, .own rRule v4 106 p0.r.Rules, .blk b1 [.string (bs p0.text), .int .i64 p0.at_, .int .i64 p0.now.kind, .int .i64 p0.now.at_, .int .i64 p0.now.n, .string (bs p0.now.text), v2, v3, v4] 88, .fz (.at 0 0 ((Fl.arr 7 Fl.str).f zK)), .fz (.gi 4)]) :
  Calls Tryz.prog 91 ([.pointer (some ⟨b1, 0, none⟩), .int .i64 p1] : List Value).toArray w fun e w' => ∃ u11 u12 u13 u14, e = .returned (.agg [.int .i64 r.1.Kind, .string (bs r.1.Name), .string (bs r.1.Other), .int .i64 r.1.Op, .int .i64 r.1.N, .int .i64 r.1.Frames, u11].toArray) ∧ Hd O w w' S [.fz (.sl rCond u11 r.1.Kids), .own Rp.str u12 9 r.2.r.Phases, .own rMoveT u13 102 r.2.r.Moves, .own rRule u14 106 r.2.r.Rules, .blk b1 [.string (bs r.2.text), .int .i64 r.2.at_, .int .i64 r.2.now.kind, .int .i64 r.2.now.at_, .int .i64 r.2.now.n, .string (bs r.2.now.text), u12, u13, u14] 88] := by
 unfold F_event_reader_cond_B at hF
 refine yC 8 Tryz.func91 rfl rfl rfl ?_
 refine zC fun K15 hK15 => ?_
 refine zB ?_
 refine yT rfl rfl (Lx_box1 rfl rfl H) ?_
 rintro _ w18 ⟨b16, rfl, H⟩
 refine yT rfl rfl (Lx_box1 rfl rfl H) ?_
 rintro _ w21 ⟨b19, rfl, H⟩
 refine yT rfl rfl (xG zero54 H) ?_
 rintro _ w24 ⟨b22, rfl, H⟩
 refine (zF (zA (hK15 _ _ ?_)))
 refine zC fun K25 hK25 => ?_
 refine zB ?_
 refine zH (zM one84 rfl (Cells.get (Blk.cells (H.item (i := 6) rfl)) (i := 0) rfl)) ?_
 refine zH (Do_makeFunc rfl) ?_
 obtain ⟨⟨x26, x27⟩, e28, hF⟩ := zD hF
 refine zW rfl rfl (zT en141 rfl) (F_event_reader_list_event_reader_cond_1_pa0d_w rfB rhB p0 [111, 114] 10 p1 b1 v2 v3 v4 b16 b19 _ e28 _ _ _ (H.enter [0, 1, 2, 3, 6, 7] [4, 5] (by decide) rfl)) ?_
 rintro _ w37 ⟨v29, v31, v32, v33, rfl, G38⟩
 have H : Hd O _ w37 _ [.fz (.at 0 0 ((Fl.arr 7 Fl.str).f zK)), .fz (.gi 4), .blk b22 [.int .i64 0, .string (bs []), .string (bs []), .int .i64 0, .int .i64 0, .int .i64 0, .slice none 0 0] 54, .fz (.sl rCond v29 x26.Kids), .own Rp.str v31 9 x27.r.Phases, .own rMoveT v32 102 x27.r.Moves, .own rRule v33 106 x27.r.Rules, .blk b1 [.string (bs x27.text), .int .i64 x27.at_, .int .i64 x27.now.kind, .int .i64 x27.now.at_, .int .i64 x27.now.n, .string (bs x27.now.text), v31, v32, v33] 88, .blk b16 [.pointer (some ⟨b1, 0, none⟩)] 84, .blk b19 [.int .i64 p1] 3] := H.back [0, 1, 2, 3, 6, 7] [4, 5] rfl G38
 refine ⟨_, rfl, ?_⟩
 refine yS rfl (yI (vs := [.int .i64 x26.Kind, .string (bs x26.Name), .string (bs x26.Other), .int .i64 x26.Op, .int .i64 x26.N, .int .i64 x26.Frames, v29]) H 2 rfl sz54 rfl rfl rfl ⟨rfl, rfl, rfl, rfl, rfl, rfl, (xR (H.item (i := 3) rfl)), trivial⟩ rfl) ?_
 rintro w39 H
 refine (zF (zA (hK25 _ _ ?_)))
 obtain rfl := someI hF
 refine (yB (postc  rfl rfl (yD agg54 sz54 rfl (Blk.cells (H.item (i := 2) rfl))) ?_))
 exact ⟨v29, v31, v32, v33, rfl, H.pick [3, 4, 5, 6, 7] (by decide)⟩
theorem F_event_reader_cond_s : S_event_reader_cond (F_event_reader_cond) := by
 have h : ∀ n, S_event_reader_cond (F_event_reader_cond_R n) := by
  intro n
  induction n with
  | zero => intro p0 p1 b1 v2 v3 v4 r hF; cases hF
  | succ n ih => intro p0 p1 b1 v2 v3 v4 r hF; exact F_event_reader_cond_B_w (F_event_reader_cond_R n) ih p0 p1 b1 v2 v3 v4 r hF
 exact h FU
set_option maxHeartbeats 4000000 in
theorem F_event_reader_rules_w (p0 : EventReader) (b1 : Nat) (v2 : Value) (v3 : Value) (v4 : Value) (r : EventReader) (hF : F_event_reader_rules p0 = some r) (O S : List Nat) (w : World) (H : Hd O w w S [.own Rp.str v2 9 p0.r.Phases, .own rMoveT v3 102 p0.r.Moves, .own rRule v4 106 p0.r.Rules, .blk b1 [.string (bs p0.text), .int .i64 p0.at_, .int .i64 p0.now.kind, .int .i64 p0.now.at_, .int .i64 p0.now.n, .string (bs p0.now.text), v2, v3, v4] 88, .fz (.at 0 0 ((Fl.arr 7 Fl.str).f zK)), .fz (.gi 4)]) :
  Calls Tryz.prog 39 ([.pointer (some ⟨b1, 0, none⟩)] : List Value).toArray w fun e w' => ∃ u11 u12 u13, e = .returned (.tuple #[]) ∧ Hd O w w' S [.own Rp.str u11 9 r.r.Phases, .own rMoveT u12 102 r.r.Moves, .own rRule u13 106 r.r.Rules, .blk b1 [.string (bs r.text), .int .i64 r.at_, .int .i64 r.now.kind, .int .i64 r.now.at_, .int .i64 r.now.n, .string (bs r.now.text), u11, u12, u13] 88] := by
 unfold F_event_reader_rules at hF
 refine yC 81 Tryz.func39 rfl rfl rfl ?_
 obtain ⟨j104, hF, hK103⟩ := zD hF
 refine yO [4, 5, 6, 7, 8, 9, 10, 11, 12, 13, 14, 15, 16, 17, 18, 19, 20, 21, 22] (fun (g : Value × Value × Value) => []) (fun g wl => Hd O w wl S [.blk b1 [.string (bs j104.1), .int .i64 j104.2.1, .int .i64 j104.2.2.1, .int .i64 j104.2.2.2.1, .int .i64 j104.2.2.2.2.1, .string (bs j104.2.2.2.2.2.1), g.1, g.2.1, g.2.2] 88, .own Rp.str g.1 9 j104.2.2.2.2.2.2.1, .own rMoveT g.2.1 102 j104.2.2.2.2.2.2.2.1, .own rRule g.2.2 106 j104.2.2.2.2.2.2.2.2, .fz (.at 0 0 ((Fl.arr 7 Fl.str).f zK)), .fz (.gi 4)]) ?_ ?_
 ·skip
  refine zC fun K105 hK105 => ?_
  refine zB ?_
  refine zN (.pointer (some ⟨b1, 0, none⟩)) ?_
  obtain ⟨x106, e107, hF⟩ := zD hF
  refine zW rfl rfl (zT en87 rfl) (F_event_reader_advance_w p0 b1 v2 v3 v4 _ e107 _ _ _ (H.enter [0, 1, 2, 3] [5] (by decide) rfl)) ?_
  rintro _ w114 ⟨v108, v109, v110, rfl, G115⟩
  have H : Hd O _ w114 _ [.fz (.at 0 0 ((Fl.arr 7 Fl.str).f zK)), .fz (.gi 4), .own Rp.str v108 9 x106.r.Phases, .own rMoveT v109 102 x106.r.Moves, .own rRule v110 106 x106.r.Rules, .blk b1 [.string (bs x106.text), .int .i64 x106.at_, .int .i64 x106.now.kind, .int .i64 x106.now.at_, .int .i64 x106.now.n, .string (bs x106.now.text), v108, v109, v110] 88] := H.back [0, 1, 2, 3] [5] rfl G115
  refine ⟨_, rfl, ?_⟩
  refine (zF (zA (hK105 _ _ ?_)))
  refine yF ?_
  unfold F_event_reader_rules_L1 at hF
  obtain ⟨B172, n173, eB174, hF⟩ := yV hF
  refine xJ [6, 7, 8, 9, 10, 11, 12, 13, 14, 15, 16, 17, 18, 19, 20, 21, 22] (fun (g : Nat) => []) (fun g wl => Hd O w wl S [.fz (.at 0 0 ((Fl.arr 7 Fl.str).f zK)), .fz (.gi 4), .own Rp.str v108 9 x106.r.Phases, .own rMoveT v109 102 x106.r.Moves, .own rRule v110 106 x106.r.Rules, .blk b1 [.string (bs x106.text), .int .i64 x106.at_, .int .i64 x106.now.kind, .int .i64 x106.now.at_, .int .i64 x106.now.n, .string (bs x106.now.text), v108, v109, v110] 88] ∧ loopN B172 g () = some j104) (fun g => g) n173 zO ⟨H.pick [0, 1, 2, 3, 4, 5] (by decide), hF⟩ ?_
  clear H hF
  rintro n173 ρ w176 ⟨H, hF⟩
  obtain ⟨n177, rfl, hF⟩ := xB hF
  have hF := yZ eB174 hF
  refine zC fun K186 hK186 => ?_
  refine zC fun K187 hK187 => ?_
  refine zB ?_
  refine zN (.pointer (some ⟨b1, 0, none⟩)) ?_
  have H188 := H
  have H := H.freezeB (i := 5) rfl
  have H := H.freeze (i := 2) rfl
  have H := H.freeze (i := 3) rfl
  have H := H.freeze (i := 4) rfl
  have H := H.fz (.pt rEventReader (some ⟨b1, 0, none⟩) (some x106)) ⟨_, _, _, rfl, (H.item (i := 5) rfl).1, (H.item (i := 5) rfl).2.1, (wB (x := x106) (H.item (i := 2) rfl) (H.item (i := 3) rfl) (H.item (i := 4) rfl)), (H.item (i := 5) rfl).2.2⟩
  obtain ⟨x190, e191, hF⟩ := zD hF
  refine zW rfl rfl (zT en88 rfl) (F_event_reader_is_w (some x106) [112, 104, 97, 115, 101] (some ⟨b1, 0, none⟩) _ e191 _ _ _ (H.enter [] [6] (by decide) rfl)) ?_
  rintro _ w192 ⟨rfl, G193⟩
  have H := H188.step (G193.only : Only [] _ _)
  refine ⟨_, rfl, ?_⟩
  refine (zF (zA (hK187 _ _ ?_)))
  refine zZ (b := x190) rfl (fun c194 => ?_) (fun c194 => ?_)
  ·have hF := zQ c194 hF
   refine (yA (zA (hK186 _ _ ?_)))
   refine yF ?_
   refine zC fun K195 hK195 => ?_
   refine zB ?_
   refine zN (.pointer (some ⟨b1, 0, none⟩)) ?_
   obtain ⟨x196, e197, hF⟩ := zD hF
   refine zW rfl rfl (zT en87 rfl) (F_event_reader_advance_w x106 b1 v108 v109 v110 _ e197 _ _ _ (H.enter [2, 3, 4, 5] [1] (by decide) rfl)) ?_
   rintro _ w204 ⟨v198, v199, v200, rfl, G205⟩
   have H : Hd O _ w204 _ [.fz (.at 0 0 ((Fl.arr 7 Fl.str).f zK)), .fz (.gi 4), .own Rp.str v198 9 x196.r.Phases, .own rMoveT v199 102 x196.r.Moves, .own rRule v200 106 x196.r.Rules, .blk b1 [.string (bs x196.text), .int .i64 x196.at_, .int .i64 x196.now.kind, .int .i64 x196.now.at_, .int .i64 x196.now.n, .string (bs x196.now.text), v198, v199, v200] 88] := H.back [2, 3, 4, 5] [1] rfl G205
   refine ⟨_, rfl, ?_⟩
   refine (zF (zA (hK195 _ _ ?_)))
   cases hF
  have hF := zS c194 hF
  obtain rfl := someI hF
  exact (xP (yR (yR (xA (zA (meet ⟨(v108, v109, v110), zO, H.pick [5, 2, 3, 4, 0, 1] (by decide)⟩))))))
 rintro ⟨v95, v98, v101⟩ ρ w102 H
 have hF := hK103
 obtain ⟨g87, g88, g89, g90, g91, g92, g94, g97, g100⟩ := j104
 obtain ⟨j432, hF, hK431⟩ := zD hF
 refine yO [2, 23, 24, 25, 26, 27, 28, 29, 30, 31, 32, 33, 34, 35, 36, 37, 38, 39, 40, 41, 42, 43, 44, 45, 46, 47, 48] (fun (g : Value × Value × Value) => []) (fun g wl => Hd O w wl S [.blk b1 [.string (bs j432.1), .int .i64 j432.2.1, .int .i64 j432.2.2.1, .int .i64 j432.2.2.2.1, .int .i64 j432.2.2.2.2.1, .string (bs j432.2.2.2.2.2.1), g.1, g.2.1, g.2.2] 88, .own Rp.str g.1 9 j432.2.2.2.2.2.2.1, .own rMoveT g.2.1 102 j432.2.2.2.2.2.2.2.1, .own rRule g.2.2 106 j432.2.2.2.2.2.2.2.2, .fz (.at 0 0 ((Fl.arr 7 Fl.str).f zK)), .fz (.gi 4)]) ?_ ?_
 ·skip
  refine yF ?_
  unfold F_event_reader_rules_L2 at hF
  obtain ⟨B651, n652, eB653, hF⟩ := yV hF
  refine xJ [2, 23, 24, 25, 26, 27, 28, 29, 30, 31, 32, 33, 34, 35, 36, 37, 38, 39, 40, 41, 42, 43, 44, 45, 46, 47, 48] (fun (g : Nat × Str × Int × Int × Int × Int × Str × (List Str) × (List MoveT) × (List Rule) × Value × Value × Value) => []) (fun g wl => Hd O w wl S [.blk b1 [.string (bs g.2.1), .int .i64 g.2.2.1, .int .i64 g.2.2.2.1, .int .i64 g.2.2.2.2.1, .int .i64 g.2.2.2.2.2.1, .string (bs g.2.2.2.2.2.2.1), g.2.2.2.2.2.2.2.2.2.2.1, g.2.2.2.2.2.2.2.2.2.2.2.1, g.2.2.2.2.2.2.2.2.2.2.2.2] 88, .own Rp.str g.2.2.2.2.2.2.2.2.2.2.1 9 g.2.2.2.2.2.2.2.1, .own rMoveT g.2.2.2.2.2.2.2.2.2.2.2.1 102 g.2.2.2.2.2.2.2.2.1, .own rRule g.2.2.2.2.2.2.2.2.2.2.2.2 106 g.2.2.2.2.2.2.2.2.2.1, .fz (.at 0 0 ((Fl.arr 7 Fl.str).f zK)), .fz (.gi 4)] ∧ loopN B651 g.1 (g.2.1, g.2.2.1, g.2.2.2.1, g.2.2.2.2.1, g.2.2.2.2.2.1, g.2.2.2.2.2.2.1, g.2.2.2.2.2.2.2.1, g.2.2.2.2.2.2.2.2.1, g.2.2.2.2.2.2.2.2.2.1) = some j432) (fun g => g.1) (n652, g87, g88, g89, g90, g91, g92, g94, g97, g100, v95, v98, v101) zO ⟨H.pick [0, 1, 2, 3, 4, 5] (by decide), hF⟩ ?_
  clear H hF
  rintro ⟨n652, g636, g637, g638, g639, g640, g641, g643, g646, g649, v644, v647, v650⟩ ρ w655 ⟨H, hF⟩
  obtain ⟨n656, rfl, hF⟩ := xB hF
  have hF := yZ eB653 hF
  refine zC fun K665 hK665 => ?_
  refine zC fun K666 hK666 => ?_
  refine zB ?_
  refine zN (.pointer (some ⟨b1, 0, none⟩)) ?_
  have H667 := H
  have H := H.freezeB (i := 0) rfl
  have H := H.freeze (i := 1) rfl
  have H := H.freeze (i := 2) rfl
  have H := H.freeze (i := 3) rfl
  have H := H.fz (.pt rEventReader (some ⟨b1, 0, none⟩) (some (EventReader.mk g636 g637 (EventToken.mk g638 g639 g640 g641) (Rules.mk g643 g646 g649)))) ⟨_, _, _, rfl, (H.item (i := 0) rfl).1, (H.item (i := 0) rfl).2.1, (wB (x := EventReader.mk g636 g637 (EventToken.mk g638 g639 g640 g641) (Rules.mk g643 g646 g649)) (H.item (i := 1) rfl) (H.item (i := 2) rfl) (H.item (i := 3) rfl)), (H.item (i := 0) rfl).2.2⟩
  obtain ⟨x669, e670, hF⟩ := zD hF
  refine zW rfl rfl (zT en88 rfl) (F_event_reader_is_w (some (EventReader.mk g636 g637 (EventToken.mk g638 g639 g640 g641) (Rules.mk g643 g646 g649))) [109, 111, 118, 101] (some ⟨b1, 0, none⟩) _ e670 _ _ _ (H.enter [] [6] (by decide) rfl)) ?_
  rintro _ w671 ⟨rfl, G672⟩
  have H := H667.step (G672.only : Only [] _ _)
  refine ⟨_, rfl, ?_⟩
  refine (zF (zA (hK666 _ _ ?_)))
  refine zZ (b := x669) rfl (fun c673 => ?_) (fun c673 => ?_)
  ·have hF := zQ c673 hF
   refine (yA (zA (hK665 _ _ ?_)))
   refine yF ?_
   refine zC fun K674 hK674 => ?_
   refine zB ?_
   refine zN (.pointer (some ⟨b1, 0, none⟩)) ?_
   obtain ⟨x675, e676, hF⟩ := zD hF
   refine zW rfl rfl (zT en87 rfl) (F_event_reader_advance_w (EventReader.mk g636 g637 (EventToken.mk g638 g639 g640 g641) (Rules.mk g643 g646 g649)) b1 v644 v647 v650 _ e676 _ _ _ (H.enter [1, 2, 3, 0] [5] (by decide) rfl)) ?_
   rintro _ w683 ⟨v677, v678, v679, rfl, G684⟩
   have H : Hd O _ w683 _ [.fz (.at 0 0 ((Fl.arr 7 Fl.str).f zK)), .fz (.gi 4), .own Rp.str v677 9 x675.r.Phases, .own rMoveT v678 102 x675.r.Moves, .own rRule v679 106 x675.r.Rules, .blk b1 [.string (bs x675.text), .int .i64 x675.at_, .int .i64 x675.now.kind, .int .i64 x675.now.at_, .int .i64 x675.now.n, .string (bs x675.now.text), v677, v678, v679] 88] := H.back [1, 2, 3, 0] [5] rfl G684
   refine ⟨_, rfl, ?_⟩
   refine (zF (zA (hK674 _ _ ?_)))
   refine zC fun K685 hK685 => ?_
   refine zB ?_
   refine zN (.pointer (some ⟨b1, 0, none⟩)) ?_
   obtain ⟨⟨x686, x687⟩, e688, hF⟩ := zD hF
   refine zW rfl rfl (zT en89 rfl) (F_event_reader_name_w x675 b1 v677 v678 v679 _ e688 _ _ _ (H.enter [2, 3, 4, 5] [1] (by decide) rfl)) ?_
   rintro _ w695 ⟨v689, v690, v691, rfl, G696⟩
   have H : Hd O _ w695 _ [.fz (.at 0 0 ((Fl.arr 7 Fl.str).f zK)), .fz (.gi 4), .own Rp.str v689 9 x687.r.Phases, .own rMoveT v690 102 x687.r.Moves, .own rRule v691 106 x687.r.Rules, .blk b1 [.string (bs x687.text), .int .i64 x687.at_, .int .i64 x687.now.kind, .int .i64 x687.now.at_, .int .i64 x687.now.n, .string (bs x687.now.text), v689, v690, v691] 88] := H.back [2, 3, 4, 5] [1] rfl G696
   refine ⟨_, rfl, ?_⟩
   refine zN (.pointer (some ⟨b1, 0, none⟩)) ?_
   obtain ⟨⟨x697, x698⟩, e699, hF⟩ := zD hF
   refine zW rfl rfl (zT en89 rfl) (F_event_reader_name_w x687 b1 v689 v690 v691 _ e699 _ _ _ (H.enter [2, 3, 4, 5] [1] (by decide) rfl)) ?_
   rintro _ w706 ⟨v700, v701, v702, rfl, G707⟩
   have H : Hd O _ w706 _ [.fz (.at 0 0 ((Fl.arr 7 Fl.str).f zK)), .fz (.gi 4), .own Rp.str v700 9 x698.r.Phases, .own rMoveT v701 102 x698.r.Moves, .own rRule v702 106 x698.r.Rules, .blk b1 [.string (bs x698.text), .int .i64 x698.at_, .int .i64 x698.now.kind, .int .i64 x698.now.at_, .int .i64 x698.now.n, .string (bs x698.now.text), v700, v701, v702] 88] := H.back [2, 3, 4, 5] [1] rfl G707
   refine ⟨_, rfl, ?_⟩
   refine zH (xN (cs := [.string (bs x686), .string (bs x697), .int .i64 0, .string (bs []), .string (bs []), .int .i64 0, .int .i64 0, .int .i64 0, .slice none 0 0]) (bt102_0_1 _ _)) ?_
   refine yT rfl rfl (xG zero102 H) ?_
   rintro _ w710 ⟨b708, rfl, H⟩
   refine yS rfl (yI (vs := [.string (bs x686), .string (bs x697), .int .i64 0, .string (bs []), .string (bs []), .int .i64 0, .int .i64 0, .int .i64 0, .slice none 0 0]) H 6 rfl sz102 rfl rfl rfl ⟨rfl, rfl, rfl, rfl, rfl, rfl, rfl, rfl, rfl, trivial⟩ rfl) ?_
   rintro w711 H
   refine (zF (zA (hK685 _ _ ?_)))
   refine zC fun K712 hK712 => ?_
   refine zB ?_
   refine zN (.pointer (some ⟨b1, 0, none⟩)) ?_
   obtain ⟨x713, e714, hF⟩ := zD hF
   refine zW rfl rfl (zT en90 rfl) (F_event_reader_must_w x698 [105, 102] b1 v700 v701 v702 _ e714 _ _ _ (H.enter [2, 3, 4, 5] [1] (by decide) rfl)) ?_
   rintro _ w721 ⟨v715, v716, v717, rfl, G722⟩
   have H : Hd O _ w721 _ [.fz (.at 0 0 ((Fl.arr 7 Fl.str).f zK)), .fz (.gi 4), .blk b708 [.string (bs x686), .string (bs x697), .int .i64 0, .string (bs []), .string (bs []), .int .i64 0, .int .i64 0, .int .i64 0, .slice none 0 0] 102, .own Rp.str v715 9 x713.r.Phases, .own rMoveT v716 102 x713.r.Moves, .own rRule v717 106 x713.r.Rules, .blk b1 [.string (bs x713.text), .int .i64 x713.at_, .int .i64 x713.now.kind, .int .i64 x713.now.at_, .int .i64 x713.now.n, .string (bs x713.now.text), v715, v716, v717] 88] := H.back [2, 3, 4, 5] [1] rfl G722
   refine ⟨_, rfl, ?_⟩
   refine (zF (zA (hK712 _ _ ?_)))
   refine zC fun K723 hK723 => ?_
   refine zB ?_
   refine zN (.pointer (some ⟨b1, 0, none⟩)) ?_
   obtain ⟨⟨x724, x725⟩, e726, hF⟩ := zD hF
   refine zW rfl rfl (zT en91 rfl) (F_event_reader_cond_s x713 0 b1 v715 v716 v717 _ e726 _ _ _ (H.enter [3, 4, 5, 6] [0, 1] (by decide) rfl)) ?_
   rintro _ w735 ⟨v727, v729, v730, v731, rfl, G736⟩
   have H : Hd O _ w735 _ [.fz (.at 0 0 ((Fl.arr 7 Fl.str).f zK)), .fz (.gi 4), .blk b708 [.string (bs x686), .string (bs x697), .int .i64 0, .string (bs []), .string (bs []), .int .i64 0, .int .i64 0, .int .i64 0, .slice none 0 0] 102, .fz (.sl rCond v727 x724.Kids), .own Rp.str v729 9 x725.r.Phases, .own rMoveT v730 102 x725.r.Moves, .own rRule v731 106 x725.r.Rules, .blk b1 [.string (bs x725.text), .int .i64 x725.at_, .int .i64 x725.now.kind, .int .i64 x725.now.at_, .int .i64 x725.now.n, .string (bs x725.now.text), v729, v730, v731] 88] := H.back [3, 4, 5, 6] [0, 1] rfl G736
   refine ⟨_, rfl, ?_⟩
   refine zH (fa102_2 rfl) ?_
   refine yS rfl (yI (vs := [.int .i64 x724.Kind, .string (bs x724.Name), .string (bs x724.Other), .int .i64 x724.Op, .int .i64 x724.N, .int .i64 x724.Frames, v727]) H 2 rfl sz54 rfl rfl rfl ⟨rfl, rfl, rfl, rfl, rfl, rfl, (xR (H.item (i := 3) rfl)), trivial⟩ rfl) ?_
   rintro w737 H
   refine (zF (zA (hK723 _ _ ?_)))
   have H738 := H
   have H := H.rebase
   have H739 := H
   refine WP_mix0 H [0, 1, 2, 3, 4, 5, 6, 7, 8, 9, 10, 11, 12] [.pure, .pure, .pure, .pure, .pure, .read, .read, .new, .eff, .pure, .pure, .pure, .eff] mixed (by kernel_rfl) (by kernel_rfl) (by kernel_rfl) rfl ?_
   refine Mx.zU rfl rfl rfl (fun w' hw' => xI (v := .pointer (some ⟨b1, 0, none⟩)) rfl) ?_
   refine Mx.zU rfl rfl rfl (fun w' hw' => xI (v := .pointer (some ⟨b1, 0, none⟩)) rfl) ?_
   refine Mx.zU rfl rfl rfl (fun w' hw' => yM rfl) ?_
   refine Mx.zU rfl rfl rfl (fun w' hw' => fa88_3 rfl) ?_
   refine Mx.zU rfl rfl rfl (fun w' hw' => fa26_1 rfl) ?_
   refine Mx.xC oS rfl rfl rfl (fun w' hw' => zM one23 rfl (Cells.get (Blk.cells ((H.sees hw').item (i := 7) rfl)) (i := 7) rfl)) ?_
   refine Mx.xC oS rfl rfl rfl (fun w' hw' => yL (yH (cs := [.string (bs x686), .string (bs x697), .int .i64 x724.Kind, .string (bs x724.Name), .string (bs x724.Other), .int .i64 x724.Op, .int .i64 x724.N, .int .i64 x724.Frames, v727]) agg102 rfl sz102 rfl (Blk.cells ((H.sees hw').item (i := 2) rfl))) rfl) ?_
   obtain ⟨x740, e741, hF⟩ := zG hF
   subst e741
   refine Mx.XL_exN oS rfl rfl rfl (fun w' hw' => Ls_of (Lx_bs (r := rMoveT) (xl := [MoveT.mk x686 x697 x724]) (cs := [.string (bs x686), .string (bs x697), .int .i64 x724.Kind, .string (bs x724.Name), .string (bs x724.Other), .int .i64 x724.Op, .int .i64 x724.N, .int .i64 x724.Frames, v727]) u23 el102 (by decide) (by decide) rfl (xK (vs := [.agg [.string (bs x686), .string (bs x697), .int .i64 x724.Kind, .string (bs x724.Name), .string (bs x724.Other), .int .i64 x724.Op, .int .i64 x724.N, .int .i64 x724.Frames, v727].toArray]) (by decide) rfl rfl ⟨rfl, trivial⟩ rfl) (H.sees hw') ⟨[.string (bs x686), .string (bs x697), .int .i64 x724.Kind, .string (bs x724.Name), .string (bs x724.Other), .int .i64 x724.Op, .int .i64 x724.N, .int .i64 x724.Frames, v727], [], rfl, (rMoveT_mk (x := MoveT.mk x686 x697 x724) ((H.sees hw').item (i := 3) rfl)), rfl⟩) (Ys_bs (cs := [.string (bs x686), .string (bs x697), .int .i64 x724.Kind, .string (bs x724.Name), .string (bs x724.Other), .int .i64 x724.Op, .int .i64 x724.N, .int .i64 x724.Frames, v727]) u23 el102 (by decide) (by decide) (xK (vs := [.agg [.string (bs x686), .string (bs x697), .int .i64 x724.Kind, .string (bs x724.Name), .string (bs x724.Other), .int .i64 x724.Op, .int .i64 x724.N, .int .i64 x724.Frames, v727].toArray]) (by decide) rfl rfl ⟨rfl, trivial⟩ rfl))) ?_
   rintro w' v743 w744 hw' H
   obtain ⟨x745, e746, hF⟩ := zD hF
   refine Mx.XL_ex oS rfl rfl rfl (fun w' hw' => Lx_app (H.sees hw') (i := 5) rfl u23 el102 rfl rfl (Sr.of_own ((H.sees hw').item (i := 8) rfl)) e746) ?_
   rintro w' v747 w748 hw' H
   refine ⟨H.only, ?_⟩
   refine Mx.zU rfl rfl rfl (fun w' hw' => yM rfl) ?_
   refine Mx.zU rfl rfl rfl (fun w' hw' => fa88_3 rfl) ?_
   refine Mx.zU rfl rfl rfl (fun w' hw' => fa26_1 rfl) ?_
   refine Mx.XL_exU oS rfl rfl (fun w' hw' => xM (H.sees hw') 7 rfl sz23 rfl (v := v747) rfl (xU ((H.sees hw').item (i := 5) rfl)) rfl) ?_
   rintro w' w749 hw' H
   refine ⟨H.only, ?_⟩
   refine Mx.XL_nil fun w750 hS => ?_
   have H := H.sees hS
   have H := H738.rejoin H
   exact (yU (zA (meet ⟨(n656, x725.text, x725.at_, x725.now.kind, x725.now.at_, x725.now.n, x725.now.text, x725.r.Phases, x745, x725.r.Rules, v729, v747, v731), zO, ⟨H.pick [7, 4, 5, 6, 0, 1] (by decide), hF⟩, Nat.lt_succ_self _⟩)))
  have hF := zS c673 hF
  obtain rfl := someI hF
  exact (xP (yR (yR (xA (zA (meet ⟨(v644, v647, v650), zO, H.pick [0, 1, 2, 3, 4, 5] (by decide)⟩))))))
 rintro ⟨v423, v426, v429⟩ ρ w430 H
 have hF := hK431
 obtain ⟨g415, g416, g417, g418, g419, g420, g422, g425, g428⟩ := j432
 obtain ⟨j955, hF, hK954⟩ := zD hF
 refine yO [3, 49, 50, 51, 52, 53, 54, 55, 56, 57, 58, 59, 60, 61, 62, 63, 64, 65, 66, 67, 68, 69, 70, 71, 72] (fun (g : Value × Value × Value) => []) (fun g wl => Hd O w wl S [.blk b1 [.string (bs j955.1), .int .i64 j955.2.1, .int .i64 j955.2.2.1, .int .i64 j955.2.2.2.1, .int .i64 j955.2.2.2.2.1, .string (bs j955.2.2.2.2.2.1), g.1, g.2.1, g.2.2] 88, .own Rp.str g.1 9 j955.2.2.2.2.2.2.1, .own rMoveT g.2.1 102 j955.2.2.2.2.2.2.2.1, .own rRule g.2.2 106 j955.2.2.2.2.2.2.2.2, .fz (.at 0 0 ((Fl.arr 7 Fl.str).f zK)), .fz (.gi 4)]) ?_ ?_
 ·skip
  refine yF ?_
  unfold F_event_reader_rules_L3 at hF
  obtain ⟨B1152, n1153, eB1154, hF⟩ := yV hF
  refine xJ [3, 49, 50, 51, 52, 53, 54, 55, 56, 57, 58, 59, 60, 61, 62, 63, 64, 65, 66, 67, 68, 69, 70, 71, 72] (fun (g : Nat × Str × Int × Int × Int × Int × Str × (List Str) × (List MoveT) × (List Rule) × Value × Value × Value) => []) (fun g wl => Hd O w wl S [.blk b1 [.string (bs g.2.1), .int .i64 g.2.2.1, .int .i64 g.2.2.2.1, .int .i64 g.2.2.2.2.1, .int .i64 g.2.2.2.2.2.1, .string (bs g.2.2.2.2.2.2.1), g.2.2.2.2.2.2.2.2.2.2.1, g.2.2.2.2.2.2.2.2.2.2.2.1, g.2.2.2.2.2.2.2.2.2.2.2.2] 88, .own Rp.str g.2.2.2.2.2.2.2.2.2.2.1 9 g.2.2.2.2.2.2.2.1, .own rMoveT g.2.2.2.2.2.2.2.2.2.2.2.1 102 g.2.2.2.2.2.2.2.2.1, .own rRule g.2.2.2.2.2.2.2.2.2.2.2.2 106 g.2.2.2.2.2.2.2.2.2.1, .fz (.at 0 0 ((Fl.arr 7 Fl.str).f zK)), .fz (.gi 4)] ∧ loopN B1152 g.1 (g.2.1, g.2.2.1, g.2.2.2.1, g.2.2.2.2.1, g.2.2.2.2.2.1, g.2.2.2.2.2.2.1, g.2.2.2.2.2.2.2.1, g.2.2.2.2.2.2.2.2.1, g.2.2.2.2.2.2.2.2.2.1) = some j955) (fun g => g.1) (n1153, g415, g416, g417, g418, g419, g420, g422, g425, g428, v423, v426, v429) zO ⟨H.pick [0, 1, 2, 3, 4, 5] (by decide), hF⟩ ?_
  clear H hF
  rintro ⟨n1153, g1137, g1138, g1139, g1140, g1141, g1142, g1144, g1147, g1150, v1145, v1148, v1151⟩ ρ w1156 ⟨H, hF⟩
  obtain ⟨n1157, rfl, hF⟩ := xB hF
  have hF := yZ eB1154 hF
  refine zC fun K1166 hK1166 => ?_
  refine zC fun K1167 hK1167 => ?_
  refine zB ?_
  refine zN (.pointer (some ⟨b1, 0, none⟩)) ?_
  have H1168 := H
  have H := H.freezeB (i := 0) rfl
  have H := H.freeze (i := 1) rfl
  have H := H.freeze (i := 2) rfl
  have H := H.freeze (i := 3) rfl
  have H := H.fz (.pt rEventReader (some ⟨b1, 0, none⟩) (some (EventReader.mk g1137 g1138 (EventToken.mk g1139 g1140 g1141 g1142) (Rules.mk g1144 g1147 g1150)))) ⟨_, _, _, rfl, (H.item (i := 0) rfl).1, (H.item (i := 0) rfl).2.1, (wB (x := EventReader.mk g1137 g1138 (EventToken.mk g1139 g1140 g1141 g1142) (Rules.mk g1144 g1147 g1150)) (H.item (i := 1) rfl) (H.item (i := 2) rfl) (H.item (i := 3) rfl)), (H.item (i := 0) rfl).2.2⟩
  obtain ⟨x1170, e1171, hF⟩ := zD hF
  refine zW rfl rfl (zT en88 rfl) (F_event_reader_is_w (some (EventReader.mk g1137 g1138 (EventToken.mk g1139 g1140 g1141 g1142) (Rules.mk g1144 g1147 g1150))) [114, 117, 108, 101] (some ⟨b1, 0, none⟩) _ e1171 _ _ _ (H.enter [] [6] (by decide) rfl)) ?_
  rintro _ w1172 ⟨rfl, G1173⟩
  have H := H1168.step (G1173.only : Only [] _ _)
  refine ⟨_, rfl, ?_⟩
  refine (zF (zA (hK1167 _ _ ?_)))
  refine zZ (b := x1170) rfl (fun c1174 => ?_) (fun c1174 => ?_)
  ·have hF := zQ c1174 hF
   refine (yA (zA (hK1166 _ _ ?_)))
   refine yF ?_
   refine zC fun K1175 hK1175 => ?_
   refine zB ?_
   refine zN (.pointer (some ⟨b1, 0, none⟩)) ?_
   obtain ⟨x1176, e1177, hF⟩ := zD hF
   refine zW rfl rfl (zT en87 rfl) (F_event_reader_advance_w (EventReader.mk g1137 g1138 (EventToken.mk g1139 g1140 g1141 g1142) (Rules.mk g1144 g1147 g1150)) b1 v1145 v1148 v1151 _ e1177 _ _ _ (H.enter [1, 2, 3, 0] [5] (by decide) rfl)) ?_
   rintro _ w1184 ⟨v1178, v1179, v1180, rfl, G1185⟩
   have H : Hd O _ w1184 _ [.fz (.at 0 0 ((Fl.arr 7 Fl.str).f zK)), .fz (.gi 4), .own Rp.str v1178 9 x1176.r.Phases, .own rMoveT v1179 102 x1176.r.Moves, .own rRule v1180 106 x1176.r.Rules, .blk b1 [.string (bs x1176.text), .int .i64 x1176.at_, .int .i64 x1176.now.kind, .int .i64 x1176.now.at_, .int .i64 x1176.now.n, .string (bs x1176.now.text), v1178, v1179, v1180] 88] := H.back [1, 2, 3, 0] [5] rfl G1185
   refine ⟨_, rfl, ?_⟩
   refine (zF (zA (hK1175 _ _ ?_)))
   refine zC fun K1186 hK1186 => ?_
   refine zB ?_
   refine zN (.pointer (some ⟨b1, 0, none⟩)) ?_
   obtain ⟨⟨x1187, x1188⟩, e1189, hF⟩ := zD hF
   refine zW rfl rfl (zT en89 rfl) (F_event_reader_name_w x1176 b1 v1178 v1179 v1180 _ e1189 _ _ _ (H.enter [2, 3, 4, 5] [1] (by decide) rfl)) ?_
   rintro _ w1196 ⟨v1190, v1191, v1192, rfl, G1197⟩
   have H : Hd O _ w1196 _ [.fz (.at 0 0 ((Fl.arr 7 Fl.str).f zK)), .fz (.gi 4), .own Rp.str v1190 9 x1188.r.Phases, .own rMoveT v1191 102 x1188.r.Moves, .own rRule v1192 106 x1188.r.Rules, .blk b1 [.string (bs x1188.text), .int .i64 x1188.at_, .int .i64 x1188.now.kind, .int .i64 x1188.now.at_, .int .i64 x1188.now.n, .string (bs x1188.now.text), v1190, v1191, v1192] 88] := H.back [2, 3, 4, 5] [1] rfl G1197
   refine ⟨_, rfl, ?_⟩
   refine zH (xN (cs := [.string (bs x1187), .int .i64 0, .string (bs []), .string (bs []), .int .i64 0, .int .i64 0, .int .i64 0, .slice none 0 0]) (bt106_0 _)) ?_
   refine yT rfl rfl (xG zero106 H) ?_
   rintro _ w1200 ⟨b1198, rfl, H⟩
   refine yS rfl (yI (vs := [.string (bs x1187), .int .i64 0, .string (bs []), .string (bs []), .int .i64 0, .int .i64 0, .int .i64 0, .slice none 0 0]) H 6 rfl sz106 rfl rfl rfl ⟨rfl, rfl, rfl, rfl, rfl, rfl, rfl, rfl, trivial⟩ rfl) ?_
   rintro w1201 H
   refine (zF (zA (hK1186 _ _ ?_)))
   refine zC fun K1202 hK1202 => ?_
   refine zB ?_
   refine zN (.pointer (some ⟨b1, 0, none⟩)) ?_
   obtain ⟨x1203, e1204, hF⟩ := zD hF
   refine zW rfl rfl (zT en90 rfl) (F_event_reader_must_w x1188 [105, 102] b1 v1190 v1191 v1192 _ e1204 _ _ _ (H.enter [2, 3, 4, 5] [1] (by decide) rfl)) ?_
   rintro _ w1211 ⟨v1205, v1206, v1207, rfl, G1212⟩
   have H : Hd O _ w1211 _ [.fz (.at 0 0 ((Fl.arr 7 Fl.str).f zK)), .fz (.gi 4), .blk b1198 [.string (bs x1187), .int .i64 0, .string (bs []), .string (bs []), .int .i64 0, .int .i64 0, .int .i64 0, .slice none 0 0] 106, .own Rp.str v1205 9 x1203.r.Phases, .own rMoveT v1206 102 x1203.r.Moves, .own rRule v1207 106 x1203.r.Rules, .blk b1 [.string (bs x1203.text), .int .i64 x1203.at_, .int .i64 x1203.now.kind, .int .i64 x1203.now.at_, .int .i64 x1203.now.n, .string (bs x1203.now.text), v1205, v1206, v1207] 88] := H.back [2, 3, 4, 5] [1] rfl G1212
   refine ⟨_, rfl, ?_⟩
   refine (zF (zA (hK1202 _ _ ?_)))
   refine zC fun K1213 hK1213 => ?_
   refine zB ?_
   refine zN (.pointer (some ⟨b1, 0, none⟩)) ?_
   obtain ⟨⟨x1214, x1215⟩, e1216, hF⟩ := zD hF
   refine zW rfl rfl (zT en91 rfl) (F_event_reader_cond_s x1203 0 b1 v1205 v1206 v1207 _ e1216 _ _ _ (H.enter [3, 4, 5, 6] [0, 1] (by decide) rfl)) ?_
   rintro _ w1225 ⟨v1217, v1219, v1220, v1221, rfl, G1226⟩
   have H : Hd O _ w1225 _ [.fz (.at 0 0 ((Fl.arr 7 Fl.str).f zK)), .fz (.gi 4), .blk b1198 [.string (bs x1187), .int .i64 0, .string (bs []), .string (bs []), .int .i64 0, .int .i64 0, .int .i64 0, .slice none 0 0] 106, .fz (.sl rCond v1217 x1214.Kids), .own Rp.str v1219 9 x1215.r.Phases, .own rMoveT v1220 102 x1215.r.Moves, .own rRule v1221 106 x1215.r.Rules, .blk b1 [.string (bs x1215.text), .int .i64 x1215.at_, .int .i64 x1215.now.kind, .int .i64 x1215.now.at_, .int .i64 x1215.now.n, .string (bs x1215.now.text), v1219, v1220, v1221] 88] := H.back [3, 4, 5, 6] [0, 1] rfl G1226
   refine ⟨_, rfl, ?_⟩
   refine zH (fa106_1 rfl) ?_
   refine yS rfl (yI (vs := [.int .i64 x1214.Kind, .string (bs x1214.Name), .string (bs x1214.Other), .int .i64 x1214.Op, .int .i64 x1214.N, .int .i64 x1214.Frames, v1217]) H 2 rfl sz54 rfl rfl rfl ⟨rfl, rfl, rfl, rfl, rfl, rfl, (xR (H.item (i := 3) rfl)), trivial⟩ rfl) ?_
   rintro w1227 H
   refine (zF (zA (hK1213 _ _ ?_)))
   have H1228 := H
   have H := H.rebase
   have H1229 := H
   refine WP_mix0 H [0, 1, 2, 3, 4, 5, 6, 7, 8, 9, 10, 11, 12] [.pure, .pure, .pure, .pure, .pure, .read, .read, .new, .eff, .pure, .pure, .pure, .eff] mixed (by kernel_rfl) (by kernel_rfl) (by kernel_rfl) rfl ?_
   refine Mx.zU rfl rfl rfl (fun w' hw' => xI (v := .pointer (some ⟨b1, 0, none⟩)) rfl) ?_
   refine Mx.zU rfl rfl rfl (fun w' hw' => xI (v := .pointer (some ⟨b1, 0, none⟩)) rfl) ?_
   refine Mx.zU rfl rfl rfl (fun w' hw' => yM rfl) ?_
   refine Mx.zU rfl rfl rfl (fun w' hw' => fa88_3 rfl) ?_
   refine Mx.zU rfl rfl rfl (fun w' hw' => fa26_2 rfl) ?_
   refine Mx.xC oS rfl rfl rfl (fun w' hw' => zM one24 rfl (Cells.get (Blk.cells ((H.sees hw').item (i := 7) rfl)) (i := 8) rfl)) ?_
   refine Mx.xC oS rfl rfl rfl (fun w' hw' => yL (yH (cs := [.string (bs x1187), .int .i64 x1214.Kind, .string (bs x1214.Name), .string (bs x1214.Other), .int .i64 x1214.Op, .int .i64 x1214.N, .int .i64 x1214.Frames, v1217]) agg106 rfl sz106 rfl (Blk.cells ((H.sees hw').item (i := 2) rfl))) rfl) ?_
   obtain ⟨x1230, e1231, hF⟩ := zG hF
   subst e1231
   refine Mx.XL_exN oS rfl rfl rfl (fun w' hw' => Ls_of (Lx_bs (r := rRule) (xl := [Rule.mk x1187 x1214]) (cs := [.string (bs x1187), .int .i64 x1214.Kind, .string (bs x1214.Name), .string (bs x1214.Other), .int .i64 x1214.Op, .int .i64 x1214.N, .int .i64 x1214.Frames, v1217]) u24 el106 (by decide) (by decide) rfl (xK (vs := [.agg [.string (bs x1187), .int .i64 x1214.Kind, .string (bs x1214.Name), .string (bs x1214.Other), .int .i64 x1214.Op, .int .i64 x1214.N, .int .i64 x1214.Frames, v1217].toArray]) (by decide) rfl rfl ⟨rfl, trivial⟩ rfl) (H.sees hw') ⟨[.string (bs x1187), .int .i64 x1214.Kind, .string (bs x1214.Name), .string (bs x1214.Other), .int .i64 x1214.Op, .int .i64 x1214.N, .int .i64 x1214.Frames, v1217], [], rfl, (rRule_mk (x := Rule.mk x1187 x1214) ((H.sees hw').item (i := 3) rfl)), rfl⟩) (Ys_bs (cs := [.string (bs x1187), .int .i64 x1214.Kind, .string (bs x1214.Name), .string (bs x1214.Other), .int .i64 x1214.Op, .int .i64 x1214.N, .int .i64 x1214.Frames, v1217]) u24 el106 (by decide) (by decide) (xK (vs := [.agg [.string (bs x1187), .int .i64 x1214.Kind, .string (bs x1214.Name), .string (bs x1214.Other), .int .i64 x1214.Op, .int .i64 x1214.N, .int .i64 x1214.Frames, v1217].toArray]) (by decide) rfl rfl ⟨rfl, trivial⟩ rfl))) ?_
   rintro w' v1233 w1234 hw' H
   obtain ⟨x1235, e1236, hF⟩ := zD hF
   refine Mx.XL_ex oS rfl rfl rfl (fun w' hw' => Lx_app (H.sees hw') (i := 6) rfl u24 el106 rfl rfl (Sr.of_own ((H.sees hw').item (i := 8) rfl)) e1236) ?_
   rintro w' v1237 w1238 hw' H
   refine ⟨H.only, ?_⟩
   refine Mx.zU rfl rfl rfl (fun w' hw' => yM rfl) ?_
   refine Mx.zU rfl rfl rfl (fun w' hw' => fa88_3 rfl) ?_
   refine Mx.zU rfl rfl rfl (fun w' hw' => fa26_2 rfl) ?_
   refine Mx.XL_exU oS rfl rfl (fun w' hw' => xM (H.sees hw') 7 rfl sz24 rfl (v := v1237) rfl (xU ((H.sees hw').item (i := 6) rfl)) rfl) ?_
   rintro w' w1239 hw' H
   refine ⟨H.only, ?_⟩
   refine Mx.XL_nil fun w1240 hS => ?_
   have H := H.sees hS
   have H := H1228.rejoin H
   exact (yU (zA (meet ⟨(n1157, x1215.text, x1215.at_, x1215.now.kind, x1215.now.at_, x1215.now.n, x1215.now.text, x1215.r.Phases, x1215.r.Moves, x1235, v1219, v1220, v1237), zO, ⟨H.pick [7, 4, 5, 6, 0, 1] (by decide), hF⟩, Nat.lt_succ_self _⟩)))
  have hF := zS c1174 hF
  obtain rfl := someI hF
  exact (xP (yR (yR (xA (zA (meet ⟨(v1145, v1148, v1151), zO, H.pick [0, 1, 2, 3, 4, 5] (by decide)⟩))))))
 rintro ⟨v946, v949, v952⟩ ρ w953 H
 have hF := hK954
 obtain ⟨g938, g939, g940, g941, g942, g943, g945, g948, g951⟩ := j955
 refine zC fun K1241 hK1241 => ?_
 refine zB ?_
 refine zN (.pointer (some ⟨b1, 0, none⟩)) ?_
 refine zH (yM rfl) ?_
 refine zH (fa88_2 rfl) ?_
 refine zH (fa86_0 rfl) ?_
 refine zH (zM one3 rfl (Cells.get (Blk.cells (H.item (i := 0) rfl)) (i := 2) rfl)) ?_
 obtain ⟨x1242, e1243, hF⟩ := zG hF
 refine zH (zV (Do_neq (a := g940) (b := 0) rfl rfl) e1243) ?_
 refine (zF (zA (hK1241 _ _ ?_)))
 refine zZ (b := x1242) rfl (fun c1244 => ?_) (fun c1244 => ?_)
 ·have hF := zQ c1244 hF
  refine zB ?_
  refine zN (.pointer (some ⟨b1, 0, none⟩)) ?_
  have H1245 := H
  have H := H.freezeB (i := 0) rfl
  have H := H.freeze (i := 1) rfl
  have H := H.freeze (i := 2) rfl
  have H := H.freeze (i := 3) rfl
  have H := H.fz (.pt rEventReader (some ⟨b1, 0, none⟩) (some (EventReader.mk g938 g939 (EventToken.mk g940 g941 g942 g943) (Rules.mk g945 g948 g951)))) ⟨_, _, _, rfl, (H.item (i := 0) rfl).1, (H.item (i := 0) rfl).2.1, (wB (x := EventReader.mk g938 g939 (EventToken.mk g940 g941 g942 g943) (Rules.mk g945 g948 g951)) (H.item (i := 1) rfl) (H.item (i := 2) rfl) (H.item (i := 3) rfl)), (H.item (i := 0) rfl).2.2⟩
  obtain ⟨_, e1247, hF⟩ := zD hF
  refine zW rfl rfl (zT en92 rfl) (F_event_reader_fail_w (some (EventReader.mk g938 g939 (EventToken.mk g940 g941 g942 g943) (Rules.mk g945 g948 g951))) 6 (some ⟨b1, 0, none⟩) _ e1247 _ _ _ (H.enter [] [6] (by decide) rfl)) ?_
  rintro _ w1248 ⟨rfl, G1249⟩
  have H := H1245.step (G1249.only : Only [] _ _)
  refine ⟨_, rfl, ?_⟩
  obtain rfl := someI hF
  refine (zF (post0n rfl ?_))
  exact ⟨v946, v949, v952, rfl, H.pick [1, 2, 3, 0] (by decide)⟩
 have hF := zS c1244 hF
 obtain rfl := someI hF
 refine (yA (post0n rfl ?_))
 exact ⟨v946, v949, v952, rfl, H.pick [1, 2, 3, 0] (by decide)⟩
theorem caught_idle (b : Nat) (w : World) : CallsD Tryz.prog 86 #[.pointer (some ⟨b, 0, none⟩)] .returning w fun e u' w' => e = .returned (.tuple #[]) ∧ u' = .returning ∧ w' = w := by
 refine callsD_of_wpS Tryz.func86 rfl fun c₀ cs hu => ?_
 apply wpS_seq
 apply wpS_region
 simp [wpOpsS, go_sem, recoverD, hu, Tryz.ntmps86, Exit.thenS]
 apply wpS_seq
 apply wpS_region
 simp [wpOpsS, go_sem, Exit.thenS, Act.eval, Array.replicate]
 refine wpS_cond (t := false) (by simp [Act.eval, Array.replicate]) ?_
 simp only [Bool.false_eq_true, if_false]
 refine wpS_of_wp (wp_skip ?_)
 cases c₀
 simp_all [bodyPostS, results, Tryz.results86]
theorem en39c : Go.OB.Enters Tryz.prog 39 := ⟨_, Tryz.func39, rfl, by kernel_rfl⟩
theorem zero90c : Go.OB.Zero Tryz.prog 90 ([.int .i64 0, .int .i64 0]) := by unfold Go.OB.Zero; kernel_rfl
theorem sz90c : Sz Tryz.prog 90 2 := by unfold Sz; kernel_rfl
theorem agg90c : Agg Tryz.prog 90 := by unfold Agg; kernel_rfl
theorem bz90c : Tryz.prog.built 90 [] = some ([.int .i64 0, .int .i64 0] : List Value).toArray := by kernel_rfl
set_option maxHeartbeats 4000000 in
theorem F_caught_w (p0 : EventReader) (b1 : Nat) (v2 : Value) (v3 : Value) (v4 : Value) (r : EventFault × EventReader) (hF : F_caught p0 = some r) (O S : List Nat) (w : World) (H : Hd O w w S [.own Rp.str v2 9 p0.r.Phases, .own rMoveT v3 102 p0.r.Moves, .own rRule v4 106 p0.r.Rules, .blk b1 [.string (bs p0.text), .int .i64 p0.at_, .int .i64 p0.now.kind, .int .i64 p0.now.at_, .int .i64 p0.now.n, .string (bs p0.now.text), v2, v3, v4] 88, .fz (.at 0 0 ((Fl.arr 7 Fl.str).f zK)), .fz (.gi 4)]) :
  Calls Tryz.prog 38 ([.func (.func 39) #[.pointer (some ⟨b1, 0, none⟩)] #[]] : List Value).toArray w fun e w' => ∃ u11 u12 u13, e = .returned (.agg [.int .i64 r.1.at_, .int .i64 r.1.e].toArray) ∧ Hd O w w' S [.own Rp.str u11 9 r.2.r.Phases, .own rMoveT u12 102 r.2.r.Moves, .own rRule u13 106 r.2.r.Rules, .blk b1 [.string (bs r.2.text), .int .i64 r.2.at_, .int .i64 r.2.now.kind, .int .i64 r.2.now.at_, .int .i64 r.2.now.n, .string (bs r.2.now.text), u11, u12, u13] 88] := by
 unfold F_caught at hF
 obtain ⟨x, e, hF⟩ := zD hF
 have hr := Option.some.inj hF
 subst hr
 refine calls_of_WPD 7 Tryz.func38 rfl rfl rfl ?_
 refine WPD_seq ?_
 refine WPD_region ?_
 refine RLD_ex rfl rfl (xG zero90c H) ?_
 rintro _ w1 ⟨b2, rfl, H⟩
 refine RLD_nil ?_
 refine WPD_seq ?_
 refine WPD_region ?_
 refine RLD_do rfl rfl (Do_makeFunc rfl) ?_
 refine RLD_defer (x := { target := .fn (.func 86) #[.pointer (some ⟨b2, 0, none⟩)], args := #[] }) rfl (run_defer (cap := [_]) (us := []) rfl rfl) ?_
 refine RLD_nil ?_
 refine WPD_seq ?_
 refine WPD_region ?_
 refine RLD_do rfl rfl (xI (v := .func (.func 39) #[.pointer (some ⟨b1, 0, none⟩)] #[]) rfl) ?_
 refine RLD_call rfl rfl (DoC_bnd en39c rfl rfl) (F_event_reader_rules_w p0 b1 v2 v3 v4 _ e _ _ _ (H.enter [0, 1, 2, 3] [4, 5] (by decide) rfl)) ?_
 rintro _ w2 ⟨u11, u12, u13, rfl, G⟩
 have H := H.back [0, 1, 2, 3] [4, 5] rfl G
 refine ⟨_, rfl, ?_⟩
 refine RLD_nil ?_
 refine WPD_seq ?_
 refine WPD_region ?_
 refine RLD_do rfl rfl (xN (cs := [.int .i64 0, .int .i64 0]) bz90c) ?_
 refine RLD_exU rfl (yI (vs := [.int .i64 0, .int .i64 0]) H 2 rfl sz90c rfl rfl rfl ⟨rfl, rfl, trivial⟩ rfl) ?_
 rintro w3 H
 refine RLD_nil ?_
 refine WPD_ret ?_
 intro tmps ht
 refine leaves_cons (f := 86) (args := #[.pointer (some ⟨b2, 0, none⟩)]) (by simp) (by simp [go_sem]) ?_
 refine (caught_idle b2 _).mono ?_
 rintro e u' w'' ⟨rfl, rfl, rfl⟩
 refine leaves_res (fn := _) rfl ht (postc rfl rfl (yD agg90c sz90c rfl (Blk.cells (H.item (i := 2) rfl))) ?_)
 exact ⟨u11, u12, u13, rfl, H.pick [3, 4, 5, 6] (by decide)⟩
set_option maxHeartbeats 4000000 in
theorem F_event_Read_w (p0 : Str) (r : Rules × Int × Int) (hF : F_event_Read p0 = some r) (O S : List Nat) (w : World) (H : Hd O w w S [.fz (.at 0 0 ((Fl.arr 7 Fl.str).f zK)), .fz (.gi 4)]) :
  Calls Tryz.prog 13 ([.string (bs p0)] : List Value).toArray w fun e w' => ∃ u3 u4 u5, e = .returned (.tuple #[.agg [u3, u4, u5].toArray, .int .i64 r.2.1, .int .i64 r.2.2]) ∧ Hd O w w' S [.fz (.sl Rp.str u3 r.1.Phases), .fz (.sl rMoveT u4 r.1.Moves), .fz (.sl rRule u5 r.1.Rules)] := by
 unfold F_event_Read at hF
 refine yC 39 Tryz.func13 rfl rfl rfl ?_
 refine zC fun K6 hK6 => ?_
 refine zB ?_
 refine yT rfl rfl (xG zero26 H) ?_
 rintro _ w9 ⟨b7, rfl, H⟩
 refine zI (.int .i64 0) ?_
 refine zI (.int .i64 0) ?_
 refine (zF (zA (hK6 _ _ ?_)))
 refine zC fun K18 hK18 => ?_
 refine zC fun K19 hK19 => ?_
 refine zB ?_
 refine zN (.string (bs p0)) ?_
 obtain ⟨x20, e21, hF⟩ := zG hF
 refine zH (yL (Do_slen (s1 := p0) u9 rfl) (congrArg (Value.int .i64) e21)) ?_
 obtain ⟨x22, e23, hF⟩ := zG hF
 refine zH (zV (Do_gtr (a := x20) (b := 200000) rfl rfl) e23) ?_
 refine (zF (zA (hK19 _ _ ?_)))
 refine zZ (b := x22) rfl (fun c24 => ?_) (fun c24 => ?_)
 ·have hF := zQ c24 hF
  refine zC fun K25 hK25 => ?_
  refine zB ?_
  refine zH (xN (cs := [.slice none 0 0, .slice none 0 0, .slice none 0 0]) bz26) ?_
  refine yS rfl (yI (vs := [.slice none 0 0, .slice none 0 0, .slice none 0 0]) H 2 rfl sz26 rfl rfl rfl ⟨rfl, rfl, rfl, trivial⟩ rfl) ?_
  rintro w26 H
  refine zI (.int .i64 0) ?_
  refine zI (.int .i64 3) ?_
  refine (zF (zA (hK25 _ _ ?_)))
  have H := H.fz (.sl Rp.str (.slice none 0 0) []) SlF.nil
  have H := H.fz (.sl rMoveT (.slice none 0 0) []) SlF.nil
  have H := H.fz (.sl rRule (.slice none 0 0) []) SlF.nil
  obtain rfl := someI hF
  refine (yB (zX (postc2 (v1 := .int .i64 0) (v2 := .int .i64 3) rfl rfl (yD agg26 sz26 rfl (Blk.cells (H.item (i := 2) rfl))) rfl rfl ?_)))
  exact ⟨.slice none 0 0, .slice none 0 0, .slice none 0 0, rfl, H.pick [3, 4, 5] (by decide)⟩
 have hF := zS c24 hF
 refine (yA (zA (hK18 _ _ ?_)))
 refine zC fun K30 hK30 => ?_
 refine zB ?_
 refine zN (.string (bs p0)) ?_
 refine zH (xN (cs := [.string (bs p0), .int .i64 0, .int .i64 0, .int .i64 0, .int .i64 0, .string (bs []), .slice none 0 0, .slice none 0 0, .slice none 0 0]) (bt88_0 _)) ?_
 refine yT rfl rfl (wL (cs := [.string (bs p0), .int .i64 0, .int .i64 0, .int .i64 0, .int .i64 0, .string (bs []), .slice none 0 0, .slice none 0 0, .slice none 0 0]) rfl H) ?_
 rintro _ w33 ⟨b31, rfl, H⟩
 refine zI (.pointer (some ⟨b31, 0, none⟩)) ?_
 refine (zF (zA (hK30 _ _ ?_)))
 refine zC fun K63 hK63 => ?_
 refine zC fun K64 hK64 => ?_
 refine zB ?_
 refine zN (.pointer (some ⟨b31, 0, none⟩)) ?_
 refine zH (Do_makeFuncB rfl) ?_
 have H := own_nil H Rp.str 9
 have H := own_nil H rMoveT 102
 have H := own_nil H rRule 106
 obtain ⟨⟨x68, x69⟩, e70, hF⟩ := zD hF
 refine zW rfl rfl (zT en38 rfl) (F_caught_w (EventReader.mk p0 0 (EventToken.mk 0 0 0 []) (Rules.mk [] [] [])) b31 (.slice none 0 0) (.slice none 0 0) (.slice none 0 0) _ e70 _ _ _ (H.enter [4, 5, 6, 3] [0, 1] (by decide) rfl)) ?_
 rintro _ w77 ⟨v71, v72, v73, rfl, G78⟩
 have H : Hd O _ w77 _ [.fz (.at 0 0 ((Fl.arr 7 Fl.str).f zK)), .fz (.gi 4), .blk b7 [.slice none 0 0, .slice none 0 0, .slice none 0 0] 26, .own Rp.str v71 9 x69.r.Phases, .own rMoveT v72 102 x69.r.Moves, .own rRule v73 106 x69.r.Rules, .blk b31 [.string (bs x69.text), .int .i64 x69.at_, .int .i64 x69.now.kind, .int .i64 x69.now.at_, .int .i64 x69.now.n, .string (bs x69.now.text), v71, v72, v73] 88] := H.back [4, 5, 6, 3] [0, 1] rfl G78
 refine ⟨_, rfl, ?_⟩
 refine yT rfl rfl (xG zero90 H) ?_
 rintro _ w81 ⟨b79, rfl, H⟩
 refine yS rfl (yI (vs := [.int .i64 x68.at_, .int .i64 x68.e]) H 7 rfl sz90 rfl rfl rfl ⟨rfl, rfl, trivial⟩ rfl) ?_
 rintro w82 H
 refine (zF (zA (hK64 _ _ ?_)))
 refine zC fun K83 hK83 => ?_
 refine zB ?_
 refine zH (fa90_1 rfl) ?_
 refine zH (zM one30 rfl (Cells.get (Blk.cells (H.item (i := 7) rfl)) (i := 1) rfl)) ?_
 obtain ⟨x84, e85, hF⟩ := zG hF
 refine zH (zV (Do_neq (a := x68.e) (b := 0) rfl rfl) e85) ?_
 refine (zF (zA (hK83 _ _ ?_)))
 refine zZ (b := x84) rfl (fun c86 => ?_) (fun c86 => ?_)
 ·have hF := zQ c86 hF
  refine zC fun K87 hK87 => ?_
  have H := H.freezeB (i := 7) rfl
  have H88 := H
  have H := H.rebase
  have H89 := H
  have h90 := H.firm (i := 7) rfl
  refine WP_mix0 H [0, 1, 2, 3, 4, 5, 6, 7] [.pure, .pure, .pure, .pure, .pure, .eff, .pure, .pure] mixed (by kernel_rfl) (by kernel_rfl) (by kernel_rfl) rfl ?_
  refine Mx.zU rfl rfl rfl (fun w' hw' => xN (cs := [.slice none 0 0, .slice none 0 0, .slice none 0 0]) bz26) ?_
  refine Mx.zU rfl rfl rfl (fun w' hw' => fa90_0 rfl) ?_
  refine Mx.zU rfl rfl rfl (fun w' hw' => zM one3 rfl (Cells.get (h90 w' hw').2.2 (i := 0) rfl)) ?_
  refine Mx.zU rfl rfl rfl (fun w' hw' => fa90_1 rfl) ?_
  refine Mx.zU rfl rfl rfl (fun w' hw' => zM one30 rfl (Cells.get (h90 w' hw').2.2 (i := 1) rfl)) ?_
  refine Mx.XL_exU oS rfl rfl (fun w' hw' => yI (vs := [.slice none 0 0, .slice none 0 0, .slice none 0 0]) (H.sees hw') 2 rfl sz26 rfl rfl rfl ⟨rfl, rfl, rfl, trivial⟩ rfl) ?_
  rintro w' w91 hw' H
  refine ⟨H.only, ?_⟩
  refine Mx.zU rfl rfl rfl (fun w' hw' => wJ (v := .int .i64 x68.at_) rfl) ?_
  refine Mx.zU rfl rfl rfl (fun w' hw' => wJ (v := .int .i64 x68.e) rfl) ?_
  refine Mx.XL_nil fun w92 hS => ?_
  have H := H.sees hS
  have H := H88.rejoin H
  refine (zA (hK87 _ _ ?_))
  have H := H.fz (.sl Rp.str (.slice none 0 0) []) SlF.nil
  have H := H.fz (.sl rMoveT (.slice none 0 0) []) SlF.nil
  have H := H.fz (.sl rRule (.slice none 0 0) []) SlF.nil
  obtain rfl := someI hF
  refine (yB (zX (postc2 (v1 := .int .i64 x68.at_) (v2 := .int .i64 x68.e) rfl rfl (yD agg26 sz26 rfl (Blk.cells (H.item (i := 2) rfl))) rfl rfl ?_)))
  exact ⟨.slice none 0 0, .slice none 0 0, .slice none 0 0, rfl, H.pick [8, 9, 10] (by decide)⟩
 have hF := zS c86 hF
 refine (yA (zA (hK63 _ _ ?_)))
 refine zC fun K108 hK108 => ?_
 refine zC fun K109 hK109 => ?_
 refine zB ?_
 refine zN (.pointer (some ⟨b31, 0, none⟩)) ?_
 refine zH (yM rfl) ?_
 refine zH (fa88_3 rfl) ?_
 refine zH (yL (yH (cs := [v71, v72, v73]) agg26 rfl sz26 rfl (Cells.drop (Blk.cells (H.item (i := 6) rfl)) 6 3)) rfl) ?_
 have H110 := H
 have H := H.freeze (i := 3) rfl
 have H := H.freeze (i := 4) rfl
 have H := H.freeze (i := 5) rfl
 obtain ⟨x111, e112, hF⟩ := zD hF
 refine zW rfl rfl (zT en40 rfl) (F_event_Check_w x69.r v71 v72 v73 _ e112 _ _ _ (H.enter [] [3, 4, 5] (by decide) rfl)) ?_
 rintro _ w113 ⟨rfl, G114⟩
 have H := H110.step (G114.only : Only [] _ _)
 refine ⟨_, rfl, ?_⟩
 refine zI (.int .i64 x111) ?_
 refine (zF (zA (hK109 _ _ ?_)))
 refine zC fun K115 hK115 => ?_
 refine zB ?_
 refine zN (.int .i64 x111) ?_
 obtain ⟨x116, e117, hF⟩ := zG hF
 refine zH (zV (Do_neq (a := x111) (b := 0) rfl rfl) e117) ?_
 refine (zF (zA (hK115 _ _ ?_)))
 refine zZ (b := x116) rfl (fun c118 => ?_) (fun c118 => ?_)
 ·have hF := zQ c118 hF
  refine zC fun K119 hK119 => ?_
  refine zB ?_
  refine zH (xN (cs := [.slice none 0 0, .slice none 0 0, .slice none 0 0]) bz26) ?_
  refine zN (.int .i64 x111) ?_
  refine yS rfl (yI (vs := [.slice none 0 0, .slice none 0 0, .slice none 0 0]) H 2 rfl sz26 rfl rfl rfl ⟨rfl, rfl, rfl, trivial⟩ rfl) ?_
  rintro w120 H
  refine zI (.int .i64 0) ?_
  refine zI (.int .i64 x111) ?_
  refine (zF (zA (hK119 _ _ ?_)))
  have H := H.fz (.sl Rp.str (.slice none 0 0) []) SlF.nil
  have H := H.fz (.sl rMoveT (.slice none 0 0) []) SlF.nil
  have H := H.fz (.sl rRule (.slice none 0 0) []) SlF.nil
  obtain rfl := someI hF
  refine (yB (zX (postc2 (v1 := .int .i64 0) (v2 := .int .i64 x111) rfl rfl (yD agg26 sz26 rfl (Blk.cells (H.item (i := 2) rfl))) rfl rfl ?_)))
  exact ⟨.slice none 0 0, .slice none 0 0, .slice none 0 0, rfl, H.pick [8, 9, 10] (by decide)⟩
 have hF := zS c118 hF
 refine (yA (zA (hK108 _ _ ?_)))
 refine zC fun K124 hK124 => ?_
 refine zB ?_
 refine zN (.pointer (some ⟨b31, 0, none⟩)) ?_
 refine zH (yM rfl) ?_
 refine zH (fa88_3 rfl) ?_
 refine zH (yL (yH (cs := [v71, v72, v73]) agg26 rfl sz26 rfl (Cells.drop (Blk.cells (H.item (i := 6) rfl)) 6 3)) rfl) ?_
 refine yS rfl (yI (vs := [v71, v72, v73]) H 2 rfl sz26 rfl rfl rfl ⟨(xU (H.item (i := 3) rfl)), (xU (H.item (i := 4) rfl)), (xU (H.item (i := 5) rfl)), trivial⟩ rfl) ?_
 rintro w125 H
 refine zI (.int .i64 0) ?_
 refine zI (.int .i64 0) ?_
 refine (zF (zA (hK124 _ _ ?_)))
 have H := H.freeze (i := 3) rfl
 have H := H.freeze (i := 4) rfl
 have H := H.freeze (i := 5) rfl
 obtain rfl := someI hF
 refine (yB (postc2 (v1 := .int .i64 0) (v2 := .int .i64 0) rfl rfl (yD agg26 sz26 rfl (Blk.cells (H.item (i := 2) rfl))) rfl rfl ?_))
 exact ⟨v71, v72, v73, rfl, H.pick [3, 4, 5] (by decide)⟩
set_option maxHeartbeats 4000000 in
theorem F_strings_Builder_WriteString_w (p0 : List Int) (p1 : Str) (b1 : Nat) (v2 : Value) (v3 : Value) (r : Int × Unit × (List Int)) (hF : F_strings_Builder_WriteString p0 p1 = some r) (O S : List Nat) (w : World) (H : Hd O w w S [.own (Rp.int .u8) v3 5 p0, .blk b1 [v2, v3] 111, .fz (.oq v2 b1)]) :
  Calls Tryz.prog 50 ([.pointer (some ⟨b1, 0, none⟩), .string (bs p1)] : List Value).toArray w fun e w' => ∃ u7 u8, e = .returned (.tuple #[.int .i64 r.1, .nilIface]) ∧ Hd O w w' S [.fz (.oq u7 b1), .own (Rp.int .u8) u8 5 r.2.2, .blk b1 [u7, u8] 111] := by
 unfold F_strings_Builder_WriteString at hF
 refine yC 19 Tryz.func50 rfl rfl rfl ?_
 refine zC fun K9 hK9 => ?_
 refine zB ?_
 refine zI (.int .i64 0) ?_
 refine zI .nilIface ?_
 refine (zF (zA (hK9 _ _ ?_)))
 refine zC fun K10 hK10 => ?_
 refine zB ?_
 refine zN (.pointer (some ⟨b1, 0, none⟩)) ?_
 obtain ⟨x11, e12, hF⟩ := zD hF
 refine zW rfl rfl (zT en101 rfl) (E.X_bcheck_w p0 b1 v2 v3 _ e12 _ _ _ (H.enter [0, 1] [2] (by decide) rfl)) ?_
 rintro _ w17 ⟨v13, v14, rfl, G18⟩
 have H : Hd O _ w17 _ [.fz (.oq v2 b1), .fz (.oq v13 b1), .own (Rp.int .u8) v14 5 x11, .blk b1 [v13, v14] 111] := H.back [0, 1] [2] rfl G18
 refine ⟨_, rfl, ?_⟩
 refine (zF (zA (hK10 _ _ ?_)))
 refine zC fun K19 hK19 => ?_
 refine zB ?_
 refine zN (.pointer (some ⟨b1, 0, none⟩)) ?_
 refine zN (.pointer (some ⟨b1, 0, none⟩)) ?_
 refine zH (yM rfl) ?_
 refine zH (fa111_1 rfl) ?_
 refine zH (zM one77 rfl (Cells.get (Blk.cells (H.item (i := 3) rfl)) (i := 1) rfl)) ?_
 refine zN (.string (bs p1)) ?_
 obtain ⟨x20, e21, hF⟩ := zD hF
 refine yT rfl rfl (Lx_appstr H (i := 2) rfl u77 u9 z8_5 rfl rfl e21) ?_
 rintro v22 w23 H
 refine zH (yM rfl) ?_
 refine zH (fa111_1 rfl) ?_
 refine yS rfl (xM H 3 rfl sz77 rfl (v := v22) rfl (xU (H.item (i := 2) rfl)) rfl) ?_
 rintro w24 H
 refine (zF (zA (hK19 _ _ ?_)))
 refine zC fun K25 hK25 => ?_
 refine zB ?_
 refine zN (.string (bs p1)) ?_
 obtain ⟨x26, e27, hF⟩ := zG hF
 refine zH (yL (Do_slen (s1 := p1) u9 rfl) (congrArg (Value.int .i64) e27)) ?_
 refine zI (.int .i64 x26) ?_
 refine zI .nilIface ?_
 refine (zF (zA (hK25 _ _ ?_)))
 obtain rfl := someI hF
 refine (yB (post2 (v1 := .int .i64 x26) (v2 := .nilIface) rfl rfl rfl ?_))
 exact ⟨v13, v22, rfl, H.pick [1, 2, 3] (by decide)⟩
abbrev S_event_condText (f : Cond → Int → Option Str) : Prop := ∀ (p0 : Cond) (p1 : Int) (v1 : Value) (r : Str) (hF : f p0 p1 = some r) (O S : List Nat) (w : World) (H : Hd O w w S [.fz (.sl rCond v1 p0.Kids), .fz (.at 0 0 ((Fl.arr 7 Fl.str).f zK))]),
  Calls Tryz.prog 51 ([.agg [.int .i64 p0.Kind, .string (bs p0.Name), .string (bs p0.Other), .int .i64 p0.Op, .int .i64 p0.N, .int .i64 p0.Frames, v1].toArray, .int .i64 p1] : List Value).toArray w fun e w' => e = .returned (.string (bs r)) ∧ Hd O w w' S []
set_option maxHeartbeats 4000000 in
theorem F_event_joined_w (rfP : Cond → Int → Option Str) (rhP : S_event_condText rfP) (p0 : List Cond) (p1 : Str) (p2 : Int) (v1 : Value) (r : Str) (hF : F_event_joined rfP p0 p1 p2 = some r) (O S : List Nat) (w : World) (H : Hd O w w S [.fz (.sl rCond v1 p0), .fz (.at 0 0 ((Fl.arr 7 Fl.str).f zK))]) :
  Calls Tryz.prog 104 ([v1, .string (bs p1), .int .i64 p2] : List Value).toArray w fun e w' => e = .returned (.string (bs r)) ∧ Hd O w w' S [] := by
 unfold F_event_joined at hF
 refine yC 28 Tryz.func104 rfl rfl rfl ?_
 refine zC fun K4 hK4 => ?_
 refine zB ?_
 refine zI (.string (bs [])) ?_
 refine (zF (zA (hK4 _ _ ?_)))
 refine zC fun K5 hK5 => ?_
 refine zB ?_
 refine zI (.slice none 0 0) ?_
 refine (zF (zA (hK5 _ _ ?_)))
 obtain ⟨g180, hF, hK183⟩ := zD hF
 refine yO [7, 9, 10, 11, 12, 13, 14, 15, 16, 17, 18, 19, 20, 21, 22] (fun (g : Value) => [(7, g)]) (fun g wl => Hd O w wl S [.own Rp.str g 9 g180, .fz (.at 0 0 ((Fl.arr 7 Fl.str).f zK))]) ?_ ?_
 ·skip
  refine zC fun K184 hK184 => ?_
  refine zB ?_
  refine zN v1 ?_
  obtain ⟨x185, e186, hF⟩ := zG hF
  obtain ⟨a187, c188, q189⟩ := SlF.len ((H.item (i := 0) rfl))
  refine zH (yL (xW u52 q189) (congrArg (Value.int .i64) e186)) ?_
  refine zN (.int .i64 0) ?_
  refine (zF (zA (hK184 _ _ ?_)))
  refine yF ?_
  have H := own_nil H Rp.str 9
  unfold F_event_joined_L1 at hF
  obtain ⟨B355, n356, eB357, hF⟩ := yV hF
  refine xJ [7, 9, 12, 13, 14, 15, 16, 17, 18, 19, 20, 21, 22] (fun (g : Nat × (List Str) × Int × Value) => [(7, g.2.2.2), (12, .int .i64 g.2.2.1)]) (fun g wl => Hd O w wl S [.own Rp.str g.2.2.2 9 g.2.1, .fz (.sl rCond v1 p0), .fz (.at 0 0 ((Fl.arr 7 Fl.str).f zK))] ∧ loopN B355 g.1 (g.2.1, g.2.2.1) = some g180) (fun g => g.1) (n356, [], 0, .slice none 0 0) (zL rfl (zL rfl zO)) ⟨H.pick [2, 0, 1] (by decide), hF⟩ ?_
  clear H hF
  rintro ⟨n356, g351, g353, v352⟩ ρ w359 ⟨H, hF⟩
  obtain ⟨n360, rfl, hF⟩ := xB hF
  have hF := yZ eB357 hF
  refine zC fun K361 hK361 => ?_
  refine zB ?_
  obtain ⟨x362, e363, hF⟩ := zG hF
  refine zH (zV (xQ (a := g353) (b := x185) rfl rfl) e363) ?_
  refine (zF (zA (hK361 _ _ ?_)))
  refine zC fun K365 hK365 => ?_
  refine zZ (b := x362) rfl (fun c366 => ?_) (fun c366 => ?_)
  ·have hF := zQ c366 hF
   refine (yA (zA (hK365 _ _ ?_)))
   refine zC fun K401 hK401 => ?_
   refine yF ?_
   refine zC fun K402 hK402 => ?_
   refine zB ?_
   obtain ⟨x403, e404, hF⟩ := zD hF
   obtain ⟨b405, o406, c407, cs408, q409, h412, h410, h411, h413⟩ := wQ (H.item (i := 1) rfl) e404
   obtain ⟨v414, rfl, h415⟩ := wK h412
   have H := H.fzs [.at b405 (o406 + g353.toNat * 7) _, .sl rCond v414 x403.Kids] ⟨⟨h410, h411, h413⟩, h415, trivial⟩
   refine zH (xY u52 sz54 q409 rfl (yN e404).1 (yN e404).2.1 rfl rfl) ?_
   refine zH (yL (yH (cs := [.int .i64 x403.Kind, .string (bs x403.Name), .string (bs x403.Other), .int .i64 x403.Op, .int .i64 x403.N, .int .i64 x403.Frames, v414]) agg54 rfl sz54 rfl (H.item (i := 3) rfl).2.2) rfl) ?_
   refine yT rfl rfl (xG zero54 H) ?_
   rintro _ w420 ⟨b418, rfl, H⟩
   refine yS rfl (yI (vs := [.int .i64 x403.Kind, .string (bs x403.Name), .string (bs x403.Other), .int .i64 x403.Op, .int .i64 x403.N, .int .i64 x403.Frames, v414]) H 5 rfl sz54 rfl rfl rfl ⟨rfl, rfl, rfl, rfl, rfl, rfl, (xR (H.item (i := 4) rfl)), trivial⟩ rfl) ?_
   rintro w421 H
   refine (zF (zA (hK402 _ _ ?_)))
   refine zB ?_
   refine zN v352 ?_
   refine zH (yL (yH (cs := [.int .i64 x403.Kind, .string (bs x403.Name), .string (bs x403.Other), .int .i64 x403.Op, .int .i64 x403.N, .int .i64 x403.Frames, v414]) agg54 rfl sz54 rfl (Blk.cells (H.item (i := 5) rfl))) rfl) ?_
   refine zN (.int .i64 p2) ?_
   have H422 := H
   obtain ⟨x423, e424, hF⟩ := zD hF
   refine zW rfl rfl (zT en51 rfl) (rhP x403 p2 v414 _ e424 _ _ _ (H.enter [] [4, 2] (by decide) rfl)) ?_
   rintro _ w425 ⟨rfl, G426⟩
   have H := H422.step (G426.only : Only [] _ _)
   refine ⟨_, rfl, ?_⟩
   obtain ⟨x427, e428, hF⟩ := zG hF
   subst e428
   refine yT rfl rfl (Lx_bs (r := Rp.str) (xl := [x423]) (cs := [.string (bs x423)]) u22 el9 (by decide) (by decide) rfl (xK (vs := [.string (bs x423)]) (by decide) rfl rfl ⟨rfl, trivial⟩ rfl) H ⟨[.string (bs x423)], [], rfl, rfl, rfl⟩) ?_
   rintro v430 w431 H
   obtain ⟨x432, e433, hF⟩ := zD hF
   refine yT rfl rfl (Lx_app H (i := 0) rfl u22 el9 rfl rfl (Sr.of_own (H.item (i := 6) rfl)) e433) ?_
   rintro v434 w435 H
   refine zI v434 ?_
   refine (zF (yU (zA (hK401 _ _ ?_))))
   refine zB ?_
   obtain ⟨x436, e437, hF⟩ := zG hF
   refine zH (xX (a := g353) (b := 1) rfl rfl e437) ?_
   refine zN (.int .i64 x436) ?_
   exact (zF (zA (meet ⟨(n360, x432, x436, v434), (zL rfl (zL rfl zO)), ⟨H.pick [0, 1, 2] (by decide), hF⟩, Nat.lt_succ_self _⟩)))
  have hF := zS c366 hF
  obtain rfl := someI hF
  exact (xP (yR (yR (xA (zA (meet ⟨v352, (zL rfl zO), H.pick [0, 2] (by decide)⟩))))))
 rintro v181 ρ w182 H
 have hF := hK183
 refine zC fun K438 hK438 => ?_
 refine zB ?_
 refine zN v181 ?_
 refine zN (.string (bs p1)) ?_
 obtain ⟨x439, e440, hF⟩ := zD hF
 refine zH (wE (s1 := [32]) (s2 := p1) rfl rfl e440) ?_
 obtain ⟨x441, e442, hF⟩ := zD hF
 refine zH (wE (s1 := x439) (s2 := [32]) rfl rfl e442) ?_
 have H443 := H
 have H := H.freeze (i := 0) rfl
 obtain ⟨x444, e445, hF⟩ := zD hF
 refine zW rfl rfl (zT en156 rfl) (E.X_Join_w g180 x441 v181 _ e445 _ _ _ (H.enter [] [0] (by decide) rfl)) ?_
 rintro _ w446 ⟨rfl, G447⟩
 have H := H443.step (G447.only : Only [] _ _)
 refine ⟨_, rfl, ?_⟩
 refine zI (.string (bs x444)) ?_
 refine (zF (zA (hK438 _ _ ?_)))
 obtain rfl := someI hF
 refine (yB (post1 (v1 := .string (bs x444)) rfl rfl ?_))
 exact ⟨rfl, H.pick [] (by decide)⟩
set_option maxHeartbeats 4000000 in
theorem F_event_condText_1_w (rfP : Cond → Int → Option Str) (rhP : S_event_condText rfP) (c0 : Cond) (b1 : Nat) (v2 : Value) (r : Str) (hF : F_event_condText_1 rfP c0 = some r) (O S : List Nat) (w : World) (H : Hd O w w S [.blk b1 [.int .i64 c0.Kind, .string (bs c0.Name), .string (bs c0.Other), .int .i64 c0.Op, .int .i64 c0.N, .int .i64 c0.Frames, v2] 54, .fz (.sl rCond v2 c0.Kids), .fz (.at 0 0 ((Fl.arr 7 Fl.str).f zK))]) :
  Calls Tryz.prog 103 ([.pointer (some ⟨b1, 0, none⟩)] : List Value).toArray w fun e w' => e = .returned (.string (bs r)) ∧ Hd O w w' S [.blk b1 [.int .i64 c0.Kind, .string (bs c0.Name), .string (bs c0.Other), .int .i64 c0.Op, .int .i64 c0.N, .int .i64 c0.Frames, v2] 54] := by
 unfold F_event_condText_1 at hF
 refine yC 5 Tryz.func103 rfl rfl rfl ?_
 refine zC fun K6 hK6 => ?_
 refine zB ?_
 refine zI (.string (bs [])) ?_
 refine (zF (zA (hK6 _ _ ?_)))
 refine zC fun K7 hK7 => ?_
 refine zB ?_
 refine zH (fa54_6 rfl) ?_
 refine zH (zM one52 rfl (Cells.get (Blk.cells (H.item (i := 0) rfl)) (i := 6) rfl)) ?_
 have H8 := H
 obtain ⟨x9, e10, hF⟩ := zD hF
 refine zW rfl rfl (zT en104 rfl) (F_event_joined_w rfP rhP c0.Kids [] 3 v2 _ e10 _ _ _ (H.enter [] [1, 2] (by decide) rfl)) ?_
 rintro _ w11 ⟨rfl, G12⟩
 have H := H8.step (G12.only : Only [] _ _)
 refine ⟨_, rfl, ?_⟩
 refine zI (.string (bs x9)) ?_
 refine (zF (zA (hK7 _ _ ?_)))
 obtain rfl := someI hF
 refine (yB (post1 (v1 := .string (bs x9)) rfl rfl ?_))
 exact ⟨rfl, H.pick [0] (by decide)⟩
set_option maxHeartbeats 4000000 in
theorem F_event_condText_1_z_w (rfP : Cond → Int → Option Str) (rhP : S_event_condText rfP) (c0 : Cond) (b1 : Nat) (v2 : Value) (r : Str) (hF : F_event_condText_1_z rfP c0 = some r) (O S : List Nat) (w : World) (H : Hd O w w S [.fz (.sl rCond v2 c0.Kids), .fz (.at b1 0 [.int .i64 c0.Kind, .string (bs c0.Name), .string (bs c0.Other), .int .i64 c0.Op, .int .i64 c0.N, .int .i64 c0.Frames, v2]), .fz (.at 0 0 ((Fl.arr 7 Fl.str).f zK))]) :
  Calls Tryz.prog 103 ([.pointer (some ⟨b1, 0, none⟩)] : List Value).toArray w fun e w' => e = .returned (.string (bs r)) ∧ Hd O w w' S [] := by
 unfold F_event_condText_1_z at hF
 refine yC 5 Tryz.func103 rfl rfl rfl ?_
 refine zC fun K6 hK6 => ?_
 refine zB ?_
 refine zI (.string (bs [])) ?_
 refine (zF (zA (hK6 _ _ ?_)))
 refine zC fun K7 hK7 => ?_
 refine zB ?_
 refine zH (fa54_6 rfl) ?_
 refine zH (zM one52 rfl (Cells.get (H.item (i := 1) rfl).2.2 (i := 6) rfl)) ?_
 have H8 := H
 obtain ⟨x9, e10, hF⟩ := zD hF
 refine zW rfl rfl (zT en104 rfl) (F_event_joined_w rfP rhP c0.Kids [] 3 v2 _ e10 _ _ _ (H.enter [] [0, 2] (by decide) rfl)) ?_
 rintro _ w11 ⟨rfl, G12⟩
 have H := H8.step (G12.only : Only [] _ _)
 refine ⟨_, rfl, ?_⟩
 refine zI (.string (bs x9)) ?_
 refine (zF (zA (hK7 _ _ ?_)))
 obtain rfl := someI hF
 refine (yB (post1 (v1 := .string (bs x9)) rfl rfl ?_))
 exact ⟨rfl, H.pick [] (by decide)⟩
end Go.Proofs.YtnajnkghilemhaaGreatDoor.L
