/- Walks: what each function computes, for every argument; no condition but those that stand in the statements. -/
import Derived.Test.YtnajnkghilemhaaGreatDoorVV0
import Derived.Test.YtnajnkghilemhaaGreatDoorVV4
import Derived.Test.YtnajnkghilemhaaGreatDoorVV5
import Derived.Test.YtnajnkghilemhaaGreatDoorVV3
namespace Go.Proofs.YtnajnkghilemhaaGreatDoor.L
open Go.RowKit Go.OB Go.Lf
/- (*orangebox/event.reader).list@(*orangebox/event.reader).cond$1$1~pa0d -/
set_option maxHeartbeats 4000000 in
theorem F_event_reader_list_event_reader_cond_1_1_pa0d_w (rfB : EventReader → Int → Option (Cond × EventReader)) (rhB : S_event_reader_cond rfB) (p0 : EventReader) (p1 : Str) (p2 : Int) (p3c1 : Int) (b1 : Nat) (v2 : Value) (v3 : Value) (v4 : Value) (b9 : Nat) (b11 : Nat) (r : Cond × EventReader) (hF : F_event_reader_list_event_reader_cond_1_1_pa0d rfB p0 p1 p2 p3c1 = some r) (O S : List Nat) (w : World) (H : Hd O w w S [.own Rp.str v2 9 p0.r.Phases, .own rMoveT v3 102 p0.r.Moves, .own rRule v4 106 p0.r.Rules, .blk b1 [.string (bs p0.text), .int .i64 p0.at_, .int .i64 p0.now.kind, .int .i64 p0.now.at_, .int .i64 p0.now.n, .string (bs p0.now.text), v2, v3, v4] 88, .blk b9 [.pointer (some ⟨b1, 0, none⟩)] 84, .blk b11 [.int .i64 p3c1] 3, .fz (.at 0 0 ((Fl.arr 7 Fl.str).f zO)), .fz (.gi 4)]) :
  Calls Tryz.prog 141 ([.pointer (some ⟨b1, 0, none⟩), .string (bs p1), .int .i64 p2, .func (.func 143) #[] #[.pointer (some ⟨b9, 0, none⟩), .pointer (some ⟨b11, 0, none⟩)]] : List Value).toArray w fun e w' => ∃ u15 u16 u17 u18, e = .returned (.agg [.int .i64 r.1.Kind, .string (bs r.1.Name), .string (bs r.1.Other), .int .i64 r.1.Op, .int .i64 r.1.N, .int .i64 r.1.Frames, u15].toArray) ∧ Hd O w w' S [.fz (.sl rCond u15 r.1.Kids), .own Rp.str u16 9 r.2.r.Phases, .own rMoveT u17 102 r.2.r.Moves, .own rRule u18 106 r.2.r.Rules, .blk b1 [.string (bs r.2.text), .int .i64 r.2.at_, .int .i64 r.2.now.kind, .int .i64 r.2.now.at_, .int .i64 r.2.now.n, .string (bs r.2.now.text), u16, u17, u18] 88, .blk b9 [.pointer (some ⟨b1, 0, none⟩)] 84, .blk b11 [.int .i64 p3c1] 3] := by
 unfold F_event_reader_list_event_reader_cond_1_1_pa0d at hF
 refine yD 32 Tryz.func141 rfl rfl rfl ?_
 refine zD fun K19 hK19 => ?_
 refine zC ?_
 refine yY rfl rfl (xJ zero54 H) ?_
 rintro _ w22 ⟨b20, rfl, H⟩
 refine (zJ (zB (hK19 _ _ ?_)))
 refine zD fun K23 hK23 => ?_
 refine zC ?_
 refine zA rfl rfl (zK (v := .func (.func 143) #[] #[.pointer (some ⟨b9, 0, none⟩), .pointer (some ⟨b11, 0, none⟩)]) rfl) ?_
 obtain ⟨⟨x24, x25⟩, e26, hF⟩ := zI hF
 refine yA rfl rfl (wH en143 rfl rfl) (F_event_reader_cond_1_1_pdd_w rfB rhB p0 p3c1 b9 b1 v2 v3 v4 b11 _ e26 _ _ _ (H.enter [0, 1, 2, 3, 4, 5] [6, 7] (by decide) rfl)) ?_
 rintro _ w35 ⟨v27, v29, v30, v31, rfl, G36⟩
 have H : Hd O _ w35 _ [.fz (.at 0 0 ((Fl.arr 7 Fl.str).f zO)), .fz (.gi 4), .blk b20 [.int .i64 0, .string (bs []), .string (bs []), .int .i64 0, .int .i64 0, .int .i64 0, .slice none 0 0] 54, .fz (.sl rCond v27 x24.Kids), .own Rp.str v29 9 x25.r.Phases, .own rMoveT v30 102 x25.r.Moves, .own rRule v31 106 x25.r.Rules, .blk b1 [.string (bs x25.text), .int .i64 x25.at_, .int .i64 x25.now.kind, .int .i64 x25.now.at_, .int .i64 x25.now.n, .string (bs x25.now.text), v29, v30, v31] 88, .blk b9 [.pointer (some ⟨b1, 0, none⟩)] 84, .blk b11 [.int .i64 p3c1] 3] := H.back [0, 1, 2, 3, 4, 5] [6, 7] rfl G36
 refine ⟨_, rfl, ?_⟩
 obtain ⟨x37, e38, hF⟩ := zF hF
 subst e38
 refine yY rfl rfl (Lx_bs (r := rCond) (xl := [x24]) (cs := [.int .i64 x24.Kind, .string (bs x24.Name), .string (bs x24.Other), .int .i64 x24.Op, .int .i64 x24.N, .int .i64 x24.Frames, v27]) u52 el54 (by decide) (by decide) rfl (wF (vs := [.agg [.int .i64 x24.Kind, .string (bs x24.Name), .string (bs x24.Other), .int .i64 x24.Op, .int .i64 x24.N, .int .i64 x24.Frames, v27].toArray]) (by decide) rfl rfl ⟨rfl, trivial⟩ rfl) H ⟨[.int .i64 x24.Kind, .string (bs x24.Name), .string (bs x24.Other), .int .i64 x24.Op, .int .i64 x24.N, .int .i64 x24.Frames, v27], [], rfl, (rCond_mk (x := x24) (H.item (i := 3) rfl)), rfl⟩) ?_
 rintro v40 w41 H
 refine zA rfl rfl (zG (v := v40) rfl) ?_
 refine (zJ (zB (hK23 _ _ ?_)))
 obtain ⟨j184, hF, hK183⟩ := zI hF
 refine yQ [9, 13, 14, 15, 16, 17, 18, 19, 20, 21, 22] (fun (g : Value × Value × Value × Value) => [(9, g.1)]) (fun g wl => Hd O w wl S [.own rCond g.1 54 j184.1, .fz (.at 0 0 ((Fl.arr 7 Fl.str).f zO)), .fz (.gi 4), .blk b20 [.int .i64 0, .string (bs []), .string (bs []), .int .i64 0, .int .i64 0, .int .i64 0, .slice none 0 0] 54, .blk b1 [.string (bs j184.2.1), .int .i64 j184.2.2.1, .int .i64 j184.2.2.2.1, .int .i64 j184.2.2.2.2.1, .int .i64 j184.2.2.2.2.2.1, .string (bs j184.2.2.2.2.2.2.1), g.2.1, g.2.2.1, g.2.2.2] 88, .own Rp.str g.2.1 9 j184.2.2.2.2.2.2.2.1, .own rMoveT g.2.2.1 102 j184.2.2.2.2.2.2.2.2.1, .own rRule g.2.2.2 106 j184.2.2.2.2.2.2.2.2.2, .blk b9 [.pointer (some ⟨b1, 0, none⟩)] 84, .blk b11 [.int .i64 p3c1] 3]) ?_ ?_
 ·skip
  refine yM ?_
  unfold F_event_reader_list_event_reader_cond_1_1_pa0d_L1 at hF
  obtain ⟨B319, n320, eB321, hF⟩ := yZ hF
  refine xN [9, 13, 14, 15, 16, 17, 18, 19, 20, 21, 22] (fun (g : Nat × (List Cond) × Str × Int × Int × Int × Int × Str × (List Str) × (List MoveT) × (List Rule) × Value × Value × Value × Value) => [(9, g.2.2.2.2.2.2.2.2.2.2.2.1)]) (fun g wl => Hd O w wl S [.own rCond g.2.2.2.2.2.2.2.2.2.2.2.1 54 g.2.1, .fz (.at 0 0 ((Fl.arr 7 Fl.str).f zO)), .fz (.gi 4), .blk b20 [.int .i64 0, .string (bs []), .string (bs []), .int .i64 0, .int .i64 0, .int .i64 0, .slice none 0 0] 54, .blk b1 [.string (bs g.2.2.1), .int .i64 g.2.2.2.1, .int .i64 g.2.2.2.2.1, .int .i64 g.2.2.2.2.2.1, .int .i64 g.2.2.2.2.2.2.1, .string (bs g.2.2.2.2.2.2.2.1), g.2.2.2.2.2.2.2.2.2.2.2.2.1, g.2.2.2.2.2.2.2.2.2.2.2.2.2.1, g.2.2.2.2.2.2.2.2.2.2.2.2.2.2] 88, .own Rp.str g.2.2.2.2.2.2.2.2.2.2.2.2.1 9 g.2.2.2.2.2.2.2.2.1, .own rMoveT g.2.2.2.2.2.2.2.2.2.2.2.2.2.1 102 g.2.2.2.2.2.2.2.2.2.1, .own rRule g.2.2.2.2.2.2.2.2.2.2.2.2.2.2 106 g.2.2.2.2.2.2.2.2.2.2.1, .blk b9 [.pointer (some ⟨b1, 0, none⟩)] 84, .blk b11 [.int .i64 p3c1] 3] ∧ loopN B319 g.1 (g.2.1, g.2.2.1, g.2.2.2.1, g.2.2.2.2.1, g.2.2.2.2.2.1, g.2.2.2.2.2.2.1, g.2.2.2.2.2.2.2.1, g.2.2.2.2.2.2.2.2.1, g.2.2.2.2.2.2.2.2.2.1, g.2.2.2.2.2.2.2.2.2.2.1) = some j184) (fun g => g.1) (n320, ([x24] : List Cond), x25.text, x25.at_, x25.now.kind, x25.now.at_, x25.now.n, x25.now.text, x25.r.Phases, x25.r.Moves, x25.r.Rules, v40, v29, v30, v31) (zQ rfl zU) ⟨H.pick [10, 0, 1, 2, 7, 4, 5, 6, 8, 9] (by decide), hF⟩ ?_
  clear H hF
  rintro ⟨n320, g302, g304, g305, g306, g307, g308, g309, g311, g314, g317, v303, v312, v315, v318⟩ ρ w323 ⟨H, hF⟩
  obtain ⟨n324, rfl, hF⟩ := xH hF
  have hF := xG eB321 hF
  refine zD fun K333 hK333 => ?_
  refine zD fun K334 hK334 => ?_
  refine zC ?_
  refine zA rfl rfl (zK (v := .pointer (some ⟨b1, 0, none⟩)) rfl) ?_
  refine zA rfl rfl (zK (v := .string (bs p1)) rfl) ?_
  have H335 := H
  have H := H.freezeB (i := 4) rfl
  have H := H.freeze (i := 5) rfl
  have H := H.freeze (i := 6) rfl
  have H := H.freeze (i := 7) rfl
  have H := H.fz (.pt rEventReader (some ⟨b1, 0, none⟩) (some (EventReader.mk g304 g305 (EventToken.mk g306 g307 g308 g309) (Rules.mk g311 g314 g317)))) ⟨_, _, _, rfl, (H.item (i := 4) rfl).1, (H.item (i := 4) rfl).2.1, (xP (x := EventReader.mk g304 g305 (EventToken.mk g306 g307 g308 g309) (Rules.mk g311 g314 g317)) (H.item (i := 5) rfl) (H.item (i := 6) rfl) (H.item (i := 7) rfl)), (H.item (i := 4) rfl).2.2⟩
  obtain ⟨x337, e338, hF⟩ := zI hF
  refine yA rfl rfl (zX en88 rfl) (F_event_reader_is_w (some (EventReader.mk g304 g305 (EventToken.mk g306 g307 g308 g309) (Rules.mk g311 g314 g317))) p1 (some ⟨b1, 0, none⟩) _ e338 _ _ _ (H.enter [] [10] (by decide) rfl)) ?_
  rintro _ w339 ⟨rfl, G340⟩
  have H := H335.step (G340.only : Only [] _ _)
  refine ⟨_, rfl, ?_⟩
  refine (zJ (zB (hK334 _ _ ?_)))
  refine yH (b := x337) rfl (fun c341 => ?_) (fun c341 => ?_)
  ·have hF := zV c341 hF
   refine (yI (zB (hK333 _ _ ?_)))
   refine yM ?_
   refine zD fun K342 hK342 => ?_
   refine zC ?_
   refine zA rfl rfl (zK (v := .pointer (some ⟨b1, 0, none⟩)) rfl) ?_
   obtain ⟨x343, e344, hF⟩ := zI hF
   refine yA rfl rfl (zX en87 rfl) (F_event_reader_advance_w (EventReader.mk g304 g305 (EventToken.mk g306 g307 g308 g309) (Rules.mk g311 g314 g317)) b1 v312 v315 v318 _ e344 _ _ _ (H.enter [5, 6, 7, 4] [2] (by decide) rfl)) ?_
   rintro _ w351 ⟨v345, v346, v347, rfl, G352⟩
   have H : Hd O _ w351 _ [.own rCond v303 54 g302, .fz (.at 0 0 ((Fl.arr 7 Fl.str).f zO)), .fz (.gi 4), .blk b20 [.int .i64 0, .string (bs []), .string (bs []), .int .i64 0, .int .i64 0, .int .i64 0, .slice none 0 0] 54, .blk b9 [.pointer (some ⟨b1, 0, none⟩)] 84, .blk b11 [.int .i64 p3c1] 3, .own Rp.str v345 9 x343.r.Phases, .own rMoveT v346 102 x343.r.Moves, .own rRule v347 106 x343.r.Rules, .blk b1 [.string (bs x343.text), .int .i64 x343.at_, .int .i64 x343.now.kind, .int .i64 x343.now.at_, .int .i64 x343.now.n, .string (bs x343.now.text), v345, v346, v347] 88] := H.back [5, 6, 7, 4] [2] rfl G352
   refine ⟨_, rfl, ?_⟩
   refine (zJ (zB (hK342 _ _ ?_)))
   refine zC ?_
   refine zA rfl rfl (zK (v := v303) rfl) ?_
   refine zA rfl rfl (zK (v := .func (.func 143) #[] #[.pointer (some ⟨b9, 0, none⟩), .pointer (some ⟨b11, 0, none⟩)]) rfl) ?_
   obtain ⟨⟨x353, x354⟩, e355, hF⟩ := zI hF
   refine yA rfl rfl (wH en143 rfl rfl) (F_event_reader_cond_1_1_pdd_w rfB rhB x343 p3c1 b9 b1 v345 v346 v347 b11 _ e355 _ _ _ (H.enter [6, 7, 8, 9, 4, 5] [1, 2] (by decide) rfl)) ?_
   rintro _ w364 ⟨v356, v358, v359, v360, rfl, G365⟩
   have H : Hd O _ w364 _ [.own rCond v303 54 g302, .fz (.at 0 0 ((Fl.arr 7 Fl.str).f zO)), .fz (.gi 4), .blk b20 [.int .i64 0, .string (bs []), .string (bs []), .int .i64 0, .int .i64 0, .int .i64 0, .slice none 0 0] 54, .fz (.sl rCond v356 x353.Kids), .own Rp.str v358 9 x354.r.Phases, .own rMoveT v359 102 x354.r.Moves, .own rRule v360 106 x354.r.Rules, .blk b1 [.string (bs x354.text), .int .i64 x354.at_, .int .i64 x354.now.kind, .int .i64 x354.now.at_, .int .i64 x354.now.n, .string (bs x354.now.text), v358, v359, v360] 88, .blk b9 [.pointer (some ⟨b1, 0, none⟩)] 84, .blk b11 [.int .i64 p3c1] 3] := H.back [6, 7, 8, 9, 4, 5] [1, 2] rfl G365
   refine ⟨_, rfl, ?_⟩
   obtain ⟨x366, e367, hF⟩ := zF hF
   subst e367
   refine yY rfl rfl (Lx_bs (r := rCond) (xl := [x353]) (cs := [.int .i64 x353.Kind, .string (bs x353.Name), .string (bs x353.Other), .int .i64 x353.Op, .int .i64 x353.N, .int .i64 x353.Frames, v356]) u52 el54 (by decide) (by decide) rfl (wF (vs := [.agg [.int .i64 x353.Kind, .string (bs x353.Name), .string (bs x353.Other), .int .i64 x353.Op, .int .i64 x353.N, .int .i64 x353.Frames, v356].toArray]) (by decide) rfl rfl ⟨rfl, trivial⟩ rfl) H ⟨[.int .i64 x353.Kind, .string (bs x353.Name), .string (bs x353.Other), .int .i64 x353.Op, .int .i64 x353.N, .int .i64 x353.Frames, v356], [], rfl, (rCond_mk (x := x353) (H.item (i := 4) rfl)), rfl⟩) ?_
   rintro v369 w370 H
   obtain ⟨x371, e372, hF⟩ := zI hF
   refine yY rfl rfl (Lx_app H (i := 0) rfl u52 el54 rfl rfl (Sr.of_own (H.item (i := 11) rfl)) e372) ?_
   rintro v373 w374 H
   refine zA rfl rfl (zG (v := v373) rfl) ?_
   refine (zJ (yX (zB (And.intro ?_ ?_))))
   ·repeat' (first | with_reducible exact zS | refine zZ rfl ?_ | refine zT rfl rfl ?_)
   exact ⟨(n324, x371, x354.text, x354.at_, x354.now.kind, x354.now.at_, x354.now.n, x354.now.text, x354.r.Phases, x354.r.Moves, x354.r.Rules, v373, v358, v359, v360), (zQ rfl zU), ⟨H.pick [0, 1, 2, 3, 8, 5, 6, 7, 9, 10] (by decide), hF⟩, Nat.lt_succ_self _⟩
  have hF := zW c341 hF
  have hR := Option.some.inj hF
  subst hR
  refine (xW (yU (yU (xE (zB (And.intro ?_ ?_))))))
  ·repeat' (first | with_reducible exact zS | refine zZ rfl ?_ | refine zT rfl rfl ?_)
  exact ⟨(v303, v312, v315, v318), (zQ rfl zU), H.pick [0, 1, 2, 3, 4, 5, 6, 7, 8, 9] (by decide)⟩
 rintro ⟨v166, v175, v178, v181⟩ ρ w182 H
 have hF := hK183
 obtain ⟨g165, g167, g168, g169, g170, g171, g172, g174, g177, g180⟩ := j184
 refine zD fun K400 hK400 => ?_
 refine zD fun K401 hK401 => ?_
 refine zC ?_
 refine zA rfl rfl (zK (v := v166) rfl) ?_
 obtain ⟨x402, e403, hF⟩ := zF hF
 obtain ⟨a404, c405, q406⟩ := Sr.len (Sr.of_own (H.item (i := 0) rfl))
 refine zA rfl rfl (zM (xA u52 q406) (congrArg (Value.int .i64) e403)) ?_
 obtain ⟨x407, e408, hF⟩ := zF hF
 refine zA rfl rfl (zM (xC (a := x402) (b := 1) rfl rfl) (congrArg Value.bool e408)) ?_
 refine (zJ (zB (hK401 _ _ ?_)))
 refine yH (b := x407) rfl (fun c409 => ?_) (fun c409 => ?_)
 ·have hF := zV c409 hF
  refine zD fun K410 hK410 => ?_
  refine zC ?_
  refine zA rfl rfl (zK (v := v166) rfl) ?_
  obtain ⟨x411, e412, hF⟩ := zI hF
  obtain ⟨b413, c415, cs416, q417, h420, h421⟩ := own_at (H.item (i := 0) rfl) e412
  obtain ⟨v422, rfl, h423⟩ := rCond_open h420
  have H := H.fzs [.sl rCond v422 x411.Kids] ⟨h423, trivial⟩
  refine zA rfl rfl (xY u52 sz54 q417 rfl (yP e412).1 (yP e412).2.1 rfl rfl) ?_
  refine zA rfl rfl (zM (yT (cs := [.int .i64 x411.Kind, .string (bs x411.Name), .string (bs x411.Other), .int .i64 x411.Op, .int .i64 x411.N, .int .i64 x411.Frames, v422]) agg54 rfl sz54 rfl h421) rfl) ?_
  refine yV rfl (yN (vs := [.int .i64 x411.Kind, .string (bs x411.Name), .string (bs x411.Other), .int .i64 x411.Op, .int .i64 x411.N, .int .i64 x411.Frames, v422]) H 3 rfl sz54 rfl rfl rfl ⟨rfl, rfl, rfl, rfl, rfl, rfl, (slf_one (H.item (i := 10) rfl)), trivial⟩ rfl) ?_
  rintro w425 H
  refine (zJ (zB (hK410 _ _ ?_)))
  have hR := Option.some.inj hF
  subst hR
  refine (yG (yC (postc  rfl rfl (yL agg54 sz54 rfl (Blk.cells (H.item (i := 3) rfl))) ?_)))
  exact ⟨v422, v175, v178, v181, rfl, H.pick [10, 5, 6, 7, 4, 8, 9] (by decide)⟩
 have hF := zW c409 hF
 refine (yI (zB (hK400 _ _ ?_)))
 refine zD fun K426 hK426 => ?_
 refine zC ?_
 refine zA rfl rfl (zK (v := .int .i64 p2) rfl) ?_
 refine zA rfl rfl (zK (v := v166) rfl) ?_
 obtain ⟨a427, c428, q429⟩ : ∃ a c, v166 = .slice a _ c := Sr.len (Sr.of_own (H.item (i := 0) rfl))
 refine zA rfl rfl (xM (cs := [.int .i64 p2, .string (bs []), .string (bs []), .int .i64 0, .int .i64 0, .int .i64 0, v166]) (by rw [q429]; exact bt54_0_6 _ a427 _ c428)) ?_
 refine yV rfl (yN (vs := [.int .i64 p2, .string (bs []), .string (bs []), .int .i64 0, .int .i64 0, .int .i64 0, v166]) H 3 rfl sz54 rfl rfl rfl ⟨rfl, rfl, rfl, rfl, rfl, rfl, (own_one (H.item (i := 0) rfl)), trivial⟩ rfl) ?_
 rintro w430 H
 refine (zJ (zB (hK426 _ _ ?_)))
 have H := H.freeze (i := 0) rfl
 have hR := Option.some.inj hF
 subst hR
 refine (yG (postc  rfl rfl (yL agg54 sz54 rfl (Blk.cells (H.item (i := 3) rfl))) ?_))
 exact ⟨v166, v175, v178, v181, rfl, H.pick [0, 5, 6, 7, 4, 8, 9] (by decide)⟩
end Go.Proofs.YtnajnkghilemhaaGreatDoor.L
namespace Go.Proofs.YtnajnkghilemhaaGreatDoor.L
open Go.RowKit Go.OB Go.Lf
/- (*orangebox/event.reader).cond$1~pdd -/
set_option maxHeartbeats 4000000 in
theorem F_event_reader_cond_1_pdd_w (rfB : EventReader → Int → Option (Cond × EventReader)) (rhB : S_event_reader_cond rfB) (c0p : EventReader) (c1 : Int) (b1 : Nat) (b3 : Nat) (v4 : Value) (v5 : Value) (v6 : Value) (b11 : Nat) (r : Cond × EventReader) (hF : F_event_reader_cond_1_pdd rfB c0p c1 = some r) (O S : List Nat) (w : World) (H : Hd O w w S [.own Rp.str v4 9 c0p.r.Phases, .own rMoveT v5 102 c0p.r.Moves, .own rRule v6 106 c0p.r.Rules, .blk b3 [.string (bs c0p.text), .int .i64 c0p.at_, .int .i64 c0p.now.kind, .int .i64 c0p.now.at_, .int .i64 c0p.now.n, .string (bs c0p.now.text), v4, v5, v6] 88, .blk b1 [.pointer (some ⟨b3, 0, none⟩)] 84, .blk b11 [.int .i64 c1] 3, .fz (.at 0 0 ((Fl.arr 7 Fl.str).f zO)), .fz (.gi 4)]) :
  Calls Tryz.prog 142 ([.pointer (some ⟨b1, 0, none⟩), .pointer (some ⟨b11, 0, none⟩)] : List Value).toArray w fun e w' => ∃ u15 u16 u17 u18, e = .returned (.agg [.int .i64 r.1.Kind, .string (bs r.1.Name), .string (bs r.1.Other), .int .i64 r.1.Op, .int .i64 r.1.N, .int .i64 r.1.Frames, u15].toArray) ∧ Hd O w w' S [.fz (.sl rCond u15 r.1.Kids), .own Rp.str u16 9 r.2.r.Phases, .own rMoveT u17 102 r.2.r.Moves, .own rRule u18 106 r.2.r.Rules, .blk b3 [.string (bs r.2.text), .int .i64 r.2.at_, .int .i64 r.2.now.kind, .int .i64 r.2.now.at_, .int .i64 r.2.now.n, .string (bs r.2.now.text), u16, u17, u18] 88, .blk b1 [.pointer (some ⟨b3, 0, none⟩)] 84, .blk b11 [.int .i64 c1] 3] := by
 unfold F_event_reader_cond_1_pdd at hF
 refine yD 6 Tryz.func142 rfl rfl rfl ?_
 refine zD fun K19 hK19 => ?_
 refine zC ?_
 refine yY rfl rfl (xJ zero54 H) ?_
 rintro _ w22 ⟨b20, rfl, H⟩
 refine (zJ (zB (hK19 _ _ ?_)))
 refine zD fun K23 hK23 => ?_
 refine zC ?_
 refine zA rfl rfl (zL one84 rfl (Cells.get (Blk.cells (H.item (i := 4) rfl)) (i := 0) rfl)) ?_
 refine zA rfl rfl (Do_makeFunc rfl) ?_
 obtain ⟨⟨x24, x25⟩, e26, hF⟩ := zI hF
 refine yA rfl rfl (zX en141 rfl) (F_event_reader_list_event_reader_cond_1_1_pa0d_w rfB rhB c0p [97, 110, 100] 9 c1 b3 v4 v5 v6 b1 b11 _ e26 _ _ _ (H.enter [0, 1, 2, 3, 4, 5] [6, 7] (by decide) rfl)) ?_
 rintro _ w35 ⟨v27, v29, v30, v31, rfl, G36⟩
 have H : Hd O _ w35 _ [.fz (.at 0 0 ((Fl.arr 7 Fl.str).f zO)), .fz (.gi 4), .blk b20 [.int .i64 0, .string (bs []), .string (bs []), .int .i64 0, .int .i64 0, .int .i64 0, .slice none 0 0] 54, .fz (.sl rCond v27 x24.Kids), .own Rp.str v29 9 x25.r.Phases, .own rMoveT v30 102 x25.r.Moves, .own rRule v31 106 x25.r.Rules, .blk b3 [.string (bs x25.text), .int .i64 x25.at_, .int .i64 x25.now.kind, .int .i64 x25.now.at_, .int .i64 x25.now.n, .string (bs x25.now.text), v29, v30, v31] 88, .blk b1 [.pointer (some ⟨b3, 0, none⟩)] 84, .blk b11 [.int .i64 c1] 3] := H.back [0, 1, 2, 3, 4, 5] [6, 7] rfl G36
 refine ⟨_, rfl, ?_⟩
 refine yV rfl (yN (vs := [.int .i64 x24.Kind, .string (bs x24.Name), .string (bs x24.Other), .int .i64 x24.Op, .int .i64 x24.N, .int .i64 x24.Frames, v27]) H 2 rfl sz54 rfl rfl rfl ⟨rfl, rfl, rfl, rfl, rfl, rfl, (slf_one (H.item (i := 3) rfl)), trivial⟩ rfl) ?_
 rintro w37 H
 refine (zJ (zB (hK23 _ _ ?_)))
 have hR := Option.some.inj hF
 subst hR
 refine (yG (postc  rfl rfl (yL agg54 sz54 rfl (Blk.cells (H.item (i := 2) rfl))) ?_))
 exact ⟨v27, v29, v30, v31, rfl, H.pick [3, 4, 5, 6, 7, 8, 9] (by decide)⟩
end Go.Proofs.YtnajnkghilemhaaGreatDoor.L
namespace Go.Proofs.YtnajnkghilemhaaGreatDoor.L
open Go.RowKit Go.OB Go.Lf
/- (*orangebox/event.reader).list@(*orangebox/event.reader).cond$1~pa0d -/
set_option maxHeartbeats 4000000 in
theorem F_event_reader_list_event_reader_cond_1_pa0d_w (rfB : EventReader → Int → Option (Cond × EventReader)) (rhB : S_event_reader_cond rfB) (p0 : EventReader) (p1 : Str) (p2 : Int) (p3c1 : Int) (b1 : Nat) (v2 : Value) (v3 : Value) (v4 : Value) (b9 : Nat) (b11 : Nat) (r : Cond × EventReader) (hF : F_event_reader_list_event_reader_cond_1_pa0d rfB p0 p1 p2 p3c1 = some r) (O S : List Nat) (w : World) (H : Hd O w w S [.own Rp.str v2 9 p0.r.Phases, .own rMoveT v3 102 p0.r.Moves, .own rRule v4 106 p0.r.Rules, .blk b1 [.string (bs p0.text), .int .i64 p0.at_, .int .i64 p0.now.kind, .int .i64 p0.now.at_, .int .i64 p0.now.n, .string (bs p0.now.text), v2, v3, v4] 88, .blk b9 [.pointer (some ⟨b1, 0, none⟩)] 84, .blk b11 [.int .i64 p3c1] 3, .fz (.at 0 0 ((Fl.arr 7 Fl.str).f zO)), .fz (.gi 4)]) :
  Calls Tryz.prog 141 ([.pointer (some ⟨b1, 0, none⟩), .string (bs p1), .int .i64 p2, .func (.func 142) #[] #[.pointer (some ⟨b9, 0, none⟩), .pointer (some ⟨b11, 0, none⟩)]] : List Value).toArray w fun e w' => ∃ u15 u16 u17 u18, e = .returned (.agg [.int .i64 r.1.Kind, .string (bs r.1.Name), .string (bs r.1.Other), .int .i64 r.1.Op, .int .i64 r.1.N, .int .i64 r.1.Frames, u15].toArray) ∧ Hd O w w' S [.fz (.sl rCond u15 r.1.Kids), .own Rp.str u16 9 r.2.r.Phases, .own rMoveT u17 102 r.2.r.Moves, .own rRule u18 106 r.2.r.Rules, .blk b1 [.string (bs r.2.text), .int .i64 r.2.at_, .int .i64 r.2.now.kind, .int .i64 r.2.now.at_, .int .i64 r.2.now.n, .string (bs r.2.now.text), u16, u17, u18] 88, .blk b9 [.pointer (some ⟨b1, 0, none⟩)] 84, .blk b11 [.int .i64 p3c1] 3] := by
 unfold F_event_reader_list_event_reader_cond_1_pa0d at hF
 refine yD 32 Tryz.func141 rfl rfl rfl ?_
 refine zD fun K19 hK19 => ?_
 refine zC ?_
 refine yY rfl rfl (xJ zero54 H) ?_
 rintro _ w22 ⟨b20, rfl, H⟩
 refine (zJ (zB (hK19 _ _ ?_)))
 refine zD fun K23 hK23 => ?_
 refine zC ?_
 refine zA rfl rfl (zK (v := .func (.func 142) #[] #[.pointer (some ⟨b9, 0, none⟩), .pointer (some ⟨b11, 0, none⟩)]) rfl) ?_
 obtain ⟨⟨x24, x25⟩, e26, hF⟩ := zI hF
 refine yA rfl rfl (wH en142 rfl rfl) (F_event_reader_cond_1_pdd_w rfB rhB p0 p3c1 b9 b1 v2 v3 v4 b11 _ e26 _ _ _ (H.enter [0, 1, 2, 3, 4, 5] [6, 7] (by decide) rfl)) ?_
 rintro _ w35 ⟨v27, v29, v30, v31, rfl, G36⟩
 have H : Hd O _ w35 _ [.fz (.at 0 0 ((Fl.arr 7 Fl.str).f zO)), .fz (.gi 4), .blk b20 [.int .i64 0, .string (bs []), .string (bs []), .int .i64 0, .int .i64 0, .int .i64 0, .slice none 0 0] 54, .fz (.sl rCond v27 x24.Kids), .own Rp.str v29 9 x25.r.Phases, .own rMoveT v30 102 x25.r.Moves, .own rRule v31 106 x25.r.Rules, .blk b1 [.string (bs x25.text), .int .i64 x25.at_, .int .i64 x25.now.kind, .int .i64 x25.now.at_, .int .i64 x25.now.n, .string (bs x25.now.text), v29, v30, v31] 88, .blk b9 [.pointer (some ⟨b1, 0, none⟩)] 84, .blk b11 [.int .i64 p3c1] 3] := H.back [0, 1, 2, 3, 4, 5] [6, 7] rfl G36
 refine ⟨_, rfl, ?_⟩
 obtain ⟨x37, e38, hF⟩ := zF hF
 subst e38
 refine yY rfl rfl (Lx_bs (r := rCond) (xl := [x24]) (cs := [.int .i64 x24.Kind, .string (bs x24.Name), .string (bs x24.Other), .int .i64 x24.Op, .int .i64 x24.N, .int .i64 x24.Frames, v27]) u52 el54 (by decide) (by decide) rfl (wF (vs := [.agg [.int .i64 x24.Kind, .string (bs x24.Name), .string (bs x24.Other), .int .i64 x24.Op, .int .i64 x24.N, .int .i64 x24.Frames, v27].toArray]) (by decide) rfl rfl ⟨rfl, trivial⟩ rfl) H ⟨[.int .i64 x24.Kind, .string (bs x24.Name), .string (bs x24.Other), .int .i64 x24.Op, .int .i64 x24.N, .int .i64 x24.Frames, v27], [], rfl, (rCond_mk (x := x24) (H.item (i := 3) rfl)), rfl⟩) ?_
 rintro v40 w41 H
 refine zA rfl rfl (zG (v := v40) rfl) ?_
 refine (zJ (zB (hK23 _ _ ?_)))
 obtain ⟨j184, hF, hK183⟩ := zI hF
 refine yQ [9, 13, 14, 15, 16, 17, 18, 19, 20, 21, 22] (fun (g : Value × Value × Value × Value) => [(9, g.1)]) (fun g wl => Hd O w wl S [.own rCond g.1 54 j184.1, .fz (.at 0 0 ((Fl.arr 7 Fl.str).f zO)), .fz (.gi 4), .blk b20 [.int .i64 0, .string (bs []), .string (bs []), .int .i64 0, .int .i64 0, .int .i64 0, .slice none 0 0] 54, .blk b1 [.string (bs j184.2.1), .int .i64 j184.2.2.1, .int .i64 j184.2.2.2.1, .int .i64 j184.2.2.2.2.1, .int .i64 j184.2.2.2.2.2.1, .string (bs j184.2.2.2.2.2.2.1), g.2.1, g.2.2.1, g.2.2.2] 88, .own Rp.str g.2.1 9 j184.2.2.2.2.2.2.2.1, .own rMoveT g.2.2.1 102 j184.2.2.2.2.2.2.2.2.1, .own rRule g.2.2.2 106 j184.2.2.2.2.2.2.2.2.2, .blk b9 [.pointer (some ⟨b1, 0, none⟩)] 84, .blk b11 [.int .i64 p3c1] 3]) ?_ ?_
 ·skip
  refine yM ?_
  unfold F_event_reader_list_event_reader_cond_1_pa0d_L1 at hF
  obtain ⟨B319, n320, eB321, hF⟩ := yZ hF
  refine xN [9, 13, 14, 15, 16, 17, 18, 19, 20, 21, 22] (fun (g : Nat × (List Cond) × Str × Int × Int × Int × Int × Str × (List Str) × (List MoveT) × (List Rule) × Value × Value × Value × Value) => [(9, g.2.2.2.2.2.2.2.2.2.2.2.1)]) (fun g wl => Hd O w wl S [.own rCond g.2.2.2.2.2.2.2.2.2.2.2.1 54 g.2.1, .fz (.at 0 0 ((Fl.arr 7 Fl.str).f zO)), .fz (.gi 4), .blk b20 [.int .i64 0, .string (bs []), .string (bs []), .int .i64 0, .int .i64 0, .int .i64 0, .slice none 0 0] 54, .blk b1 [.string (bs g.2.2.1), .int .i64 g.2.2.2.1, .int .i64 g.2.2.2.2.1, .int .i64 g.2.2.2.2.2.1, .int .i64 g.2.2.2.2.2.2.1, .string (bs g.2.2.2.2.2.2.2.1), g.2.2.2.2.2.2.2.2.2.2.2.2.1, g.2.2.2.2.2.2.2.2.2.2.2.2.2.1, g.2.2.2.2.2.2.2.2.2.2.2.2.2.2] 88, .own Rp.str g.2.2.2.2.2.2.2.2.2.2.2.2.1 9 g.2.2.2.2.2.2.2.2.1, .own rMoveT g.2.2.2.2.2.2.2.2.2.2.2.2.2.1 102 g.2.2.2.2.2.2.2.2.2.1, .own rRule g.2.2.2.2.2.2.2.2.2.2.2.2.2.2 106 g.2.2.2.2.2.2.2.2.2.2.1, .blk b9 [.pointer (some ⟨b1, 0, none⟩)] 84, .blk b11 [.int .i64 p3c1] 3] ∧ loopN B319 g.1 (g.2.1, g.2.2.1, g.2.2.2.1, g.2.2.2.2.1, g.2.2.2.2.2.1, g.2.2.2.2.2.2.1, g.2.2.2.2.2.2.2.1, g.2.2.2.2.2.2.2.2.1, g.2.2.2.2.2.2.2.2.2.1, g.2.2.2.2.2.2.2.2.2.2.1) = some j184) (fun g => g.1) (n320, ([x24] : List Cond), x25.text, x25.at_, x25.now.kind, x25.now.at_, x25.now.n, x25.now.text, x25.r.Phases, x25.r.Moves, x25.r.Rules, v40, v29, v30, v31) (zQ rfl zU) ⟨H.pick [10, 0, 1, 2, 7, 4, 5, 6, 8, 9] (by decide), hF⟩ ?_
  clear H hF
  rintro ⟨n320, g302, g304, g305, g306, g307, g308, g309, g311, g314, g317, v303, v312, v315, v318⟩ ρ w323 ⟨H, hF⟩
  obtain ⟨n324, rfl, hF⟩ := xH hF
  have hF := xG eB321 hF
  refine zD fun K333 hK333 => ?_
  refine zD fun K334 hK334 => ?_
  refine zC ?_
  refine zA rfl rfl (zK (v := .pointer (some ⟨b1, 0, none⟩)) rfl) ?_
  refine zA rfl rfl (zK (v := .string (bs p1)) rfl) ?_
  have H335 := H
  have H := H.freezeB (i := 4) rfl
  have H := H.freeze (i := 5) rfl
  have H := H.freeze (i := 6) rfl
  have H := H.freeze (i := 7) rfl
  have H := H.fz (.pt rEventReader (some ⟨b1, 0, none⟩) (some (EventReader.mk g304 g305 (EventToken.mk g306 g307 g308 g309) (Rules.mk g311 g314 g317)))) ⟨_, _, _, rfl, (H.item (i := 4) rfl).1, (H.item (i := 4) rfl).2.1, (xP (x := EventReader.mk g304 g305 (EventToken.mk g306 g307 g308 g309) (Rules.mk g311 g314 g317)) (H.item (i := 5) rfl) (H.item (i := 6) rfl) (H.item (i := 7) rfl)), (H.item (i := 4) rfl).2.2⟩
  obtain ⟨x337, e338, hF⟩ := zI hF
  refine yA rfl rfl (zX en88 rfl) (F_event_reader_is_w (some (EventReader.mk g304 g305 (EventToken.mk g306 g307 g308 g309) (Rules.mk g311 g314 g317))) p1 (some ⟨b1, 0, none⟩) _ e338 _ _ _ (H.enter [] [10] (by decide) rfl)) ?_
  rintro _ w339 ⟨rfl, G340⟩
  have H := H335.step (G340.only : Only [] _ _)
  refine ⟨_, rfl, ?_⟩
  refine (zJ (zB (hK334 _ _ ?_)))
  refine yH (b := x337) rfl (fun c341 => ?_) (fun c341 => ?_)
  ·have hF := zV c341 hF
   refine (yI (zB (hK333 _ _ ?_)))
   refine yM ?_
   refine zD fun K342 hK342 => ?_
   refine zC ?_
   refine zA rfl rfl (zK (v := .pointer (some ⟨b1, 0, none⟩)) rfl) ?_
   obtain ⟨x343, e344, hF⟩ := zI hF
   refine yA rfl rfl (zX en87 rfl) (F_event_reader_advance_w (EventReader.mk g304 g305 (EventToken.mk g306 g307 g308 g309) (Rules.mk g311 g314 g317)) b1 v312 v315 v318 _ e344 _ _ _ (H.enter [5, 6, 7, 4] [2] (by decide) rfl)) ?_
   rintro _ w351 ⟨v345, v346, v347, rfl, G352⟩
   have H : Hd O _ w351 _ [.own rCond v303 54 g302, .fz (.at 0 0 ((Fl.arr 7 Fl.str).f zO)), .fz (.gi 4), .blk b20 [.int .i64 0, .string (bs []), .string (bs []), .int .i64 0, .int .i64 0, .int .i64 0, .slice none 0 0] 54, .blk b9 [.pointer (some ⟨b1, 0, none⟩)] 84, .blk b11 [.int .i64 p3c1] 3, .own Rp.str v345 9 x343.r.Phases, .own rMoveT v346 102 x343.r.Moves, .own rRule v347 106 x343.r.Rules, .blk b1 [.string (bs x343.text), .int .i64 x343.at_, .int .i64 x343.now.kind, .int .i64 x343.now.at_, .int .i64 x343.now.n, .string (bs x343.now.text), v345, v346, v347] 88] := H.back [5, 6, 7, 4] [2] rfl G352
   refine ⟨_, rfl, ?_⟩
   refine (zJ (zB (hK342 _ _ ?_)))
   refine zC ?_
   refine zA rfl rfl (zK (v := v303) rfl) ?_
   refine zA rfl rfl (zK (v := .func (.func 142) #[] #[.pointer (some ⟨b9, 0, none⟩), .pointer (some ⟨b11, 0, none⟩)]) rfl) ?_
   obtain ⟨⟨x353, x354⟩, e355, hF⟩ := zI hF
   refine yA rfl rfl (wH en142 rfl rfl) (F_event_reader_cond_1_pdd_w rfB rhB x343 p3c1 b9 b1 v345 v346 v347 b11 _ e355 _ _ _ (H.enter [6, 7, 8, 9, 4, 5] [1, 2] (by decide) rfl)) ?_
   rintro _ w364 ⟨v356, v358, v359, v360, rfl, G365⟩
   have H : Hd O _ w364 _ [.own rCond v303 54 g302, .fz (.at 0 0 ((Fl.arr 7 Fl.str).f zO)), .fz (.gi 4), .blk b20 [.int .i64 0, .string (bs []), .string (bs []), .int .i64 0, .int .i64 0, .int .i64 0, .slice none 0 0] 54, .fz (.sl rCond v356 x353.Kids), .own Rp.str v358 9 x354.r.Phases, .own rMoveT v359 102 x354.r.Moves, .own rRule v360 106 x354.r.Rules, .blk b1 [.string (bs x354.text), .int .i64 x354.at_, .int .i64 x354.now.kind, .int .i64 x354.now.at_, .int .i64 x354.now.n, .string (bs x354.now.text), v358, v359, v360] 88, .blk b9 [.pointer (some ⟨b1, 0, none⟩)] 84, .blk b11 [.int .i64 p3c1] 3] := H.back [6, 7, 8, 9, 4, 5] [1, 2] rfl G365
   refine ⟨_, rfl, ?_⟩
   obtain ⟨x366, e367, hF⟩ := zF hF
   subst e367
   refine yY rfl rfl (Lx_bs (r := rCond) (xl := [x353]) (cs := [.int .i64 x353.Kind, .string (bs x353.Name), .string (bs x353.Other), .int .i64 x353.Op, .int .i64 x353.N, .int .i64 x353.Frames, v356]) u52 el54 (by decide) (by decide) rfl (wF (vs := [.agg [.int .i64 x353.Kind, .string (bs x353.Name), .string (bs x353.Other), .int .i64 x353.Op, .int .i64 x353.N, .int .i64 x353.Frames, v356].toArray]) (by decide) rfl rfl ⟨rfl, trivial⟩ rfl) H ⟨[.int .i64 x353.Kind, .string (bs x353.Name), .string (bs x353.Other), .int .i64 x353.Op, .int .i64 x353.N, .int .i64 x353.Frames, v356], [], rfl, (rCond_mk (x := x353) (H.item (i := 4) rfl)), rfl⟩) ?_
   rintro v369 w370 H
   obtain ⟨x371, e372, hF⟩ := zI hF
   refine yY rfl rfl (Lx_app H (i := 0) rfl u52 el54 rfl rfl (Sr.of_own (H.item (i := 11) rfl)) e372) ?_
   rintro v373 w374 H
   refine zA rfl rfl (zG (v := v373) rfl) ?_
   refine (zJ (yX (zB (And.intro ?_ ?_))))
   ·repeat' (first | with_reducible exact zS | refine zZ rfl ?_ | refine zT rfl rfl ?_)
   exact ⟨(n324, x371, x354.text, x354.at_, x354.now.kind, x354.now.at_, x354.now.n, x354.now.text, x354.r.Phases, x354.r.Moves, x354.r.Rules, v373, v358, v359, v360), (zQ rfl zU), ⟨H.pick [0, 1, 2, 3, 8, 5, 6, 7, 9, 10] (by decide), hF⟩, Nat.lt_succ_self _⟩
  have hF := zW c341 hF
  have hR := Option.some.inj hF
  subst hR
  refine (xW (yU (yU (xE (zB (And.intro ?_ ?_))))))
  ·repeat' (first | with_reducible exact zS | refine zZ rfl ?_ | refine zT rfl rfl ?_)
  exact ⟨(v303, v312, v315, v318), (zQ rfl zU), H.pick [0, 1, 2, 3, 4, 5, 6, 7, 8, 9] (by decide)⟩
 rintro ⟨v166, v175, v178, v181⟩ ρ w182 H
 have hF := hK183
 obtain ⟨g165, g167, g168, g169, g170, g171, g172, g174, g177, g180⟩ := j184
 refine zD fun K400 hK400 => ?_
 refine zD fun K401 hK401 => ?_
 refine zC ?_
 refine zA rfl rfl (zK (v := v166) rfl) ?_
 obtain ⟨x402, e403, hF⟩ := zF hF
 obtain ⟨a404, c405, q406⟩ := Sr.len (Sr.of_own (H.item (i := 0) rfl))
 refine zA rfl rfl (zM (xA u52 q406) (congrArg (Value.int .i64) e403)) ?_
 obtain ⟨x407, e408, hF⟩ := zF hF
 refine zA rfl rfl (zM (xC (a := x402) (b := 1) rfl rfl) (congrArg Value.bool e408)) ?_
 refine (zJ (zB (hK401 _ _ ?_)))
 refine yH (b := x407) rfl (fun c409 => ?_) (fun c409 => ?_)
 ·have hF := zV c409 hF
  refine zD fun K410 hK410 => ?_
  refine zC ?_
  refine zA rfl rfl (zK (v := v166) rfl) ?_
  obtain ⟨x411, e412, hF⟩ := zI hF
  obtain ⟨b413, c415, cs416, q417, h420, h421⟩ := own_at (H.item (i := 0) rfl) e412
  obtain ⟨v422, rfl, h423⟩ := rCond_open h420
  have H := H.fzs [.sl rCond v422 x411.Kids] ⟨h423, trivial⟩
  refine zA rfl rfl (xY u52 sz54 q417 rfl (yP e412).1 (yP e412).2.1 rfl rfl) ?_
  refine zA rfl rfl (zM (yT (cs := [.int .i64 x411.Kind, .string (bs x411.Name), .string (bs x411.Other), .int .i64 x411.Op, .int .i64 x411.N, .int .i64 x411.Frames, v422]) agg54 rfl sz54 rfl h421) rfl) ?_
  refine yV rfl (yN (vs := [.int .i64 x411.Kind, .string (bs x411.Name), .string (bs x411.Other), .int .i64 x411.Op, .int .i64 x411.N, .int .i64 x411.Frames, v422]) H 3 rfl sz54 rfl rfl rfl ⟨rfl, rfl, rfl, rfl, rfl, rfl, (slf_one (H.item (i := 10) rfl)), trivial⟩ rfl) ?_
  rintro w425 H
  refine (zJ (zB (hK410 _ _ ?_)))
  have hR := Option.some.inj hF
  subst hR
  refine (yG (yC (postc  rfl rfl (yL agg54 sz54 rfl (Blk.cells (H.item (i := 3) rfl))) ?_)))
  exact ⟨v422, v175, v178, v181, rfl, H.pick [10, 5, 6, 7, 4, 8, 9] (by decide)⟩
 have hF := zW c409 hF
 refine (yI (zB (hK400 _ _ ?_)))
 refine zD fun K426 hK426 => ?_
 refine zC ?_
 refine zA rfl rfl (zK (v := .int .i64 p2) rfl) ?_
 refine zA rfl rfl (zK (v := v166) rfl) ?_
 obtain ⟨a427, c428, q429⟩ : ∃ a c, v166 = .slice a _ c := Sr.len (Sr.of_own (H.item (i := 0) rfl))
 refine zA rfl rfl (xM (cs := [.int .i64 p2, .string (bs []), .string (bs []), .int .i64 0, .int .i64 0, .int .i64 0, v166]) (by rw [q429]; exact bt54_0_6 _ a427 _ c428)) ?_
 refine yV rfl (yN (vs := [.int .i64 p2, .string (bs []), .string (bs []), .int .i64 0, .int .i64 0, .int .i64 0, v166]) H 3 rfl sz54 rfl rfl rfl ⟨rfl, rfl, rfl, rfl, rfl, rfl, (own_one (H.item (i := 0) rfl)), trivial⟩ rfl) ?_
 rintro w430 H
 refine (zJ (zB (hK426 _ _ ?_)))
 have H := H.freeze (i := 0) rfl
 have hR := Option.some.inj hF
 subst hR
 refine (yG (postc  rfl rfl (yL agg54 sz54 rfl (Blk.cells (H.item (i := 3) rfl))) ?_))
 exact ⟨v166, v175, v178, v181, rfl, H.pick [0, 5, 6, 7, 4, 8, 9] (by decide)⟩
end Go.Proofs.YtnajnkghilemhaaGreatDoor.L
namespace Go.Proofs.YtnajnkghilemhaaGreatDoor.L
open Go.RowKit Go.OB Go.Lf
/- (*orangebox/event.reader).cond -/
set_option maxHeartbeats 4000000 in
theorem F_event_reader_cond_B_w (rfB : EventReader → Int → Option (Cond × EventReader)) (rhB : S_event_reader_cond rfB) (p0 : EventReader) (p1 : Int) (b1 : Nat) (v2 : Value) (v3 : Value) (v4 : Value) (r : Cond × EventReader) (hF : F_event_reader_cond_B rfB p0 p1 = some r) (O S : List Nat) (w : World) (H : Hd O w w S [.own Rp.str v2 9 p0.r.Phases, .own rMoveT v3 102 p0.r.Moves, .own rRule v4 106 p0.r.Rules, .blk b1 [.string (bs p0.text), .int .i64 p0.at_, .int .i64 p0.now.kind, .int .i64 p0.now.at_, .int .i64 p0.now.n, .string (bs p0.now.text), v2, v3, v4] 88, .fz (.at 0 0 ((Fl.arr 7 Fl.str).f zO)), .fz (.gi 4)]) :
  Calls Tryz.prog 91 ([.pointer (some ⟨b1, 0, none⟩), .int .i64 p1] : List Value).toArray w fun e w' => ∃ u11 u12 u13 u14, e = .returned (.agg [.int .i64 r.1.Kind, .string (bs r.1.Name), .string (bs r.1.Other), .int .i64 r.1.Op, .int .i64 r.1.N, .int .i64 r.1.Frames, u11].toArray) ∧ Hd O w w' S [.fz (.sl rCond u11 r.1.Kids), .own Rp.str u12 9 r.2.r.Phases, .own rMoveT u13 102 r.2.r.Moves, .own rRule u14 106 r.2.r.Rules, .blk b1 [.string (bs r.2.text), .int .i64 r.2.at_, .int .i64 r.2.now.kind, .int .i64 r.2.now.at_, .int .i64 r.2.now.n, .string (bs r.2.now.text), u12, u13, u14] 88] := by
 unfold F_event_reader_cond_B at hF
 refine yD 8 Tryz.func91 rfl rfl rfl ?_
 refine zD fun K15 hK15 => ?_
 refine zC ?_
 refine yY rfl rfl (Lx_box1 rfl rfl H) ?_
 rintro _ w18 ⟨b16, rfl, H⟩
 refine yY rfl rfl (Lx_box1 rfl rfl H) ?_
 rintro _ w21 ⟨b19, rfl, H⟩
 refine yY rfl rfl (xJ zero54 H) ?_
 rintro _ w24 ⟨b22, rfl, H⟩
 refine (zJ (zB (hK15 _ _ ?_)))
 refine zD fun K25 hK25 => ?_
 refine zC ?_
 refine zA rfl rfl (zL one84 rfl (Cells.get (Blk.cells (H.item (i := 6) rfl)) (i := 0) rfl)) ?_
 refine zA rfl rfl (Do_makeFunc rfl) ?_
 obtain ⟨⟨x26, x27⟩, e28, hF⟩ := zI hF
 refine yA rfl rfl (zX en141 rfl) (F_event_reader_list_event_reader_cond_1_pa0d_w rfB rhB p0 [111, 114] 10 p1 b1 v2 v3 v4 b16 b19 _ e28 _ _ _ (H.enter [0, 1, 2, 3, 6, 7] [4, 5] (by decide) rfl)) ?_
 rintro _ w37 ⟨v29, v31, v32, v33, rfl, G38⟩
 have H : Hd O _ w37 _ [.fz (.at 0 0 ((Fl.arr 7 Fl.str).f zO)), .fz (.gi 4), .blk b22 [.int .i64 0, .string (bs []), .string (bs []), .int .i64 0, .int .i64 0, .int .i64 0, .slice none 0 0] 54, .fz (.sl rCond v29 x26.Kids), .own Rp.str v31 9 x27.r.Phases, .own rMoveT v32 102 x27.r.Moves, .own rRule v33 106 x27.r.Rules, .blk b1 [.string (bs x27.text), .int .i64 x27.at_, .int .i64 x27.now.kind, .int .i64 x27.now.at_, .int .i64 x27.now.n, .string (bs x27.now.text), v31, v32, v33] 88, .blk b16 [.pointer (some ⟨b1, 0, none⟩)] 84, .blk b19 [.int .i64 p1] 3] := H.back [0, 1, 2, 3, 6, 7] [4, 5] rfl G38
 refine ⟨_, rfl, ?_⟩
 refine yV rfl (yN (vs := [.int .i64 x26.Kind, .string (bs x26.Name), .string (bs x26.Other), .int .i64 x26.Op, .int .i64 x26.N, .int .i64 x26.Frames, v29]) H 2 rfl sz54 rfl rfl rfl ⟨rfl, rfl, rfl, rfl, rfl, rfl, (slf_one (H.item (i := 3) rfl)), trivial⟩ rfl) ?_
 rintro w39 H
 refine (zJ (zB (hK25 _ _ ?_)))
 have hR := Option.some.inj hF
 subst hR
 refine (yG (postc  rfl rfl (yL agg54 sz54 rfl (Blk.cells (H.item (i := 2) rfl))) ?_))
 exact ⟨v29, v31, v32, v33, rfl, H.pick [3, 4, 5, 6, 7] (by decide)⟩
theorem F_event_reader_cond_s : S_event_reader_cond (F_event_reader_cond) := by
 have h : ∀ n, S_event_reader_cond (F_event_reader_cond_R n) := by
  intro n
  induction n with
  | zero => intro p0 p1 b1 v2 v3 v4 r hF; cases hF
  | succ n ih => intro p0 p1 b1 v2 v3 v4 r hF; exact F_event_reader_cond_B_w (F_event_reader_cond_R n) ih p0 p1 b1 v2 v3 v4 r hF
 exact h FU
end Go.Proofs.YtnajnkghilemhaaGreatDoor.L
namespace Go.Proofs.YtnajnkghilemhaaGreatDoor.L
open Go.RowKit Go.OB Go.Lf
/- (*orangebox/event.reader).rules -/
set_option maxHeartbeats 4000000 in
theorem F_event_reader_rules_w (p0 : EventReader) (b1 : Nat) (v2 : Value) (v3 : Value) (v4 : Value) (r : EventReader) (hF : F_event_reader_rules p0 = some r) (O S : List Nat) (w : World) (H : Hd O w w S [.own Rp.str v2 9 p0.r.Phases, .own rMoveT v3 102 p0.r.Moves, .own rRule v4 106 p0.r.Rules, .blk b1 [.string (bs p0.text), .int .i64 p0.at_, .int .i64 p0.now.kind, .int .i64 p0.now.at_, .int .i64 p0.now.n, .string (bs p0.now.text), v2, v3, v4] 88, .fz (.at 0 0 ((Fl.arr 7 Fl.str).f zO)), .fz (.gi 4)]) :
  Calls Tryz.prog 39 ([.pointer (some ⟨b1, 0, none⟩)] : List Value).toArray w fun e w' => ∃ u11 u12 u13, e = .returned (.tuple #[]) ∧ Hd O w w' S [.own Rp.str u11 9 r.r.Phases, .own rMoveT u12 102 r.r.Moves, .own rRule u13 106 r.r.Rules, .blk b1 [.string (bs r.text), .int .i64 r.at_, .int .i64 r.now.kind, .int .i64 r.now.at_, .int .i64 r.now.n, .string (bs r.now.text), u11, u12, u13] 88] := by
 unfold F_event_reader_rules at hF
 refine yD 81 Tryz.func39 rfl rfl rfl ?_
 obtain ⟨j104, hF, hK103⟩ := zI hF
 refine yQ [4, 5, 6, 7, 8, 9, 10, 11, 12, 13, 14, 15, 16, 17, 18, 19, 20, 21, 22] (fun (g : Value × Value × Value) => []) (fun g wl => Hd O w wl S [.blk b1 [.string (bs j104.1), .int .i64 j104.2.1, .int .i64 j104.2.2.1, .int .i64 j104.2.2.2.1, .int .i64 j104.2.2.2.2.1, .string (bs j104.2.2.2.2.2.1), g.1, g.2.1, g.2.2] 88, .own Rp.str g.1 9 j104.2.2.2.2.2.2.1, .own rMoveT g.2.1 102 j104.2.2.2.2.2.2.2.1, .own rRule g.2.2 106 j104.2.2.2.2.2.2.2.2, .fz (.at 0 0 ((Fl.arr 7 Fl.str).f zO)), .fz (.gi 4)]) ?_ ?_
 ·skip
  refine zD fun K105 hK105 => ?_
  refine zC ?_
  refine zA rfl rfl (zK (v := .pointer (some ⟨b1, 0, none⟩)) rfl) ?_
  obtain ⟨x106, e107, hF⟩ := zI hF
  refine yA rfl rfl (zX en87 rfl) (F_event_reader_advance_w p0 b1 v2 v3 v4 _ e107 _ _ _ (H.enter [0, 1, 2, 3] [5] (by decide) rfl)) ?_
  rintro _ w114 ⟨v108, v109, v110, rfl, G115⟩
  have H : Hd O _ w114 _ [.fz (.at 0 0 ((Fl.arr 7 Fl.str).f zO)), .fz (.gi 4), .own Rp.str v108 9 x106.r.Phases, .own rMoveT v109 102 x106.r.Moves, .own rRule v110 106 x106.r.Rules, .blk b1 [.string (bs x106.text), .int .i64 x106.at_, .int .i64 x106.now.kind, .int .i64 x106.now.at_, .int .i64 x106.now.n, .string (bs x106.now.text), v108, v109, v110] 88] := H.back [0, 1, 2, 3] [5] rfl G115
  refine ⟨_, rfl, ?_⟩
  refine (zJ (zB (hK105 _ _ ?_)))
  refine yM ?_
  unfold F_event_reader_rules_L1 at hF
  obtain ⟨B172, n173, eB174, hF⟩ := yZ hF
  refine xN [6, 7, 8, 9, 10, 11, 12, 13, 14, 15, 16, 17, 18, 19, 20, 21, 22] (fun (g : Nat) => []) (fun g wl => Hd O w wl S [.fz (.at 0 0 ((Fl.arr 7 Fl.str).f zO)), .fz (.gi 4), .own Rp.str v108 9 x106.r.Phases, .own rMoveT v109 102 x106.r.Moves, .own rRule v110 106 x106.r.Rules, .blk b1 [.string (bs x106.text), .int .i64 x106.at_, .int .i64 x106.now.kind, .int .i64 x106.now.at_, .int .i64 x106.now.n, .string (bs x106.now.text), v108, v109, v110] 88] ∧ loopN B172 g () = some j104) (fun g => g) n173 zU ⟨H.pick [0, 1, 2, 3, 4, 5] (by decide), hF⟩ ?_
  clear H hF
  rintro n173 ρ w176 ⟨H, hF⟩
  obtain ⟨n177, rfl, hF⟩ := xH hF
  have hF := xG eB174 hF
  refine zD fun K186 hK186 => ?_
  refine zD fun K187 hK187 => ?_
  refine zC ?_
  refine zA rfl rfl (zK (v := .pointer (some ⟨b1, 0, none⟩)) rfl) ?_
  have H188 := H
  have H := H.freezeB (i := 5) rfl
  have H := H.freeze (i := 2) rfl
  have H := H.freeze (i := 3) rfl
  have H := H.freeze (i := 4) rfl
  have H := H.fz (.pt rEventReader (some ⟨b1, 0, none⟩) (some x106)) ⟨_, _, _, rfl, (H.item (i := 5) rfl).1, (H.item (i := 5) rfl).2.1, (xP (x := x106) (H.item (i := 2) rfl) (H.item (i := 3) rfl) (H.item (i := 4) rfl)), (H.item (i := 5) rfl).2.2⟩
  obtain ⟨x190, e191, hF⟩ := zI hF
  refine yA rfl rfl (zX en88 rfl) (F_event_reader_is_w (some x106) [112, 104, 97, 115, 101] (some ⟨b1, 0, none⟩) _ e191 _ _ _ (H.enter [] [6] (by decide) rfl)) ?_
  rintro _ w192 ⟨rfl, G193⟩
  have H := H188.step (G193.only : Only [] _ _)
  refine ⟨_, rfl, ?_⟩
  refine (zJ (zB (hK187 _ _ ?_)))
  refine yH (b := x190) rfl (fun c194 => ?_) (fun c194 => ?_)
  ·have hF := zV c194 hF
   refine (yI (zB (hK186 _ _ ?_)))
   refine yM ?_
   refine zD fun K195 hK195 => ?_
   refine zC ?_
   refine zA rfl rfl (zK (v := .pointer (some ⟨b1, 0, none⟩)) rfl) ?_
   obtain ⟨x196, e197, hF⟩ := zI hF
   refine yA rfl rfl (zX en87 rfl) (F_event_reader_advance_w x106 b1 v108 v109 v110 _ e197 _ _ _ (H.enter [2, 3, 4, 5] [1] (by decide) rfl)) ?_
   rintro _ w204 ⟨v198, v199, v200, rfl, G205⟩
   have H : Hd O _ w204 _ [.fz (.at 0 0 ((Fl.arr 7 Fl.str).f zO)), .fz (.gi 4), .own Rp.str v198 9 x196.r.Phases, .own rMoveT v199 102 x196.r.Moves, .own rRule v200 106 x196.r.Rules, .blk b1 [.string (bs x196.text), .int .i64 x196.at_, .int .i64 x196.now.kind, .int .i64 x196.now.at_, .int .i64 x196.now.n, .string (bs x196.now.text), v198, v199, v200] 88] := H.back [2, 3, 4, 5] [1] rfl G205
   refine ⟨_, rfl, ?_⟩
   refine (zJ (zB (hK195 _ _ ?_)))
   cases hF
  have hF := zW c194 hF
  have hR := Option.some.inj hF
  subst hR
  refine (xW (yU (yU (xE (zB (And.intro ?_ ?_))))))
  ·repeat' (first | with_reducible exact zS | refine zZ rfl ?_ | refine zT rfl rfl ?_)
  exact ⟨(v108, v109, v110), zU, H.pick [5, 2, 3, 4, 0, 1] (by decide)⟩
 rintro ⟨v95, v98, v101⟩ ρ w102 H
 have hF := hK103
 obtain ⟨g87, g88, g89, g90, g91, g92, g94, g97, g100⟩ := j104
 obtain ⟨j432, hF, hK431⟩ := zI hF
 refine yQ [2, 23, 24, 25, 26, 27, 28, 29, 30, 31, 32, 33, 34, 35, 36, 37, 38, 39, 40, 41, 42, 43, 44, 45, 46, 47, 48] (fun (g : Value × Value × Value) => []) (fun g wl => Hd O w wl S [.blk b1 [.string (bs j432.1), .int .i64 j432.2.1, .int .i64 j432.2.2.1, .int .i64 j432.2.2.2.1, .int .i64 j432.2.2.2.2.1, .string (bs j432.2.2.2.2.2.1), g.1, g.2.1, g.2.2] 88, .own Rp.str g.1 9 j432.2.2.2.2.2.2.1, .own rMoveT g.2.1 102 j432.2.2.2.2.2.2.2.1, .own rRule g.2.2 106 j432.2.2.2.2.2.2.2.2, .fz (.at 0 0 ((Fl.arr 7 Fl.str).f zO)), .fz (.gi 4)]) ?_ ?_
 ·skip
  refine yM ?_
  unfold F_event_reader_rules_L2 at hF
  obtain ⟨B651, n652, eB653, hF⟩ := yZ hF
  refine xN [2, 23, 24, 25, 26, 27, 28, 29, 30, 31, 32, 33, 34, 35, 36, 37, 38, 39, 40, 41, 42, 43, 44, 45, 46, 47, 48] (fun (g : Nat × Str × Int × Int × Int × Int × Str × (List Str) × (List MoveT) × (List Rule) × Value × Value × Value) => []) (fun g wl => Hd O w wl S [.blk b1 [.string (bs g.2.1), .int .i64 g.2.2.1, .int .i64 g.2.2.2.1, .int .i64 g.2.2.2.2.1, .int .i64 g.2.2.2.2.2.1, .string (bs g.2.2.2.2.2.2.1), g.2.2.2.2.2.2.2.2.2.2.1, g.2.2.2.2.2.2.2.2.2.2.2.1, g.2.2.2.2.2.2.2.2.2.2.2.2] 88, .own Rp.str g.2.2.2.2.2.2.2.2.2.2.1 9 g.2.2.2.2.2.2.2.1, .own rMoveT g.2.2.2.2.2.2.2.2.2.2.2.1 102 g.2.2.2.2.2.2.2.2.1, .own rRule g.2.2.2.2.2.2.2.2.2.2.2.2 106 g.2.2.2.2.2.2.2.2.2.1, .fz (.at 0 0 ((Fl.arr 7 Fl.str).f zO)), .fz (.gi 4)] ∧ loopN B651 g.1 (g.2.1, g.2.2.1, g.2.2.2.1, g.2.2.2.2.1, g.2.2.2.2.2.1, g.2.2.2.2.2.2.1, g.2.2.2.2.2.2.2.1, g.2.2.2.2.2.2.2.2.1, g.2.2.2.2.2.2.2.2.2.1) = some j432) (fun g => g.1) (n652, g87, g88, g89, g90, g91, g92, g94, g97, g100, v95, v98, v101) zU ⟨H.pick [0, 1, 2, 3, 4, 5] (by decide), hF⟩ ?_
  clear H hF
  rintro ⟨n652, g636, g637, g638, g639, g640, g641, g643, g646, g649, v644, v647, v650⟩ ρ w655 ⟨H, hF⟩
  obtain ⟨n656, rfl, hF⟩ := xH hF
  have hF := xG eB653 hF
  refine zD fun K665 hK665 => ?_
  refine zD fun K666 hK666 => ?_
  refine zC ?_
  refine zA rfl rfl (zK (v := .pointer (some ⟨b1, 0, none⟩)) rfl) ?_
  have H667 := H
  have H := H.freezeB (i := 0) rfl
  have H := H.freeze (i := 1) rfl
  have H := H.freeze (i := 2) rfl
  have H := H.freeze (i := 3) rfl
  have H := H.fz (.pt rEventReader (some ⟨b1, 0, none⟩) (some (EventReader.mk g636 g637 (EventToken.mk g638 g639 g640 g641) (Rules.mk g643 g646 g649)))) ⟨_, _, _, rfl, (H.item (i := 0) rfl).1, (H.item (i := 0) rfl).2.1, (xP (x := EventReader.mk g636 g637 (EventToken.mk g638 g639 g640 g641) (Rules.mk g643 g646 g649)) (H.item (i := 1) rfl) (H.item (i := 2) rfl) (H.item (i := 3) rfl)), (H.item (i := 0) rfl).2.2⟩
  obtain ⟨x669, e670, hF⟩ := zI hF
  refine yA rfl rfl (zX en88 rfl) (F_event_reader_is_w (some (EventReader.mk g636 g637 (EventToken.mk g638 g639 g640 g641) (Rules.mk g643 g646 g649))) [109, 111, 118, 101] (some ⟨b1, 0, none⟩) _ e670 _ _ _ (H.enter [] [6] (by decide) rfl)) ?_
  rintro _ w671 ⟨rfl, G672⟩
  have H := H667.step (G672.only : Only [] _ _)
  refine ⟨_, rfl, ?_⟩
  refine (zJ (zB (hK666 _ _ ?_)))
  refine yH (b := x669) rfl (fun c673 => ?_) (fun c673 => ?_)
  ·have hF := zV c673 hF
   refine (yI (zB (hK665 _ _ ?_)))
   refine yM ?_
   refine zD fun K674 hK674 => ?_
   refine zC ?_
   refine zA rfl rfl (zK (v := .pointer (some ⟨b1, 0, none⟩)) rfl) ?_
   obtain ⟨x675, e676, hF⟩ := zI hF
   refine yA rfl rfl (zX en87 rfl) (F_event_reader_advance_w (EventReader.mk g636 g637 (EventToken.mk g638 g639 g640 g641) (Rules.mk g643 g646 g649)) b1 v644 v647 v650 _ e676 _ _ _ (H.enter [1, 2, 3, 0] [5] (by decide) rfl)) ?_
   rintro _ w683 ⟨v677, v678, v679, rfl, G684⟩
   have H : Hd O _ w683 _ [.fz (.at 0 0 ((Fl.arr 7 Fl.str).f zO)), .fz (.gi 4), .own Rp.str v677 9 x675.r.Phases, .own rMoveT v678 102 x675.r.Moves, .own rRule v679 106 x675.r.Rules, .blk b1 [.string (bs x675.text), .int .i64 x675.at_, .int .i64 x675.now.kind, .int .i64 x675.now.at_, .int .i64 x675.now.n, .string (bs x675.now.text), v677, v678, v679] 88] := H.back [1, 2, 3, 0] [5] rfl G684
   refine ⟨_, rfl, ?_⟩
   refine (zJ (zB (hK674 _ _ ?_)))
   refine zD fun K685 hK685 => ?_
   refine zC ?_
   refine zA rfl rfl (zK (v := .pointer (some ⟨b1, 0, none⟩)) rfl) ?_
   obtain ⟨⟨x686, x687⟩, e688, hF⟩ := zI hF
   refine yA rfl rfl (zX en89 rfl) (F_event_reader_name_w x675 b1 v677 v678 v679 _ e688 _ _ _ (H.enter [2, 3, 4, 5] [1] (by decide) rfl)) ?_
   rintro _ w695 ⟨v689, v690, v691, rfl, G696⟩
   have H : Hd O _ w695 _ [.fz (.at 0 0 ((Fl.arr 7 Fl.str).f zO)), .fz (.gi 4), .own Rp.str v689 9 x687.r.Phases, .own rMoveT v690 102 x687.r.Moves, .own rRule v691 106 x687.r.Rules, .blk b1 [.string (bs x687.text), .int .i64 x687.at_, .int .i64 x687.now.kind, .int .i64 x687.now.at_, .int .i64 x687.now.n, .string (bs x687.now.text), v689, v690, v691] 88] := H.back [2, 3, 4, 5] [1] rfl G696
   refine ⟨_, rfl, ?_⟩
   refine zA rfl rfl (zK (v := .pointer (some ⟨b1, 0, none⟩)) rfl) ?_
   obtain ⟨⟨x697, x698⟩, e699, hF⟩ := zI hF
   refine yA rfl rfl (zX en89 rfl) (F_event_reader_name_w x687 b1 v689 v690 v691 _ e699 _ _ _ (H.enter [2, 3, 4, 5] [1] (by decide) rfl)) ?_
   rintro _ w706 ⟨v700, v701, v702, rfl, G707⟩
   have H : Hd O _ w706 _ [.fz (.at 0 0 ((Fl.arr 7 Fl.str).f zO)), .fz (.gi 4), .own Rp.str v700 9 x698.r.Phases, .own rMoveT v701 102 x698.r.Moves, .own rRule v702 106 x698.r.Rules, .blk b1 [.string (bs x698.text), .int .i64 x698.at_, .int .i64 x698.now.kind, .int .i64 x698.now.at_, .int .i64 x698.now.n, .string (bs x698.now.text), v700, v701, v702] 88] := H.back [2, 3, 4, 5] [1] rfl G707
   refine ⟨_, rfl, ?_⟩
   refine zA rfl rfl (xM (cs := [.string (bs x686), .string (bs x697), .int .i64 0, .string (bs []), .string (bs []), .int .i64 0, .int .i64 0, .int .i64 0, .slice none 0 0]) (bt102_0_1 _ _)) ?_
   refine yY rfl rfl (xJ zero102 H) ?_
   rintro _ w710 ⟨b708, rfl, H⟩
   refine yV rfl (yN (vs := [.string (bs x686), .string (bs x697), .int .i64 0, .string (bs []), .string (bs []), .int .i64 0, .int .i64 0, .int .i64 0, .slice none 0 0]) H 6 rfl sz102 rfl rfl rfl ⟨rfl, rfl, rfl, rfl, rfl, rfl, rfl, rfl, rfl, trivial⟩ rfl) ?_
   rintro w711 H
   refine (zJ (zB (hK685 _ _ ?_)))
   refine zD fun K712 hK712 => ?_
   refine zC ?_
   refine zA rfl rfl (zK (v := .pointer (some ⟨b1, 0, none⟩)) rfl) ?_
   obtain ⟨x713, e714, hF⟩ := zI hF
   refine yA rfl rfl (zX en90 rfl) (F_event_reader_must_w x698 [105, 102] b1 v700 v701 v702 _ e714 _ _ _ (H.enter [2, 3, 4, 5] [1] (by decide) rfl)) ?_
   rintro _ w721 ⟨v715, v716, v717, rfl, G722⟩
   have H : Hd O _ w721 _ [.fz (.at 0 0 ((Fl.arr 7 Fl.str).f zO)), .fz (.gi 4), .blk b708 [.string (bs x686), .string (bs x697), .int .i64 0, .string (bs []), .string (bs []), .int .i64 0, .int .i64 0, .int .i64 0, .slice none 0 0] 102, .own Rp.str v715 9 x713.r.Phases, .own rMoveT v716 102 x713.r.Moves, .own rRule v717 106 x713.r.Rules, .blk b1 [.string (bs x713.text), .int .i64 x713.at_, .int .i64 x713.now.kind, .int .i64 x713.now.at_, .int .i64 x713.now.n, .string (bs x713.now.text), v715, v716, v717] 88] := H.back [2, 3, 4, 5] [1] rfl G722
   refine ⟨_, rfl, ?_⟩
   refine (zJ (zB (hK712 _ _ ?_)))
   refine zD fun K723 hK723 => ?_
   refine zC ?_
   refine zA rfl rfl (zK (v := .pointer (some ⟨b1, 0, none⟩)) rfl) ?_
   obtain ⟨⟨x724, x725⟩, e726, hF⟩ := zI hF
   refine yA rfl rfl (zX en91 rfl) (F_event_reader_cond_s x713 0 b1 v715 v716 v717 _ e726 _ _ _ (H.enter [3, 4, 5, 6] [0, 1] (by decide) rfl)) ?_
   rintro _ w735 ⟨v727, v729, v730, v731, rfl, G736⟩
   have H : Hd O _ w735 _ [.fz (.at 0 0 ((Fl.arr 7 Fl.str).f zO)), .fz (.gi 4), .blk b708 [.string (bs x686), .string (bs x697), .int .i64 0, .string (bs []), .string (bs []), .int .i64 0, .int .i64 0, .int .i64 0, .slice none 0 0] 102, .fz (.sl rCond v727 x724.Kids), .own Rp.str v729 9 x725.r.Phases, .own rMoveT v730 102 x725.r.Moves, .own rRule v731 106 x725.r.Rules, .blk b1 [.string (bs x725.text), .int .i64 x725.at_, .int .i64 x725.now.kind, .int .i64 x725.now.at_, .int .i64 x725.now.n, .string (bs x725.now.text), v729, v730, v731] 88] := H.back [3, 4, 5, 6] [0, 1] rfl G736
   refine ⟨_, rfl, ?_⟩
   refine zA rfl rfl (fa102_2 rfl) ?_
   refine yV rfl (yN (vs := [.int .i64 x724.Kind, .string (bs x724.Name), .string (bs x724.Other), .int .i64 x724.Op, .int .i64 x724.N, .int .i64 x724.Frames, v727]) H 2 rfl sz54 rfl rfl rfl ⟨rfl, rfl, rfl, rfl, rfl, rfl, (slf_one (H.item (i := 3) rfl)), trivial⟩ rfl) ?_
   rintro w737 H
   refine (zJ (zB (hK723 _ _ ?_)))
   have H738 := H
   have H := H.rebase
   have H739 := H
   refine WP_mix0 H [0, 1, 2, 3, 4, 5, 6, 7, 8, 9, 10, 11, 12] [.pure, .pure, .pure, .pure, .pure, .read, .read, .new, .eff, .pure, .pure, .pure, .eff] mixed (by kernel_rfl) (by kernel_rfl) (by kernel_rfl) rfl ?_
   refine Mx.yB rfl rfl rfl (fun w' hw' => zK (v := .pointer (some ⟨b1, 0, none⟩)) rfl) ?_
   refine Mx.yB rfl rfl rfl (fun w' hw' => zK (v := .pointer (some ⟨b1, 0, none⟩)) rfl) ?_
   refine Mx.yB rfl rfl rfl (fun w' hw' => yK rfl) ?_
   refine Mx.yB rfl rfl rfl (fun w' hw' => fa88_3 rfl) ?_
   refine Mx.yB rfl rfl rfl (fun w' hw' => fa26_1 rfl) ?_
   refine Mx.xK oS rfl rfl rfl (fun w' hw' => zL one23 rfl (Cells.get (Blk.cells ((H.sees hw').item (i := 7) rfl)) (i := 7) rfl)) ?_
   refine Mx.xK oS rfl rfl rfl (fun w' hw' => zM (yT (cs := [.string (bs x686), .string (bs x697), .int .i64 x724.Kind, .string (bs x724.Name), .string (bs x724.Other), .int .i64 x724.Op, .int .i64 x724.N, .int .i64 x724.Frames, v727]) agg102 rfl sz102 rfl (Blk.cells ((H.sees hw').item (i := 2) rfl))) rfl) ?_
   obtain ⟨x740, e741, hF⟩ := zF hF
   subst e741
   refine Mx.XL_exN oS rfl rfl rfl (fun w' hw' => Ls_of (Lx_bs (r := rMoveT) (xl := [MoveT.mk x686 x697 x724]) (cs := [.string (bs x686), .string (bs x697), .int .i64 x724.Kind, .string (bs x724.Name), .string (bs x724.Other), .int .i64 x724.Op, .int .i64 x724.N, .int .i64 x724.Frames, v727]) u23 el102 (by decide) (by decide) rfl (wF (vs := [.agg [.string (bs x686), .string (bs x697), .int .i64 x724.Kind, .string (bs x724.Name), .string (bs x724.Other), .int .i64 x724.Op, .int .i64 x724.N, .int .i64 x724.Frames, v727].toArray]) (by decide) rfl rfl ⟨rfl, trivial⟩ rfl) (H.sees hw') ⟨[.string (bs x686), .string (bs x697), .int .i64 x724.Kind, .string (bs x724.Name), .string (bs x724.Other), .int .i64 x724.Op, .int .i64 x724.N, .int .i64 x724.Frames, v727], [], rfl, (rMoveT_mk (x := MoveT.mk x686 x697 x724) ((H.sees hw').item (i := 3) rfl)), rfl⟩) (Ys_bs (cs := [.string (bs x686), .string (bs x697), .int .i64 x724.Kind, .string (bs x724.Name), .string (bs x724.Other), .int .i64 x724.Op, .int .i64 x724.N, .int .i64 x724.Frames, v727]) u23 el102 (by decide) (by decide) (wF (vs := [.agg [.string (bs x686), .string (bs x697), .int .i64 x724.Kind, .string (bs x724.Name), .string (bs x724.Other), .int .i64 x724.Op, .int .i64 x724.N, .int .i64 x724.Frames, v727].toArray]) (by decide) rfl rfl ⟨rfl, trivial⟩ rfl))) ?_
   rintro w' v743 w744 hw' H
   obtain ⟨x745, e746, hF⟩ := zI hF
   refine Mx.XL_ex oS rfl rfl rfl (fun w' hw' => Lx_app (H.sees hw') (i := 5) rfl u23 el102 rfl rfl (Sr.of_own ((H.sees hw').item (i := 8) rfl)) e746) ?_
   rintro w' v747 w748 hw' H
   refine ⟨H.only, ?_⟩
   refine Mx.yB rfl rfl rfl (fun w' hw' => yK rfl) ?_
   refine Mx.yB rfl rfl rfl (fun w' hw' => fa88_3 rfl) ?_
   refine Mx.yB rfl rfl rfl (fun w' hw' => fa26_1 rfl) ?_
   refine Mx.XL_exU oS rfl rfl (fun w' hw' => xX (H.sees hw') 7 rfl sz23 rfl (v := v747) rfl (own_one ((H.sees hw').item (i := 5) rfl)) rfl) ?_
   rintro w' w749 hw' H
   refine ⟨H.only, ?_⟩
   refine Mx.XL_nil fun w750 hS => ?_
   have H := H.sees hS
   have H := H738.rejoin H
   refine (yX (zB (And.intro ?_ ?_)))
   ·repeat' (first | with_reducible exact zS | refine zZ rfl ?_ | refine zT rfl rfl ?_)
   exact ⟨(n656, x725.text, x725.at_, x725.now.kind, x725.now.at_, x725.now.n, x725.now.text, x725.r.Phases, x745, x725.r.Rules, v729, v747, v731), zU, ⟨H.pick [7, 4, 5, 6, 0, 1] (by decide), hF⟩, Nat.lt_succ_self _⟩
  have hF := zW c673 hF
  have hR := Option.some.inj hF
  subst hR
  refine (xW (yU (yU (xE (zB (And.intro ?_ ?_))))))
  ·repeat' (first | with_reducible exact zS | refine zZ rfl ?_ | refine zT rfl rfl ?_)
  exact ⟨(v644, v647, v650), zU, H.pick [0, 1, 2, 3, 4, 5] (by decide)⟩
 rintro ⟨v423, v426, v429⟩ ρ w430 H
 have hF := hK431
 obtain ⟨g415, g416, g417, g418, g419, g420, g422, g425, g428⟩ := j432
 obtain ⟨j955, hF, hK954⟩ := zI hF
 refine yQ [3, 49, 50, 51, 52, 53, 54, 55, 56, 57, 58, 59, 60, 61, 62, 63, 64, 65, 66, 67, 68, 69, 70, 71, 72] (fun (g : Value × Value × Value) => []) (fun g wl => Hd O w wl S [.blk b1 [.string (bs j955.1), .int .i64 j955.2.1, .int .i64 j955.2.2.1, .int .i64 j955.2.2.2.1, .int .i64 j955.2.2.2.2.1, .string (bs j955.2.2.2.2.2.1), g.1, g.2.1, g.2.2] 88, .own Rp.str g.1 9 j955.2.2.2.2.2.2.1, .own rMoveT g.2.1 102 j955.2.2.2.2.2.2.2.1, .own rRule g.2.2 106 j955.2.2.2.2.2.2.2.2, .fz (.at 0 0 ((Fl.arr 7 Fl.str).f zO)), .fz (.gi 4)]) ?_ ?_
 ·skip
  refine yM ?_
  unfold F_event_reader_rules_L3 at hF
  obtain ⟨B1152, n1153, eB1154, hF⟩ := yZ hF
  refine xN [3, 49, 50, 51, 52, 53, 54, 55, 56, 57, 58, 59, 60, 61, 62, 63, 64, 65, 66, 67, 68, 69, 70, 71, 72] (fun (g : Nat × Str × Int × Int × Int × Int × Str × (List Str) × (List MoveT) × (List Rule) × Value × Value × Value) => []) (fun g wl => Hd O w wl S [.blk b1 [.string (bs g.2.1), .int .i64 g.2.2.1, .int .i64 g.2.2.2.1, .int .i64 g.2.2.2.2.1, .int .i64 g.2.2.2.2.2.1, .string (bs g.2.2.2.2.2.2.1), g.2.2.2.2.2.2.2.2.2.2.1, g.2.2.2.2.2.2.2.2.2.2.2.1, g.2.2.2.2.2.2.2.2.2.2.2.2] 88, .own Rp.str g.2.2.2.2.2.2.2.2.2.2.1 9 g.2.2.2.2.2.2.2.1, .own rMoveT g.2.2.2.2.2.2.2.2.2.2.2.1 102 g.2.2.2.2.2.2.2.2.1, .own rRule g.2.2.2.2.2.2.2.2.2.2.2.2 106 g.2.2.2.2.2.2.2.2.2.1, .fz (.at 0 0 ((Fl.arr 7 Fl.str).f zO)), .fz (.gi 4)] ∧ loopN B1152 g.1 (g.2.1, g.2.2.1, g.2.2.2.1, g.2.2.2.2.1, g.2.2.2.2.2.1, g.2.2.2.2.2.2.1, g.2.2.2.2.2.2.2.1, g.2.2.2.2.2.2.2.2.1, g.2.2.2.2.2.2.2.2.2.1) = some j955) (fun g => g.1) (n1153, g415, g416, g417, g418, g419, g420, g422, g425, g428, v423, v426, v429) zU ⟨H.pick [0, 1, 2, 3, 4, 5] (by decide), hF⟩ ?_
  clear H hF
  rintro ⟨n1153, g1137, g1138, g1139, g1140, g1141, g1142, g1144, g1147, g1150, v1145, v1148, v1151⟩ ρ w1156 ⟨H, hF⟩
  obtain ⟨n1157, rfl, hF⟩ := xH hF
  have hF := xG eB1154 hF
  refine zD fun K1166 hK1166 => ?_
  refine zD fun K1167 hK1167 => ?_
  refine zC ?_
  refine zA rfl rfl (zK (v := .pointer (some ⟨b1, 0, none⟩)) rfl) ?_
  have H1168 := H
  have H := H.freezeB (i := 0) rfl
  have H := H.freeze (i := 1) rfl
  have H := H.freeze (i := 2) rfl
  have H := H.freeze (i := 3) rfl
  have H := H.fz (.pt rEventReader (some ⟨b1, 0, none⟩) (some (EventReader.mk g1137 g1138 (EventToken.mk g1139 g1140 g1141 g1142) (Rules.mk g1144 g1147 g1150)))) ⟨_, _, _, rfl, (H.item (i := 0) rfl).1, (H.item (i := 0) rfl).2.1, (xP (x := EventReader.mk g1137 g1138 (EventToken.mk g1139 g1140 g1141 g1142) (Rules.mk g1144 g1147 g1150)) (H.item (i := 1) rfl) (H.item (i := 2) rfl) (H.item (i := 3) rfl)), (H.item (i := 0) rfl).2.2⟩
  obtain ⟨x1170, e1171, hF⟩ := zI hF
  refine yA rfl rfl (zX en88 rfl) (F_event_reader_is_w (some (EventReader.mk g1137 g1138 (EventToken.mk g1139 g1140 g1141 g1142) (Rules.mk g1144 g1147 g1150))) [114, 117, 108, 101] (some ⟨b1, 0, none⟩) _ e1171 _ _ _ (H.enter [] [6] (by decide) rfl)) ?_
  rintro _ w1172 ⟨rfl, G1173⟩
  have H := H1168.step (G1173.only : Only [] _ _)
  refine ⟨_, rfl, ?_⟩
  refine (zJ (zB (hK1167 _ _ ?_)))
  refine yH (b := x1170) rfl (fun c1174 => ?_) (fun c1174 => ?_)
  ·have hF := zV c1174 hF
   refine (yI (zB (hK1166 _ _ ?_)))
   refine yM ?_
   refine zD fun K1175 hK1175 => ?_
   refine zC ?_
   refine zA rfl rfl (zK (v := .pointer (some ⟨b1, 0, none⟩)) rfl) ?_
   obtain ⟨x1176, e1177, hF⟩ := zI hF
   refine yA rfl rfl (zX en87 rfl) (F_event_reader_advance_w (EventReader.mk g1137 g1138 (EventToken.mk g1139 g1140 g1141 g1142) (Rules.mk g1144 g1147 g1150)) b1 v1145 v1148 v1151 _ e1177 _ _ _ (H.enter [1, 2, 3, 0] [5] (by decide) rfl)) ?_
   rintro _ w1184 ⟨v1178, v1179, v1180, rfl, G1185⟩
   have H : Hd O _ w1184 _ [.fz (.at 0 0 ((Fl.arr 7 Fl.str).f zO)), .fz (.gi 4), .own Rp.str v1178 9 x1176.r.Phases, .own rMoveT v1179 102 x1176.r.Moves, .own rRule v1180 106 x1176.r.Rules, .blk b1 [.string (bs x1176.text), .int .i64 x1176.at_, .int .i64 x1176.now.kind, .int .i64 x1176.now.at_, .int .i64 x1176.now.n, .string (bs x1176.now.text), v1178, v1179, v1180] 88] := H.back [1, 2, 3, 0] [5] rfl G1185
   refine ⟨_, rfl, ?_⟩
   refine (zJ (zB (hK1175 _ _ ?_)))
   refine zD fun K1186 hK1186 => ?_
   refine zC ?_
   refine zA rfl rfl (zK (v := .pointer (some ⟨b1, 0, none⟩)) rfl) ?_
   obtain ⟨⟨x1187, x1188⟩, e1189, hF⟩ := zI hF
   refine yA rfl rfl (zX en89 rfl) (F_event_reader_name_w x1176 b1 v1178 v1179 v1180 _ e1189 _ _ _ (H.enter [2, 3, 4, 5] [1] (by decide) rfl)) ?_
   rintro _ w1196 ⟨v1190, v1191, v1192, rfl, G1197⟩
   have H : Hd O _ w1196 _ [.fz (.at 0 0 ((Fl.arr 7 Fl.str).f zO)), .fz (.gi 4), .own Rp.str v1190 9 x1188.r.Phases, .own rMoveT v1191 102 x1188.r.Moves, .own rRule v1192 106 x1188.r.Rules, .blk b1 [.string (bs x1188.text), .int .i64 x1188.at_, .int .i64 x1188.now.kind, .int .i64 x1188.now.at_, .int .i64 x1188.now.n, .string (bs x1188.now.text), v1190, v1191, v1192] 88] := H.back [2, 3, 4, 5] [1] rfl G1197
   refine ⟨_, rfl, ?_⟩
   refine zA rfl rfl (xM (cs := [.string (bs x1187), .int .i64 0, .string (bs []), .string (bs []), .int .i64 0, .int .i64 0, .int .i64 0, .slice none 0 0]) (bt106_0 _)) ?_
   refine yY rfl rfl (xJ zero106 H) ?_
   rintro _ w1200 ⟨b1198, rfl, H⟩
   refine yV rfl (yN (vs := [.string (bs x1187), .int .i64 0, .string (bs []), .string (bs []), .int .i64 0, .int .i64 0, .int .i64 0, .slice none 0 0]) H 6 rfl sz106 rfl rfl rfl ⟨rfl, rfl, rfl, rfl, rfl, rfl, rfl, rfl, trivial⟩ rfl) ?_
   rintro w1201 H
   refine (zJ (zB (hK1186 _ _ ?_)))
   refine zD fun K1202 hK1202 => ?_
   refine zC ?_
   refine zA rfl rfl (zK (v := .pointer (some ⟨b1, 0, none⟩)) rfl) ?_
   obtain ⟨x1203, e1204, hF⟩ := zI hF
   refine yA rfl rfl (zX en90 rfl) (F_event_reader_must_w x1188 [105, 102] b1 v1190 v1191 v1192 _ e1204 _ _ _ (H.enter [2, 3, 4, 5] [1] (by decide) rfl)) ?_
   rintro _ w1211 ⟨v1205, v1206, v1207, rfl, G1212⟩
   have H : Hd O _ w1211 _ [.fz (.at 0 0 ((Fl.arr 7 Fl.str).f zO)), .fz (.gi 4), .blk b1198 [.string (bs x1187), .int .i64 0, .string (bs []), .string (bs []), .int .i64 0, .int .i64 0, .int .i64 0, .slice none 0 0] 106, .own Rp.str v1205 9 x1203.r.Phases, .own rMoveT v1206 102 x1203.r.Moves, .own rRule v1207 106 x1203.r.Rules, .blk b1 [.string (bs x1203.text), .int .i64 x1203.at_, .int .i64 x1203.now.kind, .int .i64 x1203.now.at_, .int .i64 x1203.now.n, .string (bs x1203.now.text), v1205, v1206, v1207] 88] := H.back [2, 3, 4, 5] [1] rfl G1212
   refine ⟨_, rfl, ?_⟩
   refine (zJ (zB (hK1202 _ _ ?_)))
   refine zD fun K1213 hK1213 => ?_
   refine zC ?_
   refine zA rfl rfl (zK (v := .pointer (some ⟨b1, 0, none⟩)) rfl) ?_
   obtain ⟨⟨x1214, x1215⟩, e1216, hF⟩ := zI hF
   refine yA rfl rfl (zX en91 rfl) (F_event_reader_cond_s x1203 0 b1 v1205 v1206 v1207 _ e1216 _ _ _ (H.enter [3, 4, 5, 6] [0, 1] (by decide) rfl)) ?_
   rintro _ w1225 ⟨v1217, v1219, v1220, v1221, rfl, G1226⟩
   have H : Hd O _ w1225 _ [.fz (.at 0 0 ((Fl.arr 7 Fl.str).f zO)), .fz (.gi 4), .blk b1198 [.string (bs x1187), .int .i64 0, .string (bs []), .string (bs []), .int .i64 0, .int .i64 0, .int .i64 0, .slice none 0 0] 106, .fz (.sl rCond v1217 x1214.Kids), .own Rp.str v1219 9 x1215.r.Phases, .own rMoveT v1220 102 x1215.r.Moves, .own rRule v1221 106 x1215.r.Rules, .blk b1 [.string (bs x1215.text), .int .i64 x1215.at_, .int .i64 x1215.now.kind, .int .i64 x1215.now.at_, .int .i64 x1215.now.n, .string (bs x1215.now.text), v1219, v1220, v1221] 88] := H.back [3, 4, 5, 6] [0, 1] rfl G1226
   refine ⟨_, rfl, ?_⟩
   refine zA rfl rfl (fa106_1 rfl) ?_
   refine yV rfl (yN (vs := [.int .i64 x1214.Kind, .string (bs x1214.Name), .string (bs x1214.Other), .int .i64 x1214.Op, .int .i64 x1214.N, .int .i64 x1214.Frames, v1217]) H 2 rfl sz54 rfl rfl rfl ⟨rfl, rfl, rfl, rfl, rfl, rfl, (slf_one (H.item (i := 3) rfl)), trivial⟩ rfl) ?_
   rintro w1227 H
   refine (zJ (zB (hK1213 _ _ ?_)))
   have H1228 := H
   have H := H.rebase
   have H1229 := H
   refine WP_mix0 H [0, 1, 2, 3, 4, 5, 6, 7, 8, 9, 10, 11, 12] [.pure, .pure, .pure, .pure, .pure, .read, .read, .new, .eff, .pure, .pure, .pure, .eff] mixed (by kernel_rfl) (by kernel_rfl) (by kernel_rfl) rfl ?_
   refine Mx.yB rfl rfl rfl (fun w' hw' => zK (v := .pointer (some ⟨b1, 0, none⟩)) rfl) ?_
   refine Mx.yB rfl rfl rfl (fun w' hw' => zK (v := .pointer (some ⟨b1, 0, none⟩)) rfl) ?_
   refine Mx.yB rfl rfl rfl (fun w' hw' => yK rfl) ?_
   refine Mx.yB rfl rfl rfl (fun w' hw' => fa88_3 rfl) ?_
   refine Mx.yB rfl rfl rfl (fun w' hw' => fa26_2 rfl) ?_
   refine Mx.xK oS rfl rfl rfl (fun w' hw' => zL one24 rfl (Cells.get (Blk.cells ((H.sees hw').item (i := 7) rfl)) (i := 8) rfl)) ?_
   refine Mx.xK oS rfl rfl rfl (fun w' hw' => zM (yT (cs := [.string (bs x1187), .int .i64 x1214.Kind, .string (bs x1214.Name), .string (bs x1214.Other), .int .i64 x1214.Op, .int .i64 x1214.N, .int .i64 x1214.Frames, v1217]) agg106 rfl sz106 rfl (Blk.cells ((H.sees hw').item (i := 2) rfl))) rfl) ?_
   obtain ⟨x1230, e1231, hF⟩ := zF hF
   subst e1231
   refine Mx.XL_exN oS rfl rfl rfl (fun w' hw' => Ls_of (Lx_bs (r := rRule) (xl := [Rule.mk x1187 x1214]) (cs := [.string (bs x1187), .int .i64 x1214.Kind, .string (bs x1214.Name), .string (bs x1214.Other), .int .i64 x1214.Op, .int .i64 x1214.N, .int .i64 x1214.Frames, v1217]) u24 el106 (by decide) (by decide) rfl (wF (vs := [.agg [.string (bs x1187), .int .i64 x1214.Kind, .string (bs x1214.Name), .string (bs x1214.Other), .int .i64 x1214.Op, .int .i64 x1214.N, .int .i64 x1214.Frames, v1217].toArray]) (by decide) rfl rfl ⟨rfl, trivial⟩ rfl) (H.sees hw') ⟨[.string (bs x1187), .int .i64 x1214.Kind, .string (bs x1214.Name), .string (bs x1214.Other), .int .i64 x1214.Op, .int .i64 x1214.N, .int .i64 x1214.Frames, v1217], [], rfl, (rRule_mk (x := Rule.mk x1187 x1214) ((H.sees hw').item (i := 3) rfl)), rfl⟩) (Ys_bs (cs := [.string (bs x1187), .int .i64 x1214.Kind, .string (bs x1214.Name), .string (bs x1214.Other), .int .i64 x1214.Op, .int .i64 x1214.N, .int .i64 x1214.Frames, v1217]) u24 el106 (by decide) (by decide) (wF (vs := [.agg [.string (bs x1187), .int .i64 x1214.Kind, .string (bs x1214.Name), .string (bs x1214.Other), .int .i64 x1214.Op, .int .i64 x1214.N, .int .i64 x1214.Frames, v1217].toArray]) (by decide) rfl rfl ⟨rfl, trivial⟩ rfl))) ?_
   rintro w' v1233 w1234 hw' H
   obtain ⟨x1235, e1236, hF⟩ := zI hF
   refine Mx.XL_ex oS rfl rfl rfl (fun w' hw' => Lx_app (H.sees hw') (i := 6) rfl u24 el106 rfl rfl (Sr.of_own ((H.sees hw').item (i := 8) rfl)) e1236) ?_
   rintro w' v1237 w1238 hw' H
   refine ⟨H.only, ?_⟩
   refine Mx.yB rfl rfl rfl (fun w' hw' => yK rfl) ?_
   refine Mx.yB rfl rfl rfl (fun w' hw' => fa88_3 rfl) ?_
   refine Mx.yB rfl rfl rfl (fun w' hw' => fa26_2 rfl) ?_
   refine Mx.XL_exU oS rfl rfl (fun w' hw' => xX (H.sees hw') 7 rfl sz24 rfl (v := v1237) rfl (own_one ((H.sees hw').item (i := 6) rfl)) rfl) ?_
   rintro w' w1239 hw' H
   refine ⟨H.only, ?_⟩
   refine Mx.XL_nil fun w1240 hS => ?_
   have H := H.sees hS
   have H := H1228.rejoin H
   refine (yX (zB (And.intro ?_ ?_)))
   ·repeat' (first | with_reducible exact zS | refine zZ rfl ?_ | refine zT rfl rfl ?_)
   exact ⟨(n1157, x1215.text, x1215.at_, x1215.now.kind, x1215.now.at_, x1215.now.n, x1215.now.text, x1215.r.Phases, x1215.r.Moves, x1235, v1219, v1220, v1237), zU, ⟨H.pick [7, 4, 5, 6, 0, 1] (by decide), hF⟩, Nat.lt_succ_self _⟩
  have hF := zW c1174 hF
  have hR := Option.some.inj hF
  subst hR
  refine (xW (yU (yU (xE (zB (And.intro ?_ ?_))))))
  ·repeat' (first | with_reducible exact zS | refine zZ rfl ?_ | refine zT rfl rfl ?_)
  exact ⟨(v1145, v1148, v1151), zU, H.pick [0, 1, 2, 3, 4, 5] (by decide)⟩
 rintro ⟨v946, v949, v952⟩ ρ w953 H
 have hF := hK954
 obtain ⟨g938, g939, g940, g941, g942, g943, g945, g948, g951⟩ := j955
 refine zD fun K1241 hK1241 => ?_
 refine zC ?_
 refine zA rfl rfl (zK (v := .pointer (some ⟨b1, 0, none⟩)) rfl) ?_
 refine zA rfl rfl (yK rfl) ?_
 refine zA rfl rfl (fa88_2 rfl) ?_
 refine zA rfl rfl (fa86_0 rfl) ?_
 refine zA rfl rfl (zL one3 rfl (Cells.get (Blk.cells (H.item (i := 0) rfl)) (i := 2) rfl)) ?_
 obtain ⟨x1242, e1243, hF⟩ := zF hF
 refine zA rfl rfl (zM (xO (a := g940) (b := 0) rfl rfl) (congrArg Value.bool e1243)) ?_
 refine (zJ (zB (hK1241 _ _ ?_)))
 refine yH (b := x1242) rfl (fun c1244 => ?_) (fun c1244 => ?_)
 ·have hF := zV c1244 hF
  refine zC ?_
  refine zA rfl rfl (zK (v := .pointer (some ⟨b1, 0, none⟩)) rfl) ?_
  have H1245 := H
  have H := H.freezeB (i := 0) rfl
  have H := H.freeze (i := 1) rfl
  have H := H.freeze (i := 2) rfl
  have H := H.freeze (i := 3) rfl
  have H := H.fz (.pt rEventReader (some ⟨b1, 0, none⟩) (some (EventReader.mk g938 g939 (EventToken.mk g940 g941 g942 g943) (Rules.mk g945 g948 g951)))) ⟨_, _, _, rfl, (H.item (i := 0) rfl).1, (H.item (i := 0) rfl).2.1, (xP (x := EventReader.mk g938 g939 (EventToken.mk g940 g941 g942 g943) (Rules.mk g945 g948 g951)) (H.item (i := 1) rfl) (H.item (i := 2) rfl) (H.item (i := 3) rfl)), (H.item (i := 0) rfl).2.2⟩
  obtain ⟨_, e1247, hF⟩ := zI hF
  refine yA rfl rfl (zX en92 rfl) (F_event_reader_fail_w (some (EventReader.mk g938 g939 (EventToken.mk g940 g941 g942 g943) (Rules.mk g945 g948 g951))) 6 (some ⟨b1, 0, none⟩) _ e1247 _ _ _ (H.enter [] [6] (by decide) rfl)) ?_
  rintro _ w1248 ⟨rfl, G1249⟩
  have H := H1245.step (G1249.only : Only [] _ _)
  refine ⟨_, rfl, ?_⟩
  have hR := Option.some.inj hF
  subst hR
  refine (zJ (post0n rfl ?_))
  exact ⟨v946, v949, v952, rfl, H.pick [1, 2, 3, 0] (by decide)⟩
 have hF := zW c1244 hF
 have hR := Option.some.inj hF
 subst hR
 refine (yI (post0n rfl ?_))
 exact ⟨v946, v949, v952, rfl, H.pick [1, 2, 3, 0] (by decide)⟩
end Go.Proofs.YtnajnkghilemhaaGreatDoor.L
namespace Go.Proofs.YtnajnkghilemhaaGreatDoor.L
open Go.RowKit Go.OB Go.Lf
theorem caught_idle (b : Nat) (w : World) : CallsD Tryz.prog 86 #[.pointer (some ⟨b, 0, none⟩)] .returning w fun e u' w' => e = .returned (.tuple #[]) ∧ u' = .returning ∧ w' = w := by
 refine callsD_of_wpS Tryz.func86 rfl fun c₀ cs hu => ?_
 apply wpS_seq
 apply wpS_region
 simp [wpOpsS, go_sem, recoverD, hu, Tryz.ntmps86, Exit.thenS]
 apply wpS_seq
 apply wpS_region
 simp [wpOpsS, go_sem, Exit.thenS, Act.eval, Array.replicate]
 refine wpS_cond (t := false) (by simp [Act.eval, Array.replicate]) ?_
 simp only [Bool.false_eq_true, if_false]
 refine wpS_of_wp (wp_skip ?_)
 cases c₀
 simp_all [bodyPostS, results, Tryz.results86]
theorem en39c : Go.OB.Enters Tryz.prog 39 := ⟨_, Tryz.func39, rfl, by kernel_rfl⟩
theorem zero90c : Go.OB.Zero Tryz.prog 90 ([.int .i64 0, .int .i64 0]) := by unfold Go.OB.Zero; kernel_rfl
theorem sz90c : Sz Tryz.prog 90 2 := by unfold Sz; kernel_rfl
theorem agg90c : Agg Tryz.prog 90 := by unfold Agg; kernel_rfl
theorem bz90c : Tryz.prog.built 90 [] = some ([.int .i64 0, .int .i64 0] : List Value).toArray := by kernel_rfl
set_option maxHeartbeats 4000000 in
theorem F_caught_w (p0 : EventReader) (b1 : Nat) (v2 : Value) (v3 : Value) (v4 : Value) (r : EventFault × EventReader) (hF : F_caught p0 = some r) (O S : List Nat) (w : World) (H : Hd O w w S [.own Rp.str v2 9 p0.r.Phases, .own rMoveT v3 102 p0.r.Moves, .own rRule v4 106 p0.r.Rules, .blk b1 [.string (bs p0.text), .int .i64 p0.at_, .int .i64 p0.now.kind, .int .i64 p0.now.at_, .int .i64 p0.now.n, .string (bs p0.now.text), v2, v3, v4] 88, .fz (.at 0 0 ((Fl.arr 7 Fl.str).f zO)), .fz (.gi 4)]) :
  Calls Tryz.prog 38 ([.func (.func 39) #[.pointer (some ⟨b1, 0, none⟩)] #[]] : List Value).toArray w fun e w' => ∃ u11 u12 u13, e = .returned (.agg [.int .i64 r.1.at_, .int .i64 r.1.e].toArray) ∧ Hd O w w' S [.own Rp.str u11 9 r.2.r.Phases, .own rMoveT u12 102 r.2.r.Moves, .own rRule u13 106 r.2.r.Rules, .blk b1 [.string (bs r.2.text), .int .i64 r.2.at_, .int .i64 r.2.now.kind, .int .i64 r.2.now.at_, .int .i64 r.2.now.n, .string (bs r.2.now.text), u11, u12, u13] 88] := by
 unfold F_caught at hF
 obtain ⟨x, e, hF⟩ := zI hF
 have hr := Option.some.inj hF
 subst hr
 refine calls_of_WPD 7 Tryz.func38 rfl rfl rfl ?_
 refine WPD_seq ?_
 refine WPD_region ?_
 refine RLD_ex rfl rfl (xJ zero90c H) ?_
 rintro _ w1 ⟨b2, rfl, H⟩
 refine RLD_nil ?_
 refine WPD_seq ?_
 refine WPD_region ?_
 refine RLD_do rfl rfl (Do_makeFunc rfl) ?_
 refine RLD_defer (x := { target := .fn (.func 86) #[.pointer (some ⟨b2, 0, none⟩)], args := #[] }) rfl (run_defer (cap := [_]) (us := []) rfl rfl) ?_
 refine RLD_nil ?_
 refine WPD_seq ?_
 refine WPD_region ?_
 refine RLD_do rfl rfl (zK (v := .func (.func 39) #[.pointer (some ⟨b1, 0, none⟩)] #[]) rfl) ?_
 refine RLD_call rfl rfl (DoC_bnd en39c rfl rfl) (F_event_reader_rules_w p0 b1 v2 v3 v4 _ e _ _ _ (H.enter [0, 1, 2, 3] [4, 5] (by decide) rfl)) ?_
 rintro _ w2 ⟨u11, u12, u13, rfl, G⟩
 have H := H.back [0, 1, 2, 3] [4, 5] rfl G
 refine ⟨_, rfl, ?_⟩
 refine RLD_nil ?_
 refine WPD_seq ?_
 refine WPD_region ?_
 refine RLD_do rfl rfl (xM (cs := [.int .i64 0, .int .i64 0]) bz90c) ?_
 refine RLD_exU rfl (yN (vs := [.int .i64 0, .int .i64 0]) H 2 rfl sz90c rfl rfl rfl ⟨rfl, rfl, trivial⟩ rfl) ?_
 rintro w3 H
 refine RLD_nil ?_
 refine WPD_ret ?_
 intro tmps ht
 refine leaves_cons (f := 86) (args := #[.pointer (some ⟨b2, 0, none⟩)]) (by simp) (by simp [go_sem]) ?_
 refine (caught_idle b2 _).mono ?_
 rintro e u' w'' ⟨rfl, rfl, rfl⟩
 refine leaves_res (fn := _) rfl ht (postc rfl rfl (yL agg90c sz90c rfl (Blk.cells (H.item (i := 2) rfl))) ?_)
 exact ⟨u11, u12, u13, rfl, H.pick [3, 4, 5, 6] (by decide)⟩
end Go.Proofs.YtnajnkghilemhaaGreatDoor.L
namespace Go.Proofs.YtnajnkghilemhaaGreatDoor.L
open Go.RowKit Go.OB Go.Lf
/- orangebox/event.small: its contract -/
abbrev S_event_small (f : Cond → Int → Int → Option (Bool × Int)) : Prop := ∀ (p0 : Cond) (p1 : Int) (p2 : Int) (v1 : Value) (b3 : Nat) (r : Bool × Int) (hF : f p0 p1 p2 = some r) (O S : List Nat) (w : World) (H : Hd O w w S [.blk b3 [.int .i64 p2] 3, .fz (.sl rCond v1 p0.Kids)]),
  Calls Tryz.prog 107 ([.agg [.int .i64 p0.Kind, .string (bs p0.Name), .string (bs p0.Other), .int .i64 p0.Op, .int .i64 p0.N, .int .i64 p0.Frames, v1].toArray, .int .i64 p1, .pointer (some ⟨b3, 0, none⟩)] : List Value).toArray w fun e w' => e = .returned (.bool r.1) ∧ Hd O w w' S [.blk b3 [.int .i64 r.2] 3]
end Go.Proofs.YtnajnkghilemhaaGreatDoor.L
namespace Go.Proofs.YtnajnkghilemhaaGreatDoor.L
open Go.RowKit Go.OB Go.Lf
/- orangebox/event.small -/
set_option maxHeartbeats 4000000 in
set_option maxRecDepth 100000 in
theorem F_event_small_B_w (rfC : Cond → Int → Int → Option (Bool × Int)) (rhC : S_event_small rfC) (p0 : Cond) (p1 : Int) (p2 : Int) (v1 : Value) (b3 : Nat) (r : Bool × Int) (hF : F_event_small_B rfC p0 p1 p2 = some r) (O S : List Nat) (w : World) (H : Hd O w w S [.blk b3 [.int .i64 p2] 3, .fz (.sl rCond v1 p0.Kids)]) :
  Calls Tryz.prog 107 ([.agg [.int .i64 p0.Kind, .string (bs p0.Name), .string (bs p0.Other), .int .i64 p0.Op, .int .i64 p0.N, .int .i64 p0.Frames, v1].toArray, .int .i64 p1, .pointer (some ⟨b3, 0, none⟩)] : List Value).toArray w fun e w' => e = .returned (.bool r.1) ∧ Hd O w w' S [.blk b3 [.int .i64 r.2] 3] := by
 unfold F_event_small_B at hF
 refine yD 36 Tryz.func107 rfl rfl rfl ?_
 refine zD fun K5 hK5 => ?_
 refine zC ?_
 refine yY rfl rfl (Lx_box (cs := [.int .i64 p0.Kind, .string (bs p0.Name), .string (bs p0.Other), .int .i64 p0.Op, .int .i64 p0.N, .int .i64 p0.Frames, v1]) rfl H) ?_
 rintro _ w8 ⟨b6, rfl, H⟩
 refine zA rfl rfl (zG (v := .bool false) rfl) ?_
 refine (zJ (zB (hK5 _ _ ?_)))
 refine zD fun K9 hK9 => ?_
 refine zC ?_
 refine zA rfl rfl (zK (v := .pointer (some ⟨b3, 0, none⟩)) rfl) ?_
 refine zA rfl rfl (yK rfl) ?_
 refine zA rfl rfl (zL one3 rfl (Cells.get (Blk.cells (H.item (i := 0) rfl)) (i := 0) rfl)) ?_
 obtain ⟨x10, e11, hF⟩ := zF hF
 refine zA rfl rfl (wE (a := p2) (b := 1) rfl rfl e11) ?_
 refine zA rfl rfl (yK rfl) ?_
 refine yV rfl (xX H 0 rfl sz3 rfl (v := .int .i64 x10) rfl rfl rfl) ?_
 rintro w12 H
 refine (zJ (zB (hK9 _ _ ?_)))
 refine zD fun K23 hK23 => ?_
 obtain ⟨g29, hF, hK31⟩ := zI hF
 refine yQ [14, 15, 16, 17, 18, 19, 20, 21] (fun (g : Unit) => [(21, .bool g29)]) (fun g wl => Hd O w wl S [.blk b3 [.int .i64 x10] 3, .fz (.sl rCond v1 p0.Kids), .blk b6 [.int .i64 p0.Kind, .string (bs p0.Name), .string (bs p0.Other), .int .i64 p0.Op, .int .i64 p0.N, .int .i64 p0.Frames, v1] 54]) ?_ ?_
 ·skip
  refine zC ?_
  refine zA rfl rfl (zK (v := .int .i64 p1) rfl) ?_
  obtain ⟨x32, e33, hF⟩ := zF hF
  refine zA rfl rfl (zM (xC (a := p1) (b := 0) rfl rfl) (congrArg Value.bool e33)) ?_
  refine yE (b := x32) rfl rfl rfl (fun c34 => ?_) (fun c34 => ?_)
  ·have hF := zV c34 hF
   refine zH rfl rfl ?_
   refine zH rfl rfl ?_
   refine zH rfl rfl ?_
   refine zH rfl rfl ?_
   refine zA rfl rfl (zY (v := .bool true) rfl rfl) ?_
   have hR := Option.some.inj hF
   subst hR
   refine (zJ (zB (And.intro ?_ ?_)))
   ·repeat' (first | with_reducible exact zS | refine zZ rfl ?_ | refine zT rfl rfl ?_)
   exact ⟨(), (zQ rfl zU), H.pick [0, 1, 2] (by decide)⟩
  have hF := zW c34 hF
  refine zA rfl rfl (zK (v := .pointer (some ⟨b3, 0, none⟩)) rfl) ?_
  refine zA rfl rfl (yK rfl) ?_
  refine zA rfl rfl (zL one3 rfl (Cells.get (Blk.cells (H.item (i := 0) rfl)) (i := 0) rfl)) ?_
  obtain ⟨x35, e36, hF⟩ := zF hF
  refine zA rfl rfl (zM (Do_gtr (a := x10) (b := 200) rfl rfl) (congrArg Value.bool e36)) ?_
  refine zA rfl rfl (zN (v := .bool x35) rfl rfl) ?_
  have hR := Option.some.inj hF
  subst hR
  refine (zJ (zB (And.intro ?_ ?_)))
  ·repeat' (first | with_reducible exact zS | refine zZ rfl ?_ | refine zT rfl rfl ?_)
  exact ⟨(), (zQ rfl zU), H.pick [0, 1, 2] (by decide)⟩
 rintro _ ρ w30 H
 have hF := hK31
 refine yH (b := g29) rfl (fun c37 => ?_) (fun c37 => ?_)
 ·have hF := zV c37 hF
  refine zD fun K38 hK38 => ?_
  refine zC ?_
  refine zA rfl rfl (zG (v := .bool false) rfl) ?_
  refine (zJ (zB (hK38 _ _ ?_)))
  have hR := Option.some.inj hF
  subst hR
  refine (yG (yC (post1 (v1 := .bool false) rfl rfl ?_)))
  exact ⟨rfl, H.pick [0] (by decide)⟩
 have hF := zW c37 hF
 refine (yI (zB (hK23 _ _ ?_)))
 obtain ⟨k201, ek202, hF⟩ := wC hF
 refine yQ [6, 8, 22, 23, 24, 25, 26, 27, 28, 29, 30, 31, 32, 33, 34, 35] (fun (g : Int) => []) (fun g wl => Hd O w wl S [.blk b3 [.int .i64 g] 3] ∧ k201 g = some r) ?_ ?_
 ·skip
  refine zD fun K203 hK203 => ?_
  refine zC ?_
  refine zA rfl rfl (wB rfl) ?_
  refine zA rfl rfl (zL one52 rfl (Cells.get (Blk.cells (H.item (i := 2) rfl)) (i := 6) rfl)) ?_
  obtain ⟨x204, e205, hF⟩ := zF hF
  obtain ⟨a206, c207, q208⟩ := SlF.len ((H.item (i := 1) rfl))
  refine zA rfl rfl (zM (xA u52 q208) (congrArg (Value.int .i64) e205)) ?_
  refine zA rfl rfl (zK (v := .int .i64 0) rfl) ?_
  refine (zJ (zB (hK203 _ _ ?_)))
  refine yM ?_
  unfold F_event_small_B_L1 at hF
  obtain ⟨B359, n360, eB361, hF⟩ := yZ hF
  refine xN [6, 8, 25, 26, 27, 28, 29, 30, 31, 32, 33, 34, 35] (fun (g : Nat × Int × Int) => [(25, .int .i64 g.2.1)]) (fun g wl => Hd O w wl S [.blk b3 [.int .i64 g.2.2] 3, .fz (.sl rCond v1 p0.Kids)] ∧ loopN B359 g.1 (g.2.1, g.2.2) = some r) (fun g => g.1) (n360, 0, x10) (zQ rfl zU) ⟨H.pick [0, 1] (by decide), hF⟩ ?_
  clear H hF
  rintro ⟨n360, g357, g358⟩ ρ w363 ⟨H, hF⟩
  obtain ⟨n364, rfl, hF⟩ := xH hF
  have hF := xG eB361 hF
  refine zD fun K365 hK365 => ?_
  refine zC ?_
  obtain ⟨x366, e367, hF⟩ := zF hF
  refine zA rfl rfl (zM (xZ (a := g357) (b := x204) rfl rfl) (congrArg Value.bool e367)) ?_
  refine (zJ (zB (hK365 _ _ ?_)))
  refine zD fun K369 hK369 => ?_
  refine yH (b := x366) rfl (fun c370 => ?_) (fun c370 => ?_)
  ·have hF := zV c370 hF
   refine (yI (zB (hK369 _ _ ?_)))
   refine zD fun K403 hK403 => ?_
   refine yM ?_
   refine zD fun K404 hK404 => ?_
   refine zC ?_
   obtain ⟨x405, e406, hF⟩ := zI hF
   obtain ⟨b407, o408, c409, cs410, q411, h414, h412, h413, h415⟩ := rd_at (H.item (i := 1) rfl) e406
   obtain ⟨v416, rfl, h417⟩ := rCond_open h414
   have H := H.fzs [.at b407 (o408 + g357.toNat * 7) _, .sl rCond v416 x405.Kids] ⟨⟨h412, h413, h415⟩, h417, trivial⟩
   refine zA rfl rfl (xY u52 sz54 q411 rfl (yP e406).1 (yP e406).2.1 rfl rfl) ?_
   refine zA rfl rfl (zM (yT (cs := [.int .i64 x405.Kind, .string (bs x405.Name), .string (bs x405.Other), .int .i64 x405.Op, .int .i64 x405.N, .int .i64 x405.Frames, v416]) agg54 rfl sz54 rfl (H.item (i := 2) rfl).2.2) rfl) ?_
   refine yY rfl rfl (xJ zero54 H) ?_
   rintro _ w422 ⟨b420, rfl, H⟩
   refine yV rfl (yN (vs := [.int .i64 x405.Kind, .string (bs x405.Name), .string (bs x405.Other), .int .i64 x405.Op, .int .i64 x405.N, .int .i64 x405.Frames, v416]) H 4 rfl sz54 rfl rfl rfl ⟨rfl, rfl, rfl, rfl, rfl, rfl, (slf_one (H.item (i := 3) rfl)), trivial⟩ rfl) ?_
   rintro w423 H
   refine (zJ (zB (hK404 _ _ ?_)))
   refine zD fun K424 hK424 => ?_
   refine zC ?_
   refine zA rfl rfl (zM (yT (cs := [.int .i64 x405.Kind, .string (bs x405.Name), .string (bs x405.Other), .int .i64 x405.Op, .int .i64 x405.N, .int .i64 x405.Frames, v416]) agg54 rfl sz54 rfl (Blk.cells (H.item (i := 4) rfl))) rfl) ?_
   refine zA rfl rfl (zK (v := .int .i64 p1) rfl) ?_
   obtain ⟨x425, e426, hF⟩ := zF hF
   refine zA rfl rfl (Do_sub (a := p1) (b := 1) rfl rfl e426) ?_
   refine zA rfl rfl (zK (v := .pointer (some ⟨b3, 0, none⟩)) rfl) ?_
   obtain ⟨⟨x427, x428⟩, e429, hF⟩ := zI hF
   refine yA rfl rfl (zX en107 rfl) (rhC x405 x425 g358 v416 b3 _ e429 _ _ _ (H.enter [0] [3] (by decide) rfl)) ?_
   rintro _ w430 ⟨rfl, G431⟩
   have H : Hd O _ w430 _ [.fz (.sl rCond v1 p0.Kids), .fz (.at b407 (o408 + g357.toNat * 7) [.int .i64 x405.Kind, .string (bs x405.Name), .string (bs x405.Other), .int .i64 x405.Op, .int .i64 x405.N, .int .i64 x405.Frames, v416]), .fz (.sl rCond v416 x405.Kids), .blk b420 [.int .i64 x405.Kind, .string (bs x405.Name), .string (bs x405.Other), .int .i64 x405.Op, .int .i64 x405.N, .int .i64 x405.Frames, v416] 54, .blk b3 [.int .i64 x428] 3] := H.back [0] [3] rfl G431
   refine ⟨_, rfl, ?_⟩
   obtain ⟨x432, e433, hF⟩ := zF hF
   refine zA rfl rfl (zM (yS (p := x427) rfl) (congrArg Value.bool e433)) ?_
   refine (zJ (zB (hK424 _ _ ?_)))
   refine yH (b := x432) rfl (fun c434 => ?_) (fun c434 => ?_)
   ·have hF := zV c434 hF
    refine zD fun K435 hK435 => ?_
    refine zC ?_
    refine zA rfl rfl (zG (v := .bool false) rfl) ?_
    refine (zJ (zB (hK435 _ _ ?_)))
    have hR := Option.some.inj hF
    subst hR
    refine (yG (yJ (yC (yC (yJ (yC (post1 (v1 := .bool false) rfl rfl ?_)))))))
    exact ⟨rfl, H.pick [4] (by decide)⟩
   have hF := zW c434 hF
   refine (yI (yX (zB (hK403 _ _ ?_))))
   refine zC ?_
   obtain ⟨x436, e437, hF⟩ := zF hF
   refine zA rfl rfl (wE (a := g357) (b := 1) rfl rfl e437) ?_
   refine zA rfl rfl (zK (v := .int .i64 x436) rfl) ?_
   refine (zJ (zB (And.intro ?_ ?_)))
   ·repeat' (first | with_reducible exact zS | refine zZ rfl ?_ | refine zT rfl rfl ?_)
   exact ⟨(n364, x436, x428), (zQ rfl zU), ⟨H.pick [4, 0] (by decide), hF⟩, Nat.lt_succ_self _⟩
  have hF := zW c370 hF
  refine (xW (yU (yU (xE (zB (And.intro ?_ ?_))))))
  ·repeat' (first | with_reducible exact zS | refine zZ rfl ?_ | refine zT rfl rfl ?_)
  exact ⟨g358, zU, ⟨H.pick [0] (by decide), hF⟩⟩
 rintro g199 ρ w200 ⟨H, hF⟩
 have hF := wJ ek202 hF
 refine zD fun K438 hK438 => ?_
 refine zC ?_
 refine zA rfl rfl (zG (v := .bool true) rfl) ?_
 refine (zJ (zB (hK438 _ _ ?_)))
 have hR := Option.some.inj hF
 subst hR
 refine (yG (post1 (v1 := .bool true) rfl rfl ?_))
 exact ⟨rfl, H.pick [0] (by decide)⟩
theorem F_event_small_s : S_event_small (F_event_small) := by
 have h : ∀ n, S_event_small (F_event_small_R n) := by
  intro n
  induction n with
  | zero => intro p0 p1 p2 v1 b3 r hF; cases hF
  | succ n ih => intro p0 p1 p2 v1 b3 r hF; exact F_event_small_B_w (F_event_small_R n) ih p0 p1 p2 v1 b3 r hF
 exact h FU
end Go.Proofs.YtnajnkghilemhaaGreatDoor.L
