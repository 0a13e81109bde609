/- Walks: what each function computes, for every argument; no condition but those that stand in the statements. -/
import Derived.Test.YtnajnkghilemhaaGreatDoorIV0
import Derived.Test.YtnajnkghilemhaaGreatDoorIV5
import Derived.Test.YtnajnkghilemhaaGreatDoorIV6
import Derived.Test.YtnajnkghilemhaaGreatDoorIV4
import Derived.Test.YtnajnkghilemhaaGreatDoorIV1
namespace Go.Proofs.YtnajnkghilemhaaGreatDoor.L
open Go.RowKit Go.OB Go.Lf
set_option maxHeartbeats 4000000 in
theorem F_event_reader_cond_B_w (rfB : EventReader → Int → Option (Cond × EventReader)) (rhB : S_event_reader_cond rfB) (p0 : EventReader) (p1 : Int) (b1 : Nat) (v2 : Value) (v3 : Value) (v4 : Value) (r : Cond × EventReader) (hF : F_event_reader_cond_B rfB p0 p1 = some r) (O S : List Nat) (w : World) (H : Hd O w w S [.own Rp.str v2 9 p0.r.Phases, .own rMoveT v3 102 p0.r.Moves, .own rRule v4 106 p0.r.Rules, .blk b1 [.string (bs p0.text), .int .i64 p0.at_, .int .i64 p0.now.kind, .int .i64 p0.now.at_, .int .i64 p0.now.n, .string (bs p0.now.text), v2, v3, v4] 88, .fz (.at 0 0 ((Fl.arr 7 Fl.str).f zJ)), .fz (.gi 4)]) :
  Calls Tryz.prog 91 ([.pointer (some ⟨b1, 0, none⟩), .int .i64 p1] : List Value).toArray w fun e w' => ∃ u11 u12 u13 u14, e = .returned (.agg [.int .i64 r.1.Kind, .string (bs r.1.Name), .string (bs r.1.Other), .int .i64 r.1.Op, .int .i64 r.1.N, .int .i64 r.1.Frames, u11].toArray) ∧ Hd O w w' S [.fz (.sl rCond u11 r.1.Kids), .own Rp.str u12 9 r.2.r.Phases, .own rMoveT u13 102 r.2.r.Moves, .own rRule u14 106 r.2.r.Rules, .blk b1 [.string (bs r.2.text), .int .i64 r.2.at_, .int .i64 r.2.now.kind, .int .i64 r.2.now.at_, .int .i64 r.2.now.n, .string (bs r.2.now.text), u12, u13, u14] 88] := by
 unfold F_event_reader_cond_B at hF
 refine yB 8 Tryz.func91 rfl rfl rfl ?_
 refine zC fun K15 hK15 => ?_
 refine zB ?_
 refine yX rfl rfl (Lx_box1 rfl rfl H) ?_
 rintro _ w18 ⟨b16, rfl, H⟩
 refine yX rfl rfl (Lx_box1 rfl rfl H) ?_
 rintro _ w21 ⟨b19, rfl, H⟩
 refine yX rfl rfl (xB zero54 H) ?_
 rintro _ w24 ⟨b22, rfl, H⟩
 refine (zF (zA (hK15 _ _ ?_)))
 refine zC fun K25 hK25 => ?_
 refine zB ?_
 refine zH (zT one84 rfl (Cells.get (Blk.cells (H.item (i := 6) rfl)) (i := 0) rfl)) ?_
 refine zH (Do_makeFunc rfl) ?_
 obtain ⟨⟨x26, x27⟩, e28, hF⟩ := zD hF
 refine zV rfl rfl (zU en141 rfl) (F_event_reader_list_event_reader_cond_1_pa0d_w rfB rhB p0 [111, 114] 10 p1 b1 v2 v3 v4 b16 b19 _ e28 _ _ _ (H.enter [0, 1, 2, 3, 6, 7] [4, 5] (by decide) rfl)) ?_
 rintro _ w37 ⟨v29, v31, v32, v33, rfl, G38⟩
 have H : Hd O _ w37 _ [.fz (.at 0 0 ((Fl.arr 7 Fl.str).f zJ)), .fz (.gi 4), .blk b22 [.int .i64 0, .string (bs []), .string (bs []), .int .i64 0, .int .i64 0, .int .i64 0, .slice none 0 0] 54, .fz (.sl rCond v29 x26.Kids), .own Rp.str v31 9 x27.r.Phases, .own rMoveT v32 102 x27.r.Moves, .own rRule v33 106 x27.r.Rules, .blk b1 [.string (bs x27.text), .int .i64 x27.at_, .int .i64 x27.now.kind, .int .i64 x27.now.at_, .int .i64 x27.now.n, .string (bs x27.now.text), v31, v32, v33] 88, .blk b16 [.pointer (some ⟨b1, 0, none⟩)] 84, .blk b19 [.int .i64 p1] 3] := H.back [0, 1, 2, 3, 6, 7] [4, 5] rfl G38
 refine ⟨_, rfl, ?_⟩
 refine yN rfl (yH (vs := [.int .i64 x26.Kind, .string (bs x26.Name), .string (bs x26.Other), .int .i64 x26.Op, .int .i64 x26.N, .int .i64 x26.Frames, v29]) H 2 rfl sz54 rfl rfl rfl ⟨rfl, rfl, rfl, rfl, rfl, rfl, (wE (H.item (i := 3) rfl)), trivial⟩ rfl) ?_
 rintro w39 H
 refine (zF (zA (hK25 _ _ ?_)))
 obtain rfl := someI hF
 refine (zZ (postc  rfl rfl (yC agg54 sz54 rfl (Blk.cells (H.item (i := 2) rfl))) ?_))
 exact ⟨v29, v31, v32, v33, rfl, H.pick [3, 4, 5, 6, 7] (by decide)⟩
theorem F_event_reader_cond_s : S_event_reader_cond (F_event_reader_cond) := by
 have h : ∀ n, S_event_reader_cond (F_event_reader_cond_R n) := by
  intro n
  induction n with
  | zero => intro p0 p1 b1 v2 v3 v4 r hF; cases hF
  | succ n ih => intro p0 p1 b1 v2 v3 v4 r hF; exact F_event_reader_cond_B_w (F_event_reader_cond_R n) ih p0 p1 b1 v2 v3 v4 r hF
 exact h FU
set_option maxHeartbeats 4000000 in
theorem F_event_reader_rules_w (p0 : EventReader) (b1 : Nat) (v2 : Value) (v3 : Value) (v4 : Value) (r : EventReader) (hF : F_event_reader_rules p0 = some r) (O S : List Nat) (w : World) (H : Hd O w w S [.own Rp.str v2 9 p0.r.Phases, .own rMoveT v3 102 p0.r.Moves, .own rRule v4 106 p0.r.Rules, .blk b1 [.string (bs p0.text), .int .i64 p0.at_, .int .i64 p0.now.kind, .int .i64 p0.now.at_, .int .i64 p0.now.n, .string (bs p0.now.text), v2, v3, v4] 88, .fz (.at 0 0 ((Fl.arr 7 Fl.str).f zJ)), .fz (.gi 4)]) :
  Calls Tryz.prog 39 ([.pointer (some ⟨b1, 0, none⟩)] : List Value).toArray w fun e w' => ∃ u11 u12 u13, e = .returned (.tuple #[]) ∧ Hd O w w' S [.own Rp.str u11 9 r.r.Phases, .own rMoveT u12 102 r.r.Moves, .own rRule u13 106 r.r.Rules, .blk b1 [.string (bs r.text), .int .i64 r.at_, .int .i64 r.now.kind, .int .i64 r.now.at_, .int .i64 r.now.n, .string (bs r.now.text), u11, u12, u13] 88] := by
 unfold F_event_reader_rules at hF
 refine yB 81 Tryz.func39 rfl rfl rfl ?_
 obtain ⟨j104, hF, hK103⟩ := zD hF
 refine yL [4, 5, 6, 7, 8, 9, 10, 11, 12, 13, 14, 15, 16, 17, 18, 19, 20, 21, 22] (fun (g : Value × Value × Value) => []) (fun g wl => Hd O w wl S [.blk b1 [.string (bs j104.1), .int .i64 j104.2.1, .int .i64 j104.2.2.1, .int .i64 j104.2.2.2.1, .int .i64 j104.2.2.2.2.1, .string (bs j104.2.2.2.2.2.1), g.1, g.2.1, g.2.2] 88, .own Rp.str g.1 9 j104.2.2.2.2.2.2.1, .own rMoveT g.2.1 102 j104.2.2.2.2.2.2.2.1, .own rRule g.2.2 106 j104.2.2.2.2.2.2.2.2, .fz (.at 0 0 ((Fl.arr 7 Fl.str).f zJ)), .fz (.gi 4)]) ?_ ?_
 ·skip
  refine zC fun K105 hK105 => ?_
  refine zB ?_
  refine zM (.pointer (some ⟨b1, 0, none⟩)) ?_
  obtain ⟨x106, e107, hF⟩ := zD hF
  refine zV rfl rfl (zU en87 rfl) (F_event_reader_advance_w p0 b1 v2 v3 v4 _ e107 _ _ _ (H.enter [0, 1, 2, 3] [5] (by decide) rfl)) ?_
  rintro _ w114 ⟨v108, v109, v110, rfl, G115⟩
  have H : Hd O _ w114 _ [.fz (.at 0 0 ((Fl.arr 7 Fl.str).f zJ)), .fz (.gi 4), .own Rp.str v108 9 x106.r.Phases, .own rMoveT v109 102 x106.r.Moves, .own rRule v110 106 x106.r.Rules, .blk b1 [.string (bs x106.text), .int .i64 x106.at_, .int .i64 x106.now.kind, .int .i64 x106.now.at_, .int .i64 x106.now.n, .string (bs x106.now.text), v108, v109, v110] 88] := H.back [0, 1, 2, 3] [5] rfl G115
  refine ⟨_, rfl, ?_⟩
  refine (zF (zA (hK105 _ _ ?_)))
  refine yJ ?_
  unfold F_event_reader_rules_L1 at hF
  obtain ⟨B172, n173, eB174, hF⟩ := yY hF
  refine xK [6, 7, 8, 9, 10, 11, 12, 13, 14, 15, 16, 17, 18, 19, 20, 21, 22] (fun (g : Nat) => []) (fun g wl => Hd O w wl S [.fz (.at 0 0 ((Fl.arr 7 Fl.str).f zJ)), .fz (.gi 4), .own Rp.str v108 9 x106.r.Phases, .own rMoveT v109 102 x106.r.Moves, .own rRule v110 106 x106.r.Rules, .blk b1 [.string (bs x106.text), .int .i64 x106.at_, .int .i64 x106.now.kind, .int .i64 x106.now.at_, .int .i64 x106.now.n, .string (bs x106.now.text), v108, v109, v110] 88] ∧ loopN B172 g () = some j104) (fun g => g) n173 zL ⟨H.pick [0, 1, 2, 3, 4, 5] (by decide), hF⟩ ?_
  clear H hF
  rintro n173 ρ w176 ⟨H, hF⟩
  obtain ⟨n177, rfl, hF⟩ := xE hF
  have hF := xC eB174 hF
  refine zC fun K186 hK186 => ?_
  refine zC fun K187 hK187 => ?_
  refine zB ?_
  refine zM (.pointer (some ⟨b1, 0, none⟩)) ?_
  have H188 := H
  have H := H.freezeB (i := 5) rfl
  have H := H.freeze (i := 2) rfl
  have H := H.freeze (i := 3) rfl
  have H := H.freeze (i := 4) rfl
  have H := H.fz (.pt rEventReader (some ⟨b1, 0, none⟩) (some x106)) ⟨_, _, _, rfl, (H.item (i := 5) rfl).1, (H.item (i := 5) rfl).2.1, (xN (x := x106) (H.item (i := 2) rfl) (H.item (i := 3) rfl) (H.item (i := 4) rfl)), (H.item (i := 5) rfl).2.2⟩
  obtain ⟨x190, e191, hF⟩ := zD hF
  refine zV rfl rfl (zU en88 rfl) (F_event_reader_is_w (some x106) [112, 104, 97, 115, 101] (some ⟨b1, 0, none⟩) _ e191 _ _ _ (H.enter [] [6] (by decide) rfl)) ?_
  rintro _ w192 ⟨rfl, G193⟩
  have H := H188.step (G193.only : Only [] _ _)
  refine ⟨_, rfl, ?_⟩
  refine (zF (zA (hK187 _ _ ?_)))
  refine zW (b := x190) rfl (fun c194 => ?_) (fun c194 => ?_)
  ·have hF := zO c194 hF
   refine (yA (zA (hK186 _ _ ?_)))
   refine yJ ?_
   refine zC fun K195 hK195 => ?_
   refine zB ?_
   refine zM (.pointer (some ⟨b1, 0, none⟩)) ?_
   obtain ⟨x196, e197, hF⟩ := zD hF
   refine zV rfl rfl (zU en87 rfl) (F_event_reader_advance_w x106 b1 v108 v109 v110 _ e197 _ _ _ (H.enter [2, 3, 4, 5] [1] (by decide) rfl)) ?_
   rintro _ w204 ⟨v198, v199, v200, rfl, G205⟩
   have H : Hd O _ w204 _ [.fz (.at 0 0 ((Fl.arr 7 Fl.str).f zJ)), .fz (.gi 4), .own Rp.str v198 9 x196.r.Phases, .own rMoveT v199 102 x196.r.Moves, .own rRule v200 106 x196.r.Rules, .blk b1 [.string (bs x196.text), .int .i64 x196.at_, .int .i64 x196.now.kind, .int .i64 x196.now.at_, .int .i64 x196.now.n, .string (bs x196.now.text), v198, v199, v200] 88] := H.back [2, 3, 4, 5] [1] rfl G205
   refine ⟨_, rfl, ?_⟩
   refine (zF (zA (hK195 _ _ ?_)))
   cases hF
  have hF := zN c194 hF
  obtain rfl := someI hF
  exact (xW (yT (yT (xG (zA (meet ⟨(v108, v109, v110), zL, H.pick [5, 2, 3, 4, 0, 1] (by decide)⟩))))))
 rintro ⟨v95, v98, v101⟩ ρ w102 H
 have hF := hK103
 obtain ⟨g87, g88, g89, g90, g91, g92, g94, g97, g100⟩ := j104
 obtain ⟨j432, hF, hK431⟩ := zD hF
 refine yL [2, 23, 24, 25, 26, 27, 28, 29, 30, 31, 32, 33, 34, 35, 36, 37, 38, 39, 40, 41, 42, 43, 44, 45, 46, 47, 48] (fun (g : Value × Value × Value) => []) (fun g wl => Hd O w wl S [.blk b1 [.string (bs j432.1), .int .i64 j432.2.1, .int .i64 j432.2.2.1, .int .i64 j432.2.2.2.1, .int .i64 j432.2.2.2.2.1, .string (bs j432.2.2.2.2.2.1), g.1, g.2.1, g.2.2] 88, .own Rp.str g.1 9 j432.2.2.2.2.2.2.1, .own rMoveT g.2.1 102 j432.2.2.2.2.2.2.2.1, .own rRule g.2.2 106 j432.2.2.2.2.2.2.2.2, .fz (.at 0 0 ((Fl.arr 7 Fl.str).f zJ)), .fz (.gi 4)]) ?_ ?_
 ·skip
  refine yJ ?_
  unfold F_event_reader_rules_L2 at hF
  obtain ⟨B651, n652, eB653, hF⟩ := yY hF
  refine xK [2, 23, 24, 25, 26, 27, 28, 29, 30, 31, 32, 33, 34, 35, 36, 37, 38, 39, 40, 41, 42, 43, 44, 45, 46, 47, 48] (fun (g : Nat × Str × Int × Int × Int × Int × Str × (List Str) × (List MoveT) × (List Rule) × Value × Value × Value) => []) (fun g wl => Hd O w wl S [.blk b1 [.string (bs g.2.1), .int .i64 g.2.2.1, .int .i64 g.2.2.2.1, .int .i64 g.2.2.2.2.1, .int .i64 g.2.2.2.2.2.1, .string (bs g.2.2.2.2.2.2.1), g.2.2.2.2.2.2.2.2.2.2.1, g.2.2.2.2.2.2.2.2.2.2.2.1, g.2.2.2.2.2.2.2.2.2.2.2.2] 88, .own Rp.str g.2.2.2.2.2.2.2.2.2.2.1 9 g.2.2.2.2.2.2.2.1, .own rMoveT g.2.2.2.2.2.2.2.2.2.2.2.1 102 g.2.2.2.2.2.2.2.2.1, .own rRule g.2.2.2.2.2.2.2.2.2.2.2.2 106 g.2.2.2.2.2.2.2.2.2.1, .fz (.at 0 0 ((Fl.arr 7 Fl.str).f zJ)), .fz (.gi 4)] ∧ loopN B651 g.1 (g.2.1, g.2.2.1, g.2.2.2.1, g.2.2.2.2.1, g.2.2.2.2.2.1, g.2.2.2.2.2.2.1, g.2.2.2.2.2.2.2.1, g.2.2.2.2.2.2.2.2.1, g.2.2.2.2.2.2.2.2.2.1) = some j432) (fun g => g.1) (n652, g87, g88, g89, g90, g91, g92, g94, g97, g100, v95, v98, v101) zL ⟨H.pick [0, 1, 2, 3, 4, 5] (by decide), hF⟩ ?_
  clear H hF
  rintro ⟨n652, g636, g637, g638, g639, g640, g641, g643, g646, g649, v644, v647, v650⟩ ρ w655 ⟨H, hF⟩
  obtain ⟨n656, rfl, hF⟩ := xE hF
  have hF := xC eB653 hF
  refine zC fun K665 hK665 => ?_
  refine zC fun K666 hK666 => ?_
  refine zB ?_
  refine zM (.pointer (some ⟨b1, 0, none⟩)) ?_
  have H667 := H
  have H := H.freezeB (i := 0) rfl
  have H := H.freeze (i := 1) rfl
  have H := H.freeze (i := 2) rfl
  have H := H.freeze (i := 3) rfl
  have H := H.fz (.pt rEventReader (some ⟨b1, 0, none⟩) (some (EventReader.mk g636 g637 (EventToken.mk g638 g639 g640 g641) (Rules.mk g643 g646 g649)))) ⟨_, _, _, rfl, (H.item (i := 0) rfl).1, (H.item (i := 0) rfl).2.1, (xN (x := EventReader.mk g636 g637 (EventToken.mk g638 g639 g640 g641) (Rules.mk g643 g646 g649)) (H.item (i := 1) rfl) (H.item (i := 2) rfl) (H.item (i := 3) rfl)), (H.item (i := 0) rfl).2.2⟩
  obtain ⟨x669, e670, hF⟩ := zD hF
  refine zV rfl rfl (zU en88 rfl) (F_event_reader_is_w (some (EventReader.mk g636 g637 (EventToken.mk g638 g639 g640 g641) (Rules.mk g643 g646 g649))) [109, 111, 118, 101] (some ⟨b1, 0, none⟩) _ e670 _ _ _ (H.enter [] [6] (by decide) rfl)) ?_
  rintro _ w671 ⟨rfl, G672⟩
  have H := H667.step (G672.only : Only [] _ _)
  refine ⟨_, rfl, ?_⟩
  refine (zF (zA (hK666 _ _ ?_)))
  refine zW (b := x669) rfl (fun c673 => ?_) (fun c673 => ?_)
  ·have hF := zO c673 hF
   refine (yA (zA (hK665 _ _ ?_)))
   refine yJ ?_
   refine zC fun K674 hK674 => ?_
   refine zB ?_
   refine zM (.pointer (some ⟨b1, 0, none⟩)) ?_
   obtain ⟨x675, e676, hF⟩ := zD hF
   refine zV rfl rfl (zU en87 rfl) (F_event_reader_advance_w (EventReader.mk g636 g637 (EventToken.mk g638 g639 g640 g641) (Rules.mk g643 g646 g649)) b1 v644 v647 v650 _ e676 _ _ _ (H.enter [1, 2, 3, 0] [5] (by decide) rfl)) ?_
   rintro _ w683 ⟨v677, v678, v679, rfl, G684⟩
   have H : Hd O _ w683 _ [.fz (.at 0 0 ((Fl.arr 7 Fl.str).f zJ)), .fz (.gi 4), .own Rp.str v677 9 x675.r.Phases, .own rMoveT v678 102 x675.r.Moves, .own rRule v679 106 x675.r.Rules, .blk b1 [.string (bs x675.text), .int .i64 x675.at_, .int .i64 x675.now.kind, .int .i64 x675.now.at_, .int .i64 x675.now.n, .string (bs x675.now.text), v677, v678, v679] 88] := H.back [1, 2, 3, 0] [5] rfl G684
   refine ⟨_, rfl, ?_⟩
   refine (zF (zA (hK674 _ _ ?_)))
   refine zC fun K685 hK685 => ?_
   refine zB ?_
   refine zM (.pointer (some ⟨b1, 0, none⟩)) ?_
   obtain ⟨⟨x686, x687⟩, e688, hF⟩ := zD hF
   refine zV rfl rfl (zU en89 rfl) (F_event_reader_name_w x675 b1 v677 v678 v679 _ e688 _ _ _ (H.enter [2, 3, 4, 5] [1] (by decide) rfl)) ?_
   rintro _ w695 ⟨v689, v690, v691, rfl, G696⟩
   have H : Hd O _ w695 _ [.fz (.at 0 0 ((Fl.arr 7 Fl.str).f zJ)), .fz (.gi 4), .own Rp.str v689 9 x687.r.Phases, .own rMoveT v690 102 x687.r.Moves, .own rRule v691 106 x687.r.Rules, .blk b1 [.string (bs x687.text), .int .i64 x687.at_, .int .i64 x687.now.kind, .int .i64 x687.now.at_, .int .i64 x687.now.n, .string (bs x687.now.text), v689, v690, v691] 88] := H.back [2, 3, 4, 5] [1] rfl G696
   refine ⟨_, rfl, ?_⟩
   refine zM (.pointer (some ⟨b1, 0, none⟩)) ?_
   obtain ⟨⟨x697, x698⟩, e699, hF⟩ := zD hF
   refine zV rfl rfl (zU en89 rfl) (F_event_reader_name_w x687 b1 v689 v690 v691 _ e699 _ _ _ (H.enter [2, 3, 4, 5] [1] (by decide) rfl)) ?_
   rintro _ w706 ⟨v700, v701, v702, rfl, G707⟩
   have H : Hd O _ w706 _ [.fz (.at 0 0 ((Fl.arr 7 Fl.str).f zJ)), .fz (.gi 4), .own Rp.str v700 9 x698.r.Phases, .own rMoveT v701 102 x698.r.Moves, .own rRule v702 106 x698.r.Rules, .blk b1 [.string (bs x698.text), .int .i64 x698.at_, .int .i64 x698.now.kind, .int .i64 x698.now.at_, .int .i64 x698.now.n, .string (bs x698.now.text), v700, v701, v702] 88] := H.back [2, 3, 4, 5] [1] rfl G707
   refine ⟨_, rfl, ?_⟩
   refine zH (xH (cs := [.string (bs x686), .string (bs x697), .int .i64 0, .string (bs []), .string (bs []), .int .i64 0, .int .i64 0, .int .i64 0, .slice none 0 0]) (bt102_0_1 _ _)) ?_
   refine yX rfl rfl (xB zero102 H) ?_
   rintro _ w710 ⟨b708, rfl, H⟩
   refine yN rfl (yH (vs := [.string (bs x686), .string (bs x697), .int .i64 0, .string (bs []), .string (bs []), .int .i64 0, .int .i64 0, .int .i64 0, .slice none 0 0]) H 6 rfl sz102 rfl rfl rfl ⟨rfl, rfl, rfl, rfl, rfl, rfl, rfl, rfl, rfl, trivial⟩ rfl) ?_
   rintro w711 H
   refine (zF (zA (hK685 _ _ ?_)))
   refine zC fun K712 hK712 => ?_
   refine zB ?_
   refine zM (.pointer (some ⟨b1, 0, none⟩)) ?_
   obtain ⟨x713, e714, hF⟩ := zD hF
   refine zV rfl rfl (zU en90 rfl) (F_event_reader_must_w x698 [105, 102] b1 v700 v701 v702 _ e714 _ _ _ (H.enter [2, 3, 4, 5] [1] (by decide) rfl)) ?_
   rintro _ w721 ⟨v715, v716, v717, rfl, G722⟩
   have H : Hd O _ w721 _ [.fz (.at 0 0 ((Fl.arr 7 Fl.str).f zJ)), .fz (.gi 4), .blk b708 [.string (bs x686), .string (bs x697), .int .i64 0, .string (bs []), .string (bs []), .int .i64 0, .int .i64 0, .int .i64 0, .slice none 0 0] 102, .own Rp.str v715 9 x713.r.Phases, .own rMoveT v716 102 x713.r.Moves, .own rRule v717 106 x713.r.Rules, .blk b1 [.string (bs x713.text), .int .i64 x713.at_, .int .i64 x713.now.kind, .int .i64 x713.now.at_, .int .i64 x713.now.n, .string (bs x713.now.text), v715, v716, v717] 88] := H.back [2, 3, 4, 5] [1] rfl G722
   refine ⟨_, rfl, ?_⟩
   refine (zF (zA (hK712 _ _ ?_)))
   refine zC fun K723 hK723 => ?_
   refine zB ?_
   refine zM (.pointer (some ⟨b1, 0, none⟩)) ?_
   obtain ⟨⟨x724, x725⟩, e726, hF⟩ := zD hF
   refine zV rfl rfl (zU en91 rfl) (F_event_reader_cond_s x713 0 b1 v715 v716 v717 _ e726 _ _ _ (H.enter [3, 4, 5, 6] [0, 1] (by decide) rfl)) ?_
   rintro _ w735 ⟨v727, v729, v730, v731, rfl, G736⟩
   have H : Hd O _ w735 _ [.fz (.at 0 0 ((Fl.arr 7 Fl.str).f zJ)), .fz (.gi 4), .blk b708 [.string (bs x686), .string (bs x697), .int .i64 0, .string (bs []), .string (bs []), .int .i64 0, .int .i64 0, .int .i64 0, .slice none 0 0] 102, .fz (.sl rCond v727 x724.Kids), .own Rp.str v729 9 x725.r.Phases, .own rMoveT v730 102 x725.r.Moves, .own rRule v731 106 x725.r.Rules, .blk b1 [.string (bs x725.text), .int .i64 x725.at_, .int .i64 x725.now.kind, .int .i64 x725.now.at_, .int .i64 x725.now.n, .string (bs x725.now.text), v729, v730, v731] 88] := H.back [3, 4, 5, 6] [0, 1] rfl G736
   refine ⟨_, rfl, ?_⟩
   refine zH (fa102_2 rfl) ?_
   refine yN rfl (yH (vs := [.int .i64 x724.Kind, .string (bs x724.Name), .string (bs x724.Other), .int .i64 x724.Op, .int .i64 x724.N, .int .i64 x724.Frames, v727]) H 2 rfl sz54 rfl rfl rfl ⟨rfl, rfl, rfl, rfl, rfl, rfl, (wE (H.item (i := 3) rfl)), trivial⟩ rfl) ?_
   rintro w737 H
   refine (zF (zA (hK723 _ _ ?_)))
   have H738 := H
   have H := H.rebase
   have H739 := H
   refine WP_mix0 H [0, 1, 2, 3, 4, 5, 6, 7, 8, 9, 10, 11, 12] [.pure, .pure, .pure, .pure, .pure, .read, .read, .new, .eff, .pure, .pure, .pure, .eff] mixed (by kernel_rfl) (by kernel_rfl) (by kernel_rfl) rfl ?_
   refine Mx.zX rfl rfl rfl (fun w' hw' => xI (v := .pointer (some ⟨b1, 0, none⟩)) rfl) ?_
   refine Mx.zX rfl rfl rfl (fun w' hw' => xI (v := .pointer (some ⟨b1, 0, none⟩)) rfl) ?_
   refine Mx.zX rfl rfl rfl (fun w' hw' => yG rfl) ?_
   refine Mx.zX rfl rfl rfl (fun w' hw' => fa88_3 rfl) ?_
   refine Mx.zX rfl rfl rfl (fun w' hw' => fa26_1 rfl) ?_
   refine Mx.xM oS rfl rfl rfl (fun w' hw' => zT one23 rfl (Cells.get (Blk.cells ((H.sees hw').item (i := 7) rfl)) (i := 7) rfl)) ?_
   refine Mx.xM oS rfl rfl rfl (fun w' hw' => yQ (yM (cs := [.string (bs x686), .string (bs x697), .int .i64 x724.Kind, .string (bs x724.Name), .string (bs x724.Other), .int .i64 x724.Op, .int .i64 x724.N, .int .i64 x724.Frames, v727]) agg102 rfl sz102 rfl (Blk.cells ((H.sees hw').item (i := 2) rfl))) rfl) ?_
   obtain ⟨x740, e741, hF⟩ := zG hF
   subst e741
   refine Mx.XL_exN oS rfl rfl rfl (fun w' hw' => Ls_of (Lx_bs (r := rMoveT) (xl := [MoveT.mk x686 x697 x724]) (cs := [.string (bs x686), .string (bs x697), .int .i64 x724.Kind, .string (bs x724.Name), .string (bs x724.Other), .int .i64 x724.Op, .int .i64 x724.N, .int .i64 x724.Frames, v727]) u23 el102 (by decide) (by decide) rfl (xJ (vs := [.agg [.string (bs x686), .string (bs x697), .int .i64 x724.Kind, .string (bs x724.Name), .string (bs x724.Other), .int .i64 x724.Op, .int .i64 x724.N, .int .i64 x724.Frames, v727].toArray]) (by decide) rfl rfl ⟨rfl, trivial⟩ rfl) (H.sees hw') ⟨[.string (bs x686), .string (bs x697), .int .i64 x724.Kind, .string (bs x724.Name), .string (bs x724.Other), .int .i64 x724.Op, .int .i64 x724.N, .int .i64 x724.Frames, v727], [], rfl, (rMoveT_mk (x := MoveT.mk x686 x697 x724) ((H.sees hw').item (i := 3) rfl)), rfl⟩) (Ys_bs (cs := [.string (bs x686), .string (bs x697), .int .i64 x724.Kind, .string (bs x724.Name), .string (bs x724.Other), .int .i64 x724.Op, .int .i64 x724.N, .int .i64 x724.Frames, v727]) u23 el102 (by decide) (by decide) (xJ (vs := [.agg [.string (bs x686), .string (bs x697), .int .i64 x724.Kind, .string (bs x724.Name), .string (bs x724.Other), .int .i64 x724.Op, .int .i64 x724.N, .int .i64 x724.Frames, v727].toArray]) (by decide) rfl rfl ⟨rfl, trivial⟩ rfl))) ?_
   rintro w' v743 w744 hw' H
   obtain ⟨x745, e746, hF⟩ := zD hF
   refine Mx.XL_ex oS rfl rfl rfl (fun w' hw' => Lx_app (H.sees hw') (i := 5) rfl u23 el102 rfl rfl (Sr.of_own ((H.sees hw').item (i := 8) rfl)) e746) ?_
   rintro w' v747 w748 hw' H
   refine ⟨H.only, ?_⟩
   refine Mx.zX rfl rfl rfl (fun w' hw' => yG rfl) ?_
   refine Mx.zX rfl rfl rfl (fun w' hw' => fa88_3 rfl) ?_
   refine Mx.zX rfl rfl rfl (fun w' hw' => fa26_1 rfl) ?_
   refine Mx.XL_exU oS rfl rfl (fun w' hw' => xA (H.sees hw') 7 rfl sz23 rfl (v := v747) rfl (own_one ((H.sees hw').item (i := 5) rfl)) rfl) ?_
   rintro w' w749 hw' H
   refine ⟨H.only, ?_⟩
   refine Mx.XL_nil fun w750 hS => ?_
   have H := H.sees hS
   have H := H738.rejoin H
   exact (yR (zA (meet ⟨(n656, x725.text, x725.at_, x725.now.kind, x725.now.at_, x725.now.n, x725.now.text, x725.r.Phases, x745, x725.r.Rules, v729, v747, v731), zL, ⟨H.pick [7, 4, 5, 6, 0, 1] (by decide), hF⟩, Nat.lt_succ_self _⟩)))
  have hF := zN c673 hF
  obtain rfl := someI hF
  exact (xW (yT (yT (xG (zA (meet ⟨(v644, v647, v650), zL, H.pick [0, 1, 2, 3, 4, 5] (by decide)⟩))))))
 rintro ⟨v423, v426, v429⟩ ρ w430 H
 have hF := hK431
 obtain ⟨g415, g416, g417, g418, g419, g420, g422, g425, g428⟩ := j432
 obtain ⟨j955, hF, hK954⟩ := zD hF
 refine yL [3, 49, 50, 51, 52, 53, 54, 55, 56, 57, 58, 59, 60, 61, 62, 63, 64, 65, 66, 67, 68, 69, 70, 71, 72] (fun (g : Value × Value × Value) => []) (fun g wl => Hd O w wl S [.blk b1 [.string (bs j955.1), .int .i64 j955.2.1, .int .i64 j955.2.2.1, .int .i64 j955.2.2.2.1, .int .i64 j955.2.2.2.2.1, .string (bs j955.2.2.2.2.2.1), g.1, g.2.1, g.2.2] 88, .own Rp.str g.1 9 j955.2.2.2.2.2.2.1, .own rMoveT g.2.1 102 j955.2.2.2.2.2.2.2.1, .own rRule g.2.2 106 j955.2.2.2.2.2.2.2.2, .fz (.at 0 0 ((Fl.arr 7 Fl.str).f zJ)), .fz (.gi 4)]) ?_ ?_
 ·skip
  refine yJ ?_
  unfold F_event_reader_rules_L3 at hF
  obtain ⟨B1152, n1153, eB1154, hF⟩ := yY hF
  refine xK [3, 49, 50, 51, 52, 53, 54, 55, 56, 57, 58, 59, 60, 61, 62, 63, 64, 65, 66, 67, 68, 69, 70, 71, 72] (fun (g : Nat × Str × Int × Int × Int × Int × Str × (List Str) × (List MoveT) × (List Rule) × Value × Value × Value) => []) (fun g wl => Hd O w wl S [.blk b1 [.string (bs g.2.1), .int .i64 g.2.2.1, .int .i64 g.2.2.2.1, .int .i64 g.2.2.2.2.1, .int .i64 g.2.2.2.2.2.1, .string (bs g.2.2.2.2.2.2.1), g.2.2.2.2.2.2.2.2.2.2.1, g.2.2.2.2.2.2.2.2.2.2.2.1, g.2.2.2.2.2.2.2.2.2.2.2.2] 88, .own Rp.str g.2.2.2.2.2.2.2.2.2.2.1 9 g.2.2.2.2.2.2.2.1, .own rMoveT g.2.2.2.2.2.2.2.2.2.2.2.1 102 g.2.2.2.2.2.2.2.2.1, .own rRule g.2.2.2.2.2.2.2.2.2.2.2.2 106 g.2.2.2.2.2.2.2.2.2.1, .fz (.at 0 0 ((Fl.arr 7 Fl.str).f zJ)), .fz (.gi 4)] ∧ loopN B1152 g.1 (g.2.1, g.2.2.1, g.2.2.2.1, g.2.2.2.2.1, g.2.2.2.2.2.1, g.2.2.2.2.2.2.1, g.2.2.2.2.2.2.2.1, g.2.2.2.2.2.2.2.2.1, g.2.2.2.2.2.2.2.2.2.1) = some j955) (fun g => g.1) (n1153, g415, g416, g417, g418, g419, g420, g422, g425, g428, v423, v426, v429) zL ⟨H.pick [0, 1, 2, 3, 4, 5] (by decide), hF⟩ ?_
  clear H hF
  rintro ⟨n1153, g1137, g1138, g1139, g1140, g1141, g1142, g1144, g1147, g1150, v1145, v1148, v1151⟩ ρ w1156 ⟨H, hF⟩
  obtain ⟨n1157, rfl, hF⟩ := xE hF
  have hF := xC eB1154 hF
  refine zC fun K1166 hK1166 => ?_
  refine zC fun K1167 hK1167 => ?_
  refine zB ?_
  refine zM (.pointer (some ⟨b1, 0, none⟩)) ?_
  have H1168 := H
  have H := H.freezeB (i := 0) rfl
  have H := H.freeze (i := 1) rfl
  have H := H.freeze (i := 2) rfl
  have H := H.freeze (i := 3) rfl
  have H := H.fz (.pt rEventReader (some ⟨b1, 0, none⟩) (some (EventReader.mk g1137 g1138 (EventToken.mk g1139 g1140 g1141 g1142) (Rules.mk g1144 g1147 g1150)))) ⟨_, _, _, rfl, (H.item (i := 0) rfl).1, (H.item (i := 0) rfl).2.1, (xN (x := EventReader.mk g1137 g1138 (EventToken.mk g1139 g1140 g1141 g1142) (Rules.mk g1144 g1147 g1150)) (H.item (i := 1) rfl) (H.item (i := 2) rfl) (H.item (i := 3) rfl)), (H.item (i := 0) rfl).2.2⟩
  obtain ⟨x1170, e1171, hF⟩ := zD hF
  refine zV rfl rfl (zU en88 rfl) (F_event_reader_is_w (some (EventReader.mk g1137 g1138 (EventToken.mk g1139 g1140 g1141 g1142) (Rules.mk g1144 g1147 g1150))) [114, 117, 108, 101] (some ⟨b1, 0, none⟩) _ e1171 _ _ _ (H.enter [] [6] (by decide) rfl)) ?_
  rintro _ w1172 ⟨rfl, G1173⟩
  have H := H1168.step (G1173.only : Only [] _ _)
  refine ⟨_, rfl, ?_⟩
  refine (zF (zA (hK1167 _ _ ?_)))
  refine zW (b := x1170) rfl (fun c1174 => ?_) (fun c1174 => ?_)
  ·have hF := zO c1174 hF
   refine (yA (zA (hK1166 _ _ ?_)))
   refine yJ ?_
   refine zC fun K1175 hK1175 => ?_
   refine zB ?_
   refine zM (.pointer (some ⟨b1, 0, none⟩)) ?_
   obtain ⟨x1176, e1177, hF⟩ := zD hF
   refine zV rfl rfl (zU en87 rfl) (F_event_reader_advance_w (EventReader.mk g1137 g1138 (EventToken.mk g1139 g1140 g1141 g1142) (Rules.mk g1144 g1147 g1150)) b1 v1145 v1148 v1151 _ e1177 _ _ _ (H.enter [1, 2, 3, 0] [5] (by decide) rfl)) ?_
   rintro _ w1184 ⟨v1178, v1179, v1180, rfl, G1185⟩
   have H : Hd O _ w1184 _ [.fz (.at 0 0 ((Fl.arr 7 Fl.str).f zJ)), .fz (.gi 4), .own Rp.str v1178 9 x1176.r.Phases, .own rMoveT v1179 102 x1176.r.Moves, .own rRule v1180 106 x1176.r.Rules, .blk b1 [.string (bs x1176.text), .int .i64 x1176.at_, .int .i64 x1176.now.kind, .int .i64 x1176.now.at_, .int .i64 x1176.now.n, .string (bs x1176.now.text), v1178, v1179, v1180] 88] := H.back [1, 2, 3, 0] [5] rfl G1185
   refine ⟨_, rfl, ?_⟩
   refine (zF (zA (hK1175 _ _ ?_)))
   refine zC fun K1186 hK1186 => ?_
   refine zB ?_
   refine zM (.pointer (some ⟨b1, 0, none⟩)) ?_
   obtain ⟨⟨x1187, x1188⟩, e1189, hF⟩ := zD hF
   refine zV rfl rfl (zU en89 rfl) (F_event_reader_name_w x1176 b1 v1178 v1179 v1180 _ e1189 _ _ _ (H.enter [2, 3, 4, 5] [1] (by decide) rfl)) ?_
   rintro _ w1196 ⟨v1190, v1191, v1192, rfl, G1197⟩
   have H : Hd O _ w1196 _ [.fz (.at 0 0 ((Fl.arr 7 Fl.str).f zJ)), .fz (.gi 4), .own Rp.str v1190 9 x1188.r.Phases, .own rMoveT v1191 102 x1188.r.Moves, .own rRule v1192 106 x1188.r.Rules, .blk b1 [.string (bs x1188.text), .int .i64 x1188.at_, .int .i64 x1188.now.kind, .int .i64 x1188.now.at_, .int .i64 x1188.now.n, .string (bs x1188.now.text), v1190, v1191, v1192] 88] := H.back [2, 3, 4, 5] [1] rfl G1197
   refine ⟨_, rfl, ?_⟩
   refine zH (xH (cs := [.string (bs x1187), .int .i64 0, .string (bs []), .string (bs []), .int .i64 0, .int .i64 0, .int .i64 0, .slice none 0 0]) (bt106_0 _)) ?_
   refine yX rfl rfl (xB zero106 H) ?_
   rintro _ w1200 ⟨b1198, rfl, H⟩
   refine yN rfl (yH (vs := [.string (bs x1187), .int .i64 0, .string (bs []), .string (bs []), .int .i64 0, .int .i64 0, .int .i64 0, .slice none 0 0]) H 6 rfl sz106 rfl rfl rfl ⟨rfl, rfl, rfl, rfl, rfl, rfl, rfl, rfl, trivial⟩ rfl) ?_
   rintro w1201 H
   refine (zF (zA (hK1186 _ _ ?_)))
   refine zC fun K1202 hK1202 => ?_
   refine zB ?_
   refine zM (.pointer (some ⟨b1, 0, none⟩)) ?_
   obtain ⟨x1203, e1204, hF⟩ := zD hF
   refine zV rfl rfl (zU en90 rfl) (F_event_reader_must_w x1188 [105, 102] b1 v1190 v1191 v1192 _ e1204 _ _ _ (H.enter [2, 3, 4, 5] [1] (by decide) rfl)) ?_
   rintro _ w1211 ⟨v1205, v1206, v1207, rfl, G1212⟩
   have H : Hd O _ w1211 _ [.fz (.at 0 0 ((Fl.arr 7 Fl.str).f zJ)), .fz (.gi 4), .blk b1198 [.string (bs x1187), .int .i64 0, .string (bs []), .string (bs []), .int .i64 0, .int .i64 0, .int .i64 0, .slice none 0 0] 106, .own Rp.str v1205 9 x1203.r.Phases, .own rMoveT v1206 102 x1203.r.Moves, .own rRule v1207 106 x1203.r.Rules, .blk b1 [.string (bs x1203.text), .int .i64 x1203.at_, .int .i64 x1203.now.kind, .int .i64 x1203.now.at_, .int .i64 x1203.now.n, .string (bs x1203.now.text), v1205, v1206, v1207] 88] := H.back [2, 3, 4, 5] [1] rfl G1212
   refine ⟨_, rfl, ?_⟩
   refine (zF (zA (hK1202 _ _ ?_)))
   refine zC fun K1213 hK1213 => ?_
   refine zB ?_
   refine zM (.pointer (some ⟨b1, 0, none⟩)) ?_
   obtain ⟨⟨x1214, x1215⟩, e1216, hF⟩ := zD hF
   refine zV rfl rfl (zU en91 rfl) (F_event_reader_cond_s x1203 0 b1 v1205 v1206 v1207 _ e1216 _ _ _ (H.enter [3, 4, 5, 6] [0, 1] (by decide) rfl)) ?_
   rintro _ w1225 ⟨v1217, v1219, v1220, v1221, rfl, G1226⟩
   have H : Hd O _ w1225 _ [.fz (.at 0 0 ((Fl.arr 7 Fl.str).f zJ)), .fz (.gi 4), .blk b1198 [.string (bs x1187), .int .i64 0, .string (bs []), .string (bs []), .int .i64 0, .int .i64 0, .int .i64 0, .slice none 0 0] 106, .fz (.sl rCond v1217 x1214.Kids), .own Rp.str v1219 9 x1215.r.Phases, .own rMoveT v1220 102 x1215.r.Moves, .own rRule v1221 106 x1215.r.Rules, .blk b1 [.string (bs x1215.text), .int .i64 x1215.at_, .int .i64 x1215.now.kind, .int .i64 x1215.now.at_, .int .i64 x1215.now.n, .string (bs x1215.now.text), v1219, v1220, v1221] 88] := H.back [3, 4, 5, 6] [0, 1] rfl G1226
   refine ⟨_, rfl, ?_⟩
   refine zH (fa106_1 rfl) ?_
   refine yN rfl (yH (vs := [.int .i64 x1214.Kind, .string (bs x1214.Name), .string (bs x1214.Other), .int .i64 x1214.Op, .int .i64 x1214.N, .int .i64 x1214.Frames, v1217]) H 2 rfl sz54 rfl rfl rfl ⟨rfl, rfl, rfl, rfl, rfl, rfl, (wE (H.item (i := 3) rfl)), trivial⟩ rfl) ?_
   rintro w1227 H
   refine (zF (zA (hK1213 _ _ ?_)))
   have H1228 := H
   have H := H.rebase
   have H1229 := H
   refine WP_mix0 H [0, 1, 2, 3, 4, 5, 6, 7, 8, 9, 10, 11, 12] [.pure, .pure, .pure, .pure, .pure, .read, .read, .new, .eff, .pure, .pure, .pure, .eff] mixed (by kernel_rfl) (by kernel_rfl) (by kernel_rfl) rfl ?_
   refine Mx.zX rfl rfl rfl (fun w' hw' => xI (v := .pointer (some ⟨b1, 0, none⟩)) rfl) ?_
   refine Mx.zX rfl rfl rfl (fun w' hw' => xI (v := .pointer (some ⟨b1, 0, none⟩)) rfl) ?_
   refine Mx.zX rfl rfl rfl (fun w' hw' => yG rfl) ?_
   refine Mx.zX rfl rfl rfl (fun w' hw' => fa88_3 rfl) ?_
   refine Mx.zX rfl rfl rfl (fun w' hw' => fa26_2 rfl) ?_
   refine Mx.xM oS rfl rfl rfl (fun w' hw' => zT one24 rfl (Cells.get (Blk.cells ((H.sees hw').item (i := 7) rfl)) (i := 8) rfl)) ?_
   refine Mx.xM oS rfl rfl rfl (fun w' hw' => yQ (yM (cs := [.string (bs x1187), .int .i64 x1214.Kind, .string (bs x1214.Name), .string (bs x1214.Other), .int .i64 x1214.Op, .int .i64 x1214.N, .int .i64 x1214.Frames, v1217]) agg106 rfl sz106 rfl (Blk.cells ((H.sees hw').item (i := 2) rfl))) rfl) ?_
   obtain ⟨x1230, e1231, hF⟩ := zG hF
   subst e1231
   refine Mx.XL_exN oS rfl rfl rfl (fun w' hw' => Ls_of (Lx_bs (r := rRule) (xl := [Rule.mk x1187 x1214]) (cs := [.string (bs x1187), .int .i64 x1214.Kind, .string (bs x1214.Name), .string (bs x1214.Other), .int .i64 x1214.Op, .int .i64 x1214.N, .int .i64 x1214.Frames, v1217]) u24 el106 (by decide) (by decide) rfl (xJ (vs := [.agg [.string (bs x1187), .int .i64 x1214.Kind, .string (bs x1214.Name), .string (bs x1214.Other), .int .i64 x1214.Op, .int .i64 x1214.N, .int .i64 x1214.Frames, v1217].toArray]) (by decide) rfl rfl ⟨rfl, trivial⟩ rfl) (H.sees hw') ⟨[.string (bs x1187), .int .i64 x1214.Kind, .string (bs x1214.Name), .string (bs x1214.Other), .int .i64 x1214.Op, .int .i64 x1214.N, .int .i64 x1214.Frames, v1217], [], rfl, (rRule_mk (x := Rule.mk x1187 x1214) ((H.sees hw').item (i := 3) rfl)), rfl⟩) (Ys_bs (cs := [.string (bs x1187), .int .i64 x1214.Kind, .string (bs x1214.Name), .string (bs x1214.Other), .int .i64 x1214.Op, .int .i64 x1214.N, .int .i64 x1214.Frames, v1217]) u24 el106 (by decide) (by decide) (xJ (vs := [.agg [.string (bs x1187), .int .i64 x1214.Kind, .string (bs x1214.Name), .string (bs x1214.Other), .int .i64 x1214.Op, .int .i64 x1214.N, .int .i64 x1214.Frames, v1217].toArray]) (by decide) rfl rfl ⟨rfl, trivial⟩ rfl))) ?_
   rintro w' v1233 w1234 hw' H
   obtain ⟨x1235, e1236, hF⟩ := zD hF
   refine Mx.XL_ex oS rfl rfl rfl (fun w' hw' => Lx_app (H.sees hw') (i := 6) rfl u24 el106 rfl rfl (Sr.of_own ((H.sees hw').item (i := 8) rfl)) e1236) ?_
   rintro w' v1237 w1238 hw' H
   refine ⟨H.only, ?_⟩
   refine Mx.zX rfl rfl rfl (fun w' hw' => yG rfl) ?_
   refine Mx.zX rfl rfl rfl (fun w' hw' => fa88_3 rfl) ?_
   refine Mx.zX rfl rfl rfl (fun w' hw' => fa26_2 rfl) ?_
   refine Mx.XL_exU oS rfl rfl (fun w' hw' => xA (H.sees hw') 7 rfl sz24 rfl (v := v1237) rfl (own_one ((H.sees hw').item (i := 6) rfl)) rfl) ?_
   rintro w' w1239 hw' H
   refine ⟨H.only, ?_⟩
   refine Mx.XL_nil fun w1240 hS => ?_
   have H := H.sees hS
   have H := H1228.rejoin H
   exact (yR (zA (meet ⟨(n1157, x1215.text, x1215.at_, x1215.now.kind, x1215.now.at_, x1215.now.n, x1215.now.text, x1215.r.Phases, x1215.r.Moves, x1235, v1219, v1220, v1237), zL, ⟨H.pick [7, 4, 5, 6, 0, 1] (by decide), hF⟩, Nat.lt_succ_self _⟩)))
  have hF := zN c1174 hF
  obtain rfl := someI hF
  exact (xW (yT (yT (xG (zA (meet ⟨(v1145, v1148, v1151), zL, H.pick [0, 1, 2, 3, 4, 5] (by decide)⟩))))))
 rintro ⟨v946, v949, v952⟩ ρ w953 H
 have hF := hK954
 obtain ⟨g938, g939, g940, g941, g942, g943, g945, g948, g951⟩ := j955
 refine zC fun K1241 hK1241 => ?_
 refine zB ?_
 refine zM (.pointer (some ⟨b1, 0, none⟩)) ?_
 refine zH (yG rfl) ?_
 refine zH (fa88_2 rfl) ?_
 refine zH (fa86_0 rfl) ?_
 refine zH (zT one3 rfl (Cells.get (Blk.cells (H.item (i := 0) rfl)) (i := 2) rfl)) ?_
 obtain ⟨x1242, e1243, hF⟩ := zG hF
 refine zH (zS (Do_neq (a := g940) (b := 0) rfl rfl) e1243) ?_
 refine (zF (zA (hK1241 _ _ ?_)))
 refine zW (b := x1242) rfl (fun c1244 => ?_) (fun c1244 => ?_)
 ·have hF := zO c1244 hF
  refine zB ?_
  refine zM (.pointer (some ⟨b1, 0, none⟩)) ?_
  have H1245 := H
  have H := H.freezeB (i := 0) rfl
  have H := H.freeze (i := 1) rfl
  have H := H.freeze (i := 2) rfl
  have H := H.freeze (i := 3) rfl
  have H := H.fz (.pt rEventReader (some ⟨b1, 0, none⟩) (some (EventReader.mk g938 g939 (EventToken.mk g940 g941 g942 g943) (Rules.mk g945 g948 g951)))) ⟨_, _, _, rfl, (H.item (i := 0) rfl).1, (H.item (i := 0) rfl).2.1, (xN (x := EventReader.mk g938 g939 (EventToken.mk g940 g941 g942 g943) (Rules.mk g945 g948 g951)) (H.item (i := 1) rfl) (H.item (i := 2) rfl) (H.item (i := 3) rfl)), (H.item (i := 0) rfl).2.2⟩
  obtain ⟨_, e1247, hF⟩ := zD hF
  refine zV rfl rfl (zU en92 rfl) (F_event_reader_fail_w (some (EventReader.mk g938 g939 (EventToken.mk g940 g941 g942 g943) (Rules.mk g945 g948 g951))) 6 (some ⟨b1, 0, none⟩) _ e1247 _ _ _ (H.enter [] [6] (by decide) rfl)) ?_
  rintro _ w1248 ⟨rfl, G1249⟩
  have H := H1245.step (G1249.only : Only [] _ _)
  refine ⟨_, rfl, ?_⟩
  obtain rfl := someI hF
  refine (zF (post0n rfl ?_))
  exact ⟨v946, v949, v952, rfl, H.pick [1, 2, 3, 0] (by decide)⟩
 have hF := zN c1244 hF
 obtain rfl := someI hF
 refine (yA (post0n rfl ?_))
 exact ⟨v946, v949, v952, rfl, H.pick [1, 2, 3, 0] (by decide)⟩
theorem caught_idle (b : Nat) (w : World) : CallsD Tryz.prog 86 #[.pointer (some ⟨b, 0, none⟩)] .returning w fun e u' w' => e = .returned (.tuple #[]) ∧ u' = .returning ∧ w' = w := by
 refine callsD_of_wpS Tryz.func86 rfl fun c₀ cs hu => ?_
 apply wpS_seq
 apply wpS_region
 simp [wpOpsS, go_sem, recoverD, hu, Tryz.ntmps86, Exit.thenS]
 apply wpS_seq
 apply wpS_region
 simp [wpOpsS, go_sem, Exit.thenS, Act.eval, Array.replicate]
 refine wpS_cond (t := false) (by simp [Act.eval, Array.replicate]) ?_
 simp only [Bool.false_eq_true, if_false]
 refine wpS_of_wp (wp_skip ?_)
 cases c₀
 simp_all [bodyPostS, results, Tryz.results86]
theorem en39c : Go.OB.Enters Tryz.prog 39 := ⟨_, Tryz.func39, rfl, by kernel_rfl⟩
theorem zero90c : Go.OB.Zero Tryz.prog 90 ([.int .i64 0, .int .i64 0]) := by unfold Go.OB.Zero; kernel_rfl
theorem sz90c : Sz Tryz.prog 90 2 := by unfold Sz; kernel_rfl
theorem agg90c : Agg Tryz.prog 90 := by unfold Agg; kernel_rfl
theorem bz90c : Tryz.prog.built 90 [] = some ([.int .i64 0, .int .i64 0] : List Value).toArray := by kernel_rfl
set_option maxHeartbeats 4000000 in
theorem F_caught_w (p0 : EventReader) (b1 : Nat) (v2 : Value) (v3 : Value) (v4 : Value) (r : EventFault × EventReader) (hF : F_caught p0 = some r) (O S : List Nat) (w : World) (H : Hd O w w S [.own Rp.str v2 9 p0.r.Phases, .own rMoveT v3 102 p0.r.Moves, .own rRule v4 106 p0.r.Rules, .blk b1 [.string (bs p0.text), .int .i64 p0.at_, .int .i64 p0.now.kind, .int .i64 p0.now.at_, .int .i64 p0.now.n, .string (bs p0.now.text), v2, v3, v4] 88, .fz (.at 0 0 ((Fl.arr 7 Fl.str).f zJ)), .fz (.gi 4)]) :
  Calls Tryz.prog 38 ([.func (.func 39) #[.pointer (some ⟨b1, 0, none⟩)] #[]] : List Value).toArray w fun e w' => ∃ u11 u12 u13, e = .returned (.agg [.int .i64 r.1.at_, .int .i64 r.1.e].toArray) ∧ Hd O w w' S [.own Rp.str u11 9 r.2.r.Phases, .own rMoveT u12 102 r.2.r.Moves, .own rRule u13 106 r.2.r.Rules, .blk b1 [.string (bs r.2.text), .int .i64 r.2.at_, .int .i64 r.2.now.kind, .int .i64 r.2.now.at_, .int .i64 r.2.now.n, .string (bs r.2.now.text), u11, u12, u13] 88] := by
 unfold F_caught at hF
 obtain ⟨x, e, hF⟩ := zD hF
 have hr := Option.some.inj hF
 subst hr
 refine calls_of_WPD 7 Tryz.func38 rfl rfl rfl ?_
 refine WPD_seq ?_
 refine WPD_region ?_
 refine RLD_ex rfl rfl (xB zero90c H) ?_
 rintro _ w1 ⟨b2, rfl, H⟩
 refine RLD_nil ?_
 refine WPD_seq ?_
 refine WPD_region ?_
 refine RLD_do rfl rfl (Do_makeFunc rfl) ?_
 refine RLD_defer (x := { target := .fn (.func 86) #[.pointer (some ⟨b2, 0, none⟩)], args := #[] }) rfl (run_defer (cap := [_]) (us := []) rfl rfl) ?_
 refine RLD_nil ?_
 refine WPD_seq ?_
 refine WPD_region ?_
 refine RLD_do rfl rfl (xI (v := .func (.func 39) #[.pointer (some ⟨b1, 0, none⟩)] #[]) rfl) ?_
 refine RLD_call rfl rfl (DoC_bnd en39c rfl rfl) (F_event_reader_rules_w p0 b1 v2 v3 v4 _ e _ _ _ (H.enter [0, 1, 2, 3] [4, 5] (by decide) rfl)) ?_
 rintro _ w2 ⟨u11, u12, u13, rfl, G⟩
 have H := H.back [0, 1, 2, 3] [4, 5] rfl G
 refine ⟨_, rfl, ?_⟩
 refine RLD_nil ?_
 refine WPD_seq ?_
 refine WPD_region ?_
 refine RLD_do rfl rfl (xH (cs := [.int .i64 0, .int .i64 0]) bz90c) ?_
 refine RLD_exU rfl (yH (vs := [.int .i64 0, .int .i64 0]) H 2 rfl sz90c rfl rfl rfl ⟨rfl, rfl, trivial⟩ rfl) ?_
 rintro w3 H
 refine RLD_nil ?_
 refine WPD_ret ?_
 intro tmps ht
 refine leaves_cons (f := 86) (args := #[.pointer (some ⟨b2, 0, none⟩)]) (by simp) (by simp [go_sem]) ?_
 refine (caught_idle b2 _).mono ?_
 rintro e u' w'' ⟨rfl, rfl, rfl⟩
 refine leaves_res (fn := _) rfl ht (postc rfl rfl (yC agg90c sz90c rfl (Blk.cells (H.item (i := 2) rfl))) ?_)
 exact ⟨u11, u12, u13, rfl, H.pick [3, 4, 5, 6] (by decide)⟩
set_option maxHeartbeats 4000000 in
theorem F_event_checkMove_1_w (p0 : Cond) (v1 : Value) (r : Int) (hF : F_event_checkMove_1 p0 = some r) (O S : List Nat) (w : World) (H : Hd O w w S [.fz (.sl rCond v1 p0.Kids)]) :
  Calls Tryz.prog 145 ([.agg [.int .i64 p0.Kind, .string (bs p0.Name), .string (bs p0.Other), .int .i64 p0.Op, .int .i64 p0.N, .int .i64 p0.Frames, v1].toArray] : List Value).toArray w fun e w' => e = .returned (.int .i64 r) ∧ Hd O w w' S [] := by
 unfold F_event_checkMove_1 at hF
 refine yB 11 Tryz.func145 rfl rfl rfl ?_
 refine zC fun K3 hK3 => ?_
 refine zB ?_
 refine yX rfl rfl (Lx_box (cs := [.int .i64 p0.Kind, .string (bs p0.Name), .string (bs p0.Other), .int .i64 p0.Op, .int .i64 p0.N, .int .i64 p0.Frames, v1]) rfl H) ?_
 rintro _ w6 ⟨b4, rfl, H⟩
 refine zI (.int .i64 0) ?_
 refine (zF (zA (hK3 _ _ ?_)))
 refine zC fun K17 hK17 => ?_
 obtain ⟨g23, hF, hK25⟩ := zD hF
 refine yL [3, 4, 5, 6, 7, 8, 9, 10] (fun (g : Unit) => [(10, .bool g23)]) (fun g wl => Hd O w wl S []) ?_ ?_
 ·skip
  refine zB ?_
  refine zH (fa54_0 rfl) ?_
  refine zH (zT one3 rfl (Cells.get (Blk.cells (H.item (i := 1) rfl)) (i := 0) rfl)) ?_
  obtain ⟨x26, e27, hF⟩ := zG hF
  refine zH (zS (yP (a := p0.Kind) (b := 6) rfl rfl) e27) ?_
  refine yK (b := x26) rfl rfl rfl (fun c28 => ?_) (fun c28 => ?_)
  ·have hF := zO c28 hF
   refine yD ?_
   refine yD ?_
   refine yD ?_
   refine zH (yI (v := .bool true) rfl rfl) ?_
   obtain rfl := someI hF
   exact (zF (zA (meet ⟨(), (zK rfl zL), H.pick [] (by decide)⟩)))
  have hF := zN c28 hF
  refine zH (fa54_0 rfl) ?_
  refine zH (zT one3 rfl (Cells.get (Blk.cells (H.item (i := 1) rfl)) (i := 0) rfl)) ?_
  obtain ⟨x29, e30, hF⟩ := zG hF
  refine zH (zS (yP (a := p0.Kind) (b := 7) rfl rfl) e30) ?_
  refine zH (yE (v := .bool x29) rfl rfl) ?_
  obtain rfl := someI hF
  exact (zF (zA (meet ⟨(), (zK rfl zL), H.pick [] (by decide)⟩)))
 rintro _ ρ w24 H
 have hF := hK25
 refine zW (b := g23) rfl (fun c31 => ?_) (fun c31 => ?_)
 ·have hF := zO c31 hF
  refine zC fun K32 hK32 => ?_
  refine zB ?_
  refine zI (.int .i64 2) ?_
  refine (zF (zA (hK32 _ _ ?_)))
  obtain rfl := someI hF
  refine (zZ (zY (post1 (v1 := .int .i64 2) rfl rfl ?_)))
  exact ⟨rfl, H.pick [] (by decide)⟩
 have hF := zN c31 hF
 refine (yA (zA (hK17 _ _ ?_)))
 refine zC fun K33 hK33 => ?_
 refine zB ?_
 refine zI (.int .i64 0) ?_
 refine (zF (zA (hK33 _ _ ?_)))
 obtain rfl := someI hF
 refine (zZ (post1 (v1 := .int .i64 0) rfl rfl ?_))
 exact ⟨rfl, H.pick [] (by decide)⟩
abbrev S_event_each_event_checkMove_1 (f : Cond → Option Int) : Prop := ∀ (p0 : Cond) (v1 : Value) (r : Int) (_ : f p0 = some r) (O S : List Nat) (w : World) (_ : Hd O w w S [.fz (.sl rCond v1 p0.Kids)]),
  Calls Tryz.prog 108 ([.agg [.int .i64 p0.Kind, .string (bs p0.Name), .string (bs p0.Other), .int .i64 p0.Op, .int .i64 p0.N, .int .i64 p0.Frames, v1].toArray, .func (.func 145) #[] #[]] : List Value).toArray w fun e w' => e = .returned (.int .i64 r) ∧ Hd O w w' S []
set_option maxHeartbeats 4000000 in
theorem F_event_each_event_checkMove_1_B_w (rfK : Cond → Option Int) (rhK : S_event_each_event_checkMove_1 rfK) (p0 : Cond) (v1 : Value) (r : Int) (hF : F_event_each_event_checkMove_1_B rfK p0 = some r) (O S : List Nat) (w : World) (H : Hd O w w S [.fz (.sl rCond v1 p0.Kids)]) :
  Calls Tryz.prog 108 ([.agg [.int .i64 p0.Kind, .string (bs p0.Name), .string (bs p0.Other), .int .i64 p0.Op, .int .i64 p0.N, .int .i64 p0.Frames, v1].toArray, .func (.func 145) #[] #[]] : List Value).toArray w fun e w' => e = .returned (.int .i64 r) ∧ Hd O w w' S [] := by
 unfold F_event_each_event_checkMove_1_B at hF
 refine yB 29 Tryz.func108 rfl rfl rfl ?_
 refine zC fun K3 hK3 => ?_
 refine zB ?_
 refine yX rfl rfl (Lx_box (cs := [.int .i64 p0.Kind, .string (bs p0.Name), .string (bs p0.Other), .int .i64 p0.Op, .int .i64 p0.N, .int .i64 p0.Frames, v1]) rfl H) ?_
 rintro _ w6 ⟨b4, rfl, H⟩
 refine zI (.int .i64 0) ?_
 refine (zF (zA (hK3 _ _ ?_)))
 refine zC fun K18 hK18 => ?_
 refine zC fun K19 hK19 => ?_
 refine zB ?_
 refine zM (.func (.func 145) #[] #[]) ?_
 refine zH (yQ (yM (cs := [.int .i64 p0.Kind, .string (bs p0.Name), .string (bs p0.Other), .int .i64 p0.Op, .int .i64 p0.N, .int .i64 p0.Frames, v1]) agg54 rfl sz54 rfl (Blk.cells (H.item (i := 1) rfl))) rfl) ?_
 have H20 := H
 obtain ⟨x21, e22, hF⟩ := zD hF
 refine zV rfl rfl (DoC_clo en145 rfl rfl) (F_event_checkMove_1_w p0 v1 _ e22 _ _ _ (H.enter [] [0] (by decide) rfl)) ?_
 rintro _ w23 ⟨rfl, G24⟩
 have H := H20.step (G24.only : Only [] _ _)
 refine ⟨_, rfl, ?_⟩
 refine zI (.int .i64 x21) ?_
 refine (zF (zA (hK19 _ _ ?_)))
 refine zC fun K25 hK25 => ?_
 refine zB ?_
 refine zM (.int .i64 x21) ?_
 obtain ⟨x26, e27, hF⟩ := zG hF
 refine zH (zS (Do_neq (a := x21) (b := 0) rfl rfl) e27) ?_
 refine (zF (zA (hK25 _ _ ?_)))
 refine zW (b := x26) rfl (fun c28 => ?_) (fun c28 => ?_)
 ·have hF := zO c28 hF
  refine zC fun K29 hK29 => ?_
  refine zB ?_
  refine zM (.int .i64 x21) ?_
  refine zI (.int .i64 x21) ?_
  refine (zF (zA (hK29 _ _ ?_)))
  obtain rfl := someI hF
  refine (zZ (zY (post1 (v1 := .int .i64 x21) rfl rfl ?_)))
  exact ⟨rfl, H.pick [] (by decide)⟩
 have hF := zN c28 hF
 refine (yA (zA (hK18 _ _ ?_)))
 obtain ⟨k186, ek187, hF⟩ := joinO_some hF
 refine yL [4, 7, 8, 15, 16, 17, 18, 19, 20, 21, 22, 23, 24, 25, 26, 27, 28] (fun (g : Unit) => []) (fun g wl => Hd O w wl S [] ∧ k186 () = some r) ?_ ?_
 ·skip
  refine zC fun K188 hK188 => ?_
  refine zB ?_
  refine zH (fa54_6 rfl) ?_
  refine zH (zT one52 rfl (Cells.get (Blk.cells (H.item (i := 1) rfl)) (i := 6) rfl)) ?_
  obtain ⟨x189, e190, hF⟩ := zG hF
  obtain ⟨a191, c192, q193⟩ := SlF.len ((H.item (i := 0) rfl))
  refine zH (yQ (Do_len u52 q193) (congrArg (Value.int .i64) e190)) ?_
  refine zM (.int .i64 0) ?_
  refine (zF (zA (hK188 _ _ ?_)))
  refine yJ ?_
  unfold F_event_each_event_checkMove_1_B_L1 at hF
  obtain ⟨B338, n339, eB340, hF⟩ := yY hF
  refine xK [4, 7, 8, 18, 19, 20, 21, 22, 23, 24, 25, 26, 27, 28] (fun (g : Nat × Int) => [(18, .int .i64 g.2)]) (fun g wl => Hd O w wl S [.fz (.sl rCond v1 p0.Kids)] ∧ loopN B338 g.1 g.2 = some r) (fun g => g.1) (n339, 0) (zK rfl zL) ⟨H.pick [0] (by decide), hF⟩ ?_
  clear H hF
  rintro ⟨n339, g337⟩ ρ w342 ⟨H, hF⟩
  obtain ⟨n343, rfl, hF⟩ := xE hF
  have hF := xC eB340 hF
  refine zC fun K344 hK344 => ?_
  refine zB ?_
  obtain ⟨x345, e346, hF⟩ := zG hF
  refine zH (zS (xZ (a := g337) (b := x189) rfl rfl) e346) ?_
  refine (zF (zA (hK344 _ _ ?_)))
  refine zC fun K348 hK348 => ?_
  refine zW (b := x345) rfl (fun c349 => ?_) (fun c349 => ?_)
  ·have hF := zO c349 hF
   refine (yA (zA (hK348 _ _ ?_)))
   refine zC fun K381 hK381 => ?_
   refine yJ ?_
   refine zC fun K382 hK382 => ?_
   refine zB ?_
   obtain ⟨x383, e384, hF⟩ := zD hF
   obtain ⟨b385, o386, c387, cs388, q389, h392, h390, h391, h393⟩ := rd_at (H.item (i := 0) rfl) e384
   obtain ⟨v394, rfl, h395⟩ := xX h392
   have H := H.fzs [.at b385 (o386 + g337.toNat * 7) _, .sl rCond v394 x383.Kids] ⟨⟨h390, h391, h393⟩, h395, trivial⟩
   refine zH (Do_idx u52 sz54 q389 rfl (yU e384).1 (yU e384).2.1 rfl rfl) ?_
   refine zH (yQ (yM (cs := [.int .i64 x383.Kind, .string (bs x383.Name), .string (bs x383.Other), .int .i64 x383.Op, .int .i64 x383.N, .int .i64 x383.Frames, v394]) agg54 rfl sz54 rfl (H.item (i := 1) rfl).2.2) rfl) ?_
   refine yX rfl rfl (xB zero54 H) ?_
   rintro _ w400 ⟨b398, rfl, H⟩
   refine yN rfl (yH (vs := [.int .i64 x383.Kind, .string (bs x383.Name), .string (bs x383.Other), .int .i64 x383.Op, .int .i64 x383.N, .int .i64 x383.Frames, v394]) H 3 rfl sz54 rfl rfl rfl ⟨rfl, rfl, rfl, rfl, rfl, rfl, (wE (H.item (i := 2) rfl)), trivial⟩ rfl) ?_
   rintro w401 H
   refine (zF (zA (hK382 _ _ ?_)))
   refine zC fun K402 hK402 => ?_
   refine zB ?_
   refine zH (yQ (yM (cs := [.int .i64 x383.Kind, .string (bs x383.Name), .string (bs x383.Other), .int .i64 x383.Op, .int .i64 x383.N, .int .i64 x383.Frames, v394]) agg54 rfl sz54 rfl (Blk.cells (H.item (i := 3) rfl))) rfl) ?_
   refine zM (.func (.func 145) #[] #[]) ?_
   have H403 := H
   obtain ⟨x404, e405, hF⟩ := zD hF
   refine zV rfl rfl (zU en108 rfl) (rhK x383 v394 _ e405 _ _ _ (H.enter [] [2] (by decide) rfl)) ?_
   rintro _ w406 ⟨rfl, G407⟩
   have H := H403.step (G407.only : Only [] _ _)
   refine ⟨_, rfl, ?_⟩
   refine zI (.int .i64 x404) ?_
   refine (zF (zA (hK402 _ _ ?_)))
   refine zC fun K408 hK408 => ?_
   refine zB ?_
   refine zM (.int .i64 x404) ?_
   obtain ⟨x409, e410, hF⟩ := zG hF
   refine zH (zS (Do_neq (a := x404) (b := 0) rfl rfl) e410) ?_
   refine (zF (zA (hK408 _ _ ?_)))
   refine zW (b := x409) rfl (fun c411 => ?_) (fun c411 => ?_)
   ·have hF := zO c411 hF
    refine zC fun K412 hK412 => ?_
    refine zB ?_
    refine zM (.int .i64 x404) ?_
    refine zI (.int .i64 x404) ?_
    refine (zF (zA (hK412 _ _ ?_)))
    obtain rfl := someI hF
    refine (zZ (yF (zY (zY (yF (zY (post1 (v1 := .int .i64 x404) rfl rfl ?_)))))))
    exact ⟨rfl, H.pick [] (by decide)⟩
   have hF := zN c411 hF
   refine (yA (yR (zA (hK381 _ _ ?_))))
   refine zB ?_
   obtain ⟨x413, e414, hF⟩ := zG hF
   refine zH (wC (a := g337) (b := 1) rfl rfl e414) ?_
   refine zM (.int .i64 x413) ?_
   exact (zF (zA (meet ⟨(n343, x413), (zK rfl zL), ⟨H.pick [0] (by decide), hF⟩, Nat.lt_succ_self _⟩)))
  have hF := zN c349 hF
  exact (xW (yT (yT (xG (zA (meet ⟨(), zL, ⟨H.pick [] (by decide), hF⟩⟩))))))
 rintro _ ρ w185 ⟨H, hF⟩
 have hF := join_body ek187 hF
 refine zC fun K415 hK415 => ?_
 refine zB ?_
 refine zI (.int .i64 0) ?_
 refine (zF (zA (hK415 _ _ ?_)))
 obtain rfl := someI hF
 refine (zZ (post1 (v1 := .int .i64 0) rfl rfl ?_))
 exact ⟨rfl, H.pick [] (by decide)⟩
theorem F_event_each_event_checkMove_1_s : S_event_each_event_checkMove_1 (F_event_each_event_checkMove_1) := by
 have h : ∀ n, S_event_each_event_checkMove_1 (F_event_each_event_checkMove_1_R n) := by
  intro n
  induction n with
  | zero => intro p0 v1 r hF; cases hF
  | succ n ih => intro p0 v1 r hF; exact F_event_each_event_checkMove_1_B_w (F_event_each_event_checkMove_1_R n) ih p0 v1 r hF
 exact h FU
set_option maxHeartbeats 4000000 in
theorem F_event_checkMove_w (p0 : Rules) (p1 : MoveT) (v1 : Value) (v2 : Value) (v3 : Value) (v7 : Value) (r : Int) (hF : F_event_checkMove p0 p1 = some r) (O S : List Nat) (w : World) (H : Hd O w w S [.fz (.sl Rp.str v1 p0.Phases), .fz (.sl rMoveT v2 p0.Moves), .fz (.sl rRule v3 p0.Rules), .fz (.sl rCond v7 p1.When.Kids)]) :
  Calls Tryz.prog 93 ([.agg [v1, v2, v3].toArray, .agg [.string (bs p1.From), .string (bs p1.To), .int .i64 p1.When.Kind, .string (bs p1.When.Name), .string (bs p1.When.Other), .int .i64 p1.When.Op, .int .i64 p1.When.N, .int .i64 p1.When.Frames, v7].toArray] : List Value).toArray w fun e w' => e = .returned (.int .i64 r) ∧ Hd O w w' S [] := by
 unfold F_event_checkMove at hF
 refine yB 33 Tryz.func93 rfl rfl rfl ?_
 refine zC fun K9 hK9 => ?_
 refine zB ?_
 refine yX rfl rfl (Lx_box (cs := [v1, v2, v3]) rfl H) ?_
 rintro _ w12 ⟨b10, rfl, H⟩
 refine yX rfl rfl (Lx_box (cs := [.string (bs p1.From), .string (bs p1.To), .int .i64 p1.When.Kind, .string (bs p1.When.Name), .string (bs p1.When.Other), .int .i64 p1.When.Op, .int .i64 p1.When.N, .int .i64 p1.When.Frames, v7]) rfl H) ?_
 rintro _ w15 ⟨b13, rfl, H⟩
 refine zI (.int .i64 0) ?_
 refine (zF (zA (hK9 _ _ ?_)))
 obtain ⟨k141, ek142, hF⟩ := joinO_some hF
 refine yL [4, 6, 8, 9, 10, 11, 12, 13, 14, 15, 16, 17, 18, 19, 20, 21, 22, 23] (fun (g : Unit) => []) (fun g wl => Hd O w wl S [.fz (.sl rCond v7 p1.When.Kids), .blk b13 [.string (bs p1.From), .string (bs p1.To), .int .i64 p1.When.Kind, .string (bs p1.When.Name), .string (bs p1.When.Other), .int .i64 p1.When.Op, .int .i64 p1.When.N, .int .i64 p1.When.Frames, v7] 102] ∧ k141 () = some r) ?_ ?_
 ·skip
  refine zC fun K143 hK143 => ?_
  refine zB ?_
  refine zH (fa102_0 rfl) ?_
  refine zH (zT one9 rfl (Cells.get (Blk.cells (H.item (i := 5) rfl)) (i := 0) rfl)) ?_
  refine zH (fa102_1 rfl) ?_
  refine zH (zT one9 rfl (Cells.get (Blk.cells (H.item (i := 5) rfl)) (i := 1) rfl)) ?_
  obtain ⟨x144, e145, hF⟩ := zG hF
  subst e145
  refine yX rfl rfl (Lx_bs (r := Rp.str) (xl := [p1.From, p1.To]) (cs := [.string (bs p1.From), .string (bs p1.To)]) u22 el9 (by decide) (by decide) rfl (xJ (vs := [.string (bs p1.From), .string (bs p1.To)]) (by decide) rfl rfl ⟨rfl, rfl, trivial⟩ rfl) H ⟨[.string (bs p1.From)], [.string (bs p1.To)], rfl, rfl, ⟨[.string (bs p1.To)], [], rfl, rfl, rfl⟩⟩) ?_
  rintro v147 w148 H
  obtain ⟨x149, e150, hF⟩ := zG hF
  obtain ⟨a151, c152, q153⟩ := Sr.len (Sr.of_own (H.item (i := 6) rfl))
  refine zH (yQ (Do_len u22 q153) (congrArg (Value.int .i64) e150)) ?_
  refine zM (.int .i64 0) ?_
  refine (zF (zA (hK143 _ _ ?_)))
  refine yJ ?_
  unfold F_event_checkMove_L1 at hF
  obtain ⟨B262, n263, eB264, hF⟩ := yY hF
  refine xK [4, 6, 14, 15, 16, 17, 18, 19, 20, 21, 22, 23] (fun (g : Nat × Int) => [(14, .int .i64 g.2)]) (fun g wl => Hd O w wl S [.fz (.sl Rp.str v1 p0.Phases), .fz (.sl rMoveT v2 p0.Moves), .fz (.sl rRule v3 p0.Rules), .fz (.sl rCond v7 p1.When.Kids), .blk b10 [v1, v2, v3] 26, .blk b13 [.string (bs p1.From), .string (bs p1.To), .int .i64 p1.When.Kind, .string (bs p1.When.Name), .string (bs p1.When.Other), .int .i64 p1.When.Op, .int .i64 p1.When.N, .int .i64 p1.When.Frames, v7] 102, .own Rp.str v147 9 ([p1.From, p1.To] : List Str)] ∧ loopN B262 g.1 g.2 = some r) (fun g => g.1) (n263, 0) (zK rfl zL) ⟨H.pick [0, 1, 2, 3, 4, 5, 6] (by decide), hF⟩ ?_
  clear H hF
  rintro ⟨n263, g261⟩ ρ w266 ⟨H, hF⟩
  obtain ⟨n267, rfl, hF⟩ := xE hF
  have hF := xC eB264 hF
  refine zC fun K268 hK268 => ?_
  refine zB ?_
  obtain ⟨x269, e270, hF⟩ := zG hF
  refine zH (zS (xZ (a := g261) (b := x149) rfl rfl) e270) ?_
  refine (zF (zA (hK268 _ _ ?_)))
  refine zC fun K272 hK272 => ?_
  refine zW (b := x269) rfl (fun c273 => ?_) (fun c273 => ?_)
  ·have hF := zO c273 hF
   refine (yA (zA (hK272 _ _ ?_)))
   refine zC fun K296 hK296 => ?_
   refine yJ ?_
   refine zC fun K297 hK297 => ?_
   refine zB ?_
   obtain ⟨x298, e299, hF⟩ := zD hF
   obtain ⟨b300, c302, cs303, q304, h307, h308⟩ := own_at (H.item (i := 6) rfl) e299
   obtain rfl : cs303 = [.string (bs x298)] := h307
   refine zH (Do_idx u22 sz9 q304 rfl (yU e299).1 (yU e299).2.1 rfl rfl) ?_
   refine zH (zT one9 rfl (Cells.get h308 (i := 0) rfl)) ?_
   refine zI (.string (bs x298)) ?_
   refine (zF (zA (hK297 _ _ ?_)))
   refine zC fun K309 hK309 => ?_
   refine zB ?_
   refine zH (fa26_0 rfl) ?_
   refine zH (zT one22 rfl (Cells.get (Blk.cells (H.item (i := 4) rfl)) (i := 0) rfl)) ?_
   refine zM (.string (bs x298)) ?_
   have H310 := H
   obtain ⟨x311, e312, hF⟩ := zD hF
   refine zV rfl rfl (zU en65 rfl) (F_slices_Contains___string_string__w p0.Phases x298 v1 _ e312 _ _ _ (H.enter [] [0] (by decide) rfl)) ?_
   rintro _ w313 ⟨rfl, G314⟩
   have H := H310.step (G314.only : Only [] _ _)
   refine ⟨_, rfl, ?_⟩
   obtain ⟨x315, e316, hF⟩ := zG hF
   refine zH (zS (xY (p := x311) rfl) e316) ?_
   refine (zF (zA (hK309 _ _ ?_)))
   refine zW (b := x315) rfl (fun c317 => ?_) (fun c317 => ?_)
   ·have hF := zO c317 hF
    refine zC fun K318 hK318 => ?_
    refine zB ?_
    refine zI (.int .i64 4) ?_
    refine (zF (zA (hK318 _ _ ?_)))
    obtain rfl := someI hF
    refine (zZ (yF (zY (zY (yF (zY (post1 (v1 := .int .i64 4) rfl rfl ?_)))))))
    exact ⟨rfl, H.pick [] (by decide)⟩
   have hF := zN c317 hF
   refine (yA (yR (zA (hK296 _ _ ?_))))
   refine zB ?_
   obtain ⟨x319, e320, hF⟩ := zG hF
   refine zH (wC (a := g261) (b := 1) rfl rfl e320) ?_
   refine zM (.int .i64 x319) ?_
   exact (zF (zA (meet ⟨(n267, x319), (zK rfl zL), ⟨H.pick [0, 1, 2, 3, 4, 5, 6] (by decide), hF⟩, Nat.lt_succ_self _⟩)))
  have hF := zN c273 hF
  exact (xW (yT (yT (xG (zA (meet ⟨(), zL, ⟨H.pick [3, 5] (by decide), hF⟩⟩))))))
 rintro _ ρ w140 ⟨H, hF⟩
 have hF := join_body ek142 hF
 refine zC fun K332 hK332 => ?_
 refine zC fun K333 hK333 => ?_
 refine zB ?_
 refine zH (fa102_2 rfl) ?_
 refine zH (yQ (yM (cs := [.int .i64 p1.When.Kind, .string (bs p1.When.Name), .string (bs p1.When.Other), .int .i64 p1.When.Op, .int .i64 p1.When.N, .int .i64 p1.When.Frames, v7]) agg54 rfl sz54 rfl (Cells.drop (Blk.cells (H.item (i := 1) rfl)) 2 7)) rfl) ?_
 have H334 := H
 obtain ⟨x335, e336, hF⟩ := zD hF
 refine zV rfl rfl (zU en56 rfl) (F_event_CheckCond_w p1.When v7 _ e336 _ _ _ (H.enter [] [0] (by decide) rfl)) ?_
 rintro _ w337 ⟨rfl, G338⟩
 have H := H334.step (G338.only : Only [] _ _)
 refine ⟨_, rfl, ?_⟩
 refine zI (.int .i64 x335) ?_
 refine (zF (zA (hK333 _ _ ?_)))
 refine zC fun K339 hK339 => ?_
 refine zB ?_
 refine zM (.int .i64 x335) ?_
 obtain ⟨x340, e341, hF⟩ := zG hF
 refine zH (zS (Do_neq (a := x335) (b := 0) rfl rfl) e341) ?_
 refine (zF (zA (hK339 _ _ ?_)))
 refine zW (b := x340) rfl (fun c342 => ?_) (fun c342 => ?_)
 ·have hF := zO c342 hF
  refine zC fun K343 hK343 => ?_
  refine zB ?_
  refine zM (.int .i64 x335) ?_
  refine zI (.int .i64 x335) ?_
  refine (zF (zA (hK343 _ _ ?_)))
  obtain rfl := someI hF
  refine (zZ (zY (post1 (v1 := .int .i64 x335) rfl rfl ?_)))
  exact ⟨rfl, H.pick [] (by decide)⟩
 have hF := zN c342 hF
 refine (yA (zA (hK332 _ _ ?_)))
 refine zC fun K344 hK344 => ?_
 refine zB ?_
 refine zH (fa102_2 rfl) ?_
 refine zH (yQ (yM (cs := [.int .i64 p1.When.Kind, .string (bs p1.When.Name), .string (bs p1.When.Other), .int .i64 p1.When.Op, .int .i64 p1.When.N, .int .i64 p1.When.Frames, v7]) agg54 rfl sz54 rfl (Cells.drop (Blk.cells (H.item (i := 1) rfl)) 2 7)) rfl) ?_
 have H345 := H
 obtain ⟨x346, e347, hF⟩ := zD hF
 refine zV rfl rfl (zU en108 rfl) (F_event_each_event_checkMove_1_s p1.When v7 _ e347 _ _ _ (H.enter [] [0] (by decide) rfl)) ?_
 rintro _ w348 ⟨rfl, G349⟩
 have H := H345.step (G349.only : Only [] _ _)
 refine ⟨_, rfl, ?_⟩
 refine zI (.int .i64 x346) ?_
 refine (zF (zA (hK344 _ _ ?_)))
 obtain rfl := someI hF
 refine (zZ (post1 (v1 := .int .i64 x346) rfl rfl ?_))
 exact ⟨rfl, H.pick [] (by decide)⟩
set_option maxHeartbeats 4000000 in
theorem F_event_checkRule_1_1_w (p0 : Rule) (c0 : Str) (v1 : Value) (b3 : Nat) (r : Bool) (hF : F_event_checkRule_1_1 p0 c0 = some r) (O S : List Nat) (w : World) (H : Hd O w w S [.blk b3 [.string (bs c0)] 9, .fz (.sl rCond v1 p0.When.Kids)]) :
  Calls Tryz.prog 148 ([.agg [.string (bs p0.Name), .int .i64 p0.When.Kind, .string (bs p0.When.Name), .string (bs p0.When.Other), .int .i64 p0.When.Op, .int .i64 p0.When.N, .int .i64 p0.When.Frames, v1].toArray, .pointer (some ⟨b3, 0, none⟩)] : List Value).toArray w fun e w' => e = .returned (.bool r) ∧ Hd O w w' S [.blk b3 [.string (bs c0)] 9] := by
 unfold F_event_checkRule_1_1 at hF
 refine yB 8 Tryz.func148 rfl rfl rfl ?_
 refine zC fun K5 hK5 => ?_
 refine zB ?_
 refine yX rfl rfl (Lx_box (cs := [.string (bs p0.Name), .int .i64 p0.When.Kind, .string (bs p0.When.Name), .string (bs p0.When.Other), .int .i64 p0.When.Op, .int .i64 p0.When.N, .int .i64 p0.When.Frames, v1]) rfl H) ?_
 rintro _ w8 ⟨b6, rfl, H⟩
 refine zI (.bool false) ?_
 refine (zF (zA (hK5 _ _ ?_)))
 refine zC fun K9 hK9 => ?_
 refine zB ?_
 refine zH (fa106_0 rfl) ?_
 refine zH (zT one9 rfl (Cells.get (Blk.cells (H.item (i := 2) rfl)) (i := 0) rfl)) ?_
 refine zH (zT one9 rfl (Cells.get (Blk.cells (H.item (i := 0) rfl)) (i := 0) rfl)) ?_
 obtain ⟨x10, e11, hF⟩ := zG hF
 refine zH (zS (xR (s1 := p0.Name) (s2 := c0) rfl rfl) e11) ?_
 refine zI (.bool x10) ?_
 refine (zF (zA (hK9 _ _ ?_)))
 obtain rfl := someI hF
 refine (zZ (post1 (v1 := .bool x10) rfl rfl ?_))
 exact ⟨rfl, H.pick [0] (by decide)⟩
set_option maxHeartbeats 4000000 in
theorem F_slices_IndexFunc___api_Rule_api_Rule__event_checkRule_1_1_w (p0 : List Rule) (p1c0 : Str) (v1 : Value) (b3 : Nat) (r : Int) (hF : F_slices_IndexFunc___api_Rule_api_Rule__event_checkRule_1_1 p0 p1c0 = some r) (O S : List Nat) (w : World) (H : Hd O w w S [.blk b3 [.string (bs p1c0)] 9, .fz (.sl rRule v1 p0)]) :
  Calls Tryz.prog 182 ([v1, .func (.func 148) #[] #[.pointer (some ⟨b3, 0, none⟩)]] : List Value).toArray w fun e w' => e = .returned (.int .i64 r) ∧ Hd O w w' S [.blk b3 [.string (bs p1c0)] 9] := by
 unfold F_slices_IndexFunc___api_Rule_api_Rule__event_checkRule_1_1 at hF
 refine yB 19 Tryz.func182 rfl rfl rfl ?_
 refine zC fun K5 hK5 => ?_
 refine zB ?_
 refine zI (.int .i64 0) ?_
 refine (zF (zA (hK5 _ _ ?_)))
 obtain ⟨k130, ek131, hF⟩ := joinO_some hF
 refine yL [4, 5, 6, 7, 8, 9, 10, 11, 12, 13, 14, 15, 16, 17, 18] (fun (g : Unit) => []) (fun g wl => Hd O w wl S [.blk b3 [.string (bs p1c0)] 9] ∧ k130 () = some r) ?_ ?_
 ·skip
  refine zC fun K132 hK132 => ?_
  refine zB ?_
  refine zM v1 ?_
  obtain ⟨x133, e134, hF⟩ := zG hF
  obtain ⟨a135, c136, q137⟩ := SlF.len ((H.item (i := 1) rfl))
  refine zH (yQ (Do_len u24 q137) (congrArg (Value.int .i64) e134)) ?_
  refine zM (.int .i64 0) ?_
  refine (zF (zA (hK132 _ _ ?_)))
  refine yJ ?_
  unfold F_slices_IndexFunc___api_Rule_api_Rule__event_checkRule_1_1_L1 at hF
  obtain ⟨B250, n251, eB252, hF⟩ := yY hF
  refine xK [4, 5, 8, 9, 10, 11, 12, 13, 14, 15, 16, 17, 18] (fun (g : Nat × Int) => [(8, .int .i64 g.2)]) (fun g wl => Hd O w wl S [.blk b3 [.string (bs p1c0)] 9, .fz (.sl rRule v1 p0)] ∧ loopN B250 g.1 g.2 = some r) (fun g => g.1) (n251, 0) (zK rfl zL) ⟨H.pick [0, 1] (by decide), hF⟩ ?_
  clear H hF
  rintro ⟨n251, g249⟩ ρ w254 ⟨H, hF⟩
  obtain ⟨n255, rfl, hF⟩ := xE hF
  have hF := xC eB252 hF
  refine zC fun K256 hK256 => ?_
  refine zB ?_
  obtain ⟨x257, e258, hF⟩ := zG hF
  refine zH (zS (xZ (a := g249) (b := x133) rfl rfl) e258) ?_
  refine (zF (zA (hK256 _ _ ?_)))
  refine zC fun K260 hK260 => ?_
  refine zW (b := x257) rfl (fun c261 => ?_) (fun c261 => ?_)
  ·have hF := zO c261 hF
   refine (yA (zA (hK260 _ _ ?_)))
   refine zC fun K285 hK285 => ?_
   refine yJ ?_
   refine zC fun K286 hK286 => ?_
   refine zB ?_
   refine zM (.int .i64 g249) ?_
   refine zI (.int .i64 g249) ?_
   refine (zF (zA (hK286 _ _ ?_)))
   refine zC fun K287 hK287 => ?_
   refine zB ?_
   refine zM (.func (.func 148) #[] #[.pointer (some ⟨b3, 0, none⟩)]) ?_
   refine zM v1 ?_
   refine zM (.int .i64 g249) ?_
   obtain ⟨x288, e289, hF⟩ := zD hF
   obtain ⟨b290, o291, c292, cs293, q294, h297, h295, h296, h298⟩ := rd_at (H.item (i := 1) rfl) e289
   obtain ⟨v299, rfl, h300⟩ := rRule_open h297
   have H := H.fzs [.at b290 (o291 + g249.toNat * 8) _, .sl rCond v299 x288.When.Kids] ⟨⟨h295, h296, h298⟩, h300, trivial⟩
   refine zH (Do_idx u24 sz106 q294 rfl (yU e289).1 (yU e289).2.1 rfl rfl) ?_
   refine zH (yQ (yM (cs := [.string (bs x288.Name), .int .i64 x288.When.Kind, .string (bs x288.When.Name), .string (bs x288.When.Other), .int .i64 x288.When.Op, .int .i64 x288.When.N, .int .i64 x288.When.Frames, v299]) agg106 rfl sz106 rfl (H.item (i := 2) rfl).2.2) rfl) ?_
   obtain ⟨x303, e304, hF⟩ := zD hF
   refine zV rfl rfl (DoC_clo en148 rfl rfl) (F_event_checkRule_1_1_w x288 p1c0 v299 b3 _ e304 _ _ _ (H.enter [0] [3] (by decide) rfl)) ?_
   rintro _ w305 ⟨rfl, G306⟩
   have H : Hd O _ w305 _ [.fz (.sl rRule v1 p0), .fz (.at b290 (o291 + g249.toNat * 8) [.string (bs x288.Name), .int .i64 x288.When.Kind, .string (bs x288.When.Name), .string (bs x288.When.Other), .int .i64 x288.When.Op, .int .i64 x288.When.N, .int .i64 x288.When.Frames, v299]), .fz (.sl rCond v299 x288.When.Kids), .blk b3 [.string (bs p1c0)] 9] := H.back [0] [3] rfl G306
   refine ⟨_, rfl, ?_⟩
   refine (zF (zA (hK287 _ _ ?_)))
   refine zW (b := x303) rfl (fun c307 => ?_) (fun c307 => ?_)
   ·have hF := zO c307 hF
    refine zC fun K308 hK308 => ?_
    refine zB ?_
    refine zM (.int .i64 g249) ?_
    refine zI (.int .i64 g249) ?_
    refine (zF (zA (hK308 _ _ ?_)))
    obtain rfl := someI hF
    refine (zZ (yF (zY (zY (yF (zY (post1 (v1 := .int .i64 g249) rfl rfl ?_)))))))
    exact ⟨rfl, H.pick [3] (by decide)⟩
   have hF := zN c307 hF
   refine (yA (yR (zA (hK285 _ _ ?_))))
   refine zB ?_
   obtain ⟨x309, e310, hF⟩ := zG hF
   refine zH (wC (a := g249) (b := 1) rfl rfl e310) ?_
   refine zM (.int .i64 x309) ?_
   exact (zF (zA (meet ⟨(n255, x309), (zK rfl zL), ⟨H.pick [3, 0] (by decide), hF⟩, Nat.lt_succ_self _⟩)))
  have hF := zN c261 hF
  exact (xW (yT (yT (xG (zA (meet ⟨(), zL, ⟨H.pick [0] (by decide), hF⟩⟩))))))
 rintro _ ρ w129 ⟨H, hF⟩
 have hF := join_body ek131 hF
 refine zC fun K311 hK311 => ?_
 refine zB ?_
 refine zI (.int .i64 (-1)) ?_
 refine (zF (zA (hK311 _ _ ?_)))
 obtain rfl := someI hF
 refine (zZ (post1 (v1 := .int .i64 (-1)) rfl rfl ?_))
 exact ⟨rfl, H.pick [0] (by decide)⟩
set_option maxHeartbeats 4000000 in
theorem F_slices_ContainsFunc___api_Rule_api_Rule__event_checkRule_1_1_w (p0 : List Rule) (p1c0 : Str) (v1 : Value) (b3 : Nat) (r : Bool) (hF : F_slices_ContainsFunc___api_Rule_api_Rule__event_checkRule_1_1 p0 p1c0 = some r) (O S : List Nat) (w : World) (H : Hd O w w S [.blk b3 [.string (bs p1c0)] 9, .fz (.sl rRule v1 p0)]) :
  Calls Tryz.prog 147 ([v1, .func (.func 148) #[] #[.pointer (some ⟨b3, 0, none⟩)]] : List Value).toArray w fun e w' => e = .returned (.bool r) ∧ Hd O w w' S [.blk b3 [.string (bs p1c0)] 9] := by
 unfold F_slices_ContainsFunc___api_Rule_api_Rule__event_checkRule_1_1 at hF
 refine yB 9 Tryz.func147 rfl rfl rfl ?_
 refine zC fun K5 hK5 => ?_
 refine zB ?_
 refine zI (.bool false) ?_
 refine (zF (zA (hK5 _ _ ?_)))
 refine zC fun K6 hK6 => ?_
 refine zB ?_
 refine zM v1 ?_
 refine zM (.func (.func 148) #[] #[.pointer (some ⟨b3, 0, none⟩)]) ?_
 obtain ⟨x7, e8, hF⟩ := zD hF
 refine zV rfl rfl (zU en182 rfl) (F_slices_IndexFunc___api_Rule_api_Rule__event_checkRule_1_1_w p0 p1c0 v1 b3 _ e8 _ _ _ (H.enter [0] [1] (by decide) rfl)) ?_
 rintro _ w9 ⟨rfl, G10⟩
 have H : Hd O _ w9 _ [.fz (.sl rRule v1 p0), .blk b3 [.string (bs p1c0)] 9] := H.back [0] [1] rfl G10
 refine ⟨_, rfl, ?_⟩
 obtain ⟨x11, e12, hF⟩ := zG hF
 refine zH (zS (Do_geq (a := x7) (b := 0) rfl rfl) e12) ?_
 refine zI (.bool x11) ?_
 refine (zF (zA (hK6 _ _ ?_)))
 obtain rfl := someI hF
 refine (zZ (post1 (v1 := .bool x11) rfl rfl ?_))
 exact ⟨rfl, H.pick [1] (by decide)⟩
set_option maxHeartbeats 4000000 in
theorem F_event_checkRule_1_w (p0 : Str) (c0 : Rules) (c1 : Int) (b1 : Nat) (v2 : Value) (v3 : Value) (v4 : Value) (b9 : Nat) (r : Bool) (hF : F_event_checkRule_1 p0 c0 c1 = some r) (O S : List Nat) (w : World) (H : Hd O w w S [.blk b1 [v2, v3, v4] 26, .blk b9 [.int .i64 c1] 3, .fz (.sl Rp.str v2 c0.Phases), .fz (.sl rMoveT v3 c0.Moves), .fz (.sl rRule v4 c0.Rules)]) :
  Calls Tryz.prog 146 ([.string (bs p0), .pointer (some ⟨b1, 0, none⟩), .pointer (some ⟨b9, 0, none⟩)] : List Value).toArray w fun e w' => e = .returned (.bool r) ∧ Hd O w w' S [.blk b1 [v2, v3, v4] 26, .blk b9 [.int .i64 c1] 3] := by
 unfold F_event_checkRule_1 at hF
 refine yB 11 Tryz.func146 rfl rfl rfl ?_
 refine zC fun K11 hK11 => ?_
 refine zB ?_
 refine yX rfl rfl (Lx_box1 rfl rfl H) ?_
 rintro _ w14 ⟨b12, rfl, H⟩
 refine zI (.bool false) ?_
 refine (zF (zA (hK11 _ _ ?_)))
 refine zC fun K15 hK15 => ?_
 refine zB ?_
 refine zH (fa26_2 rfl) ?_
 refine zH (zT one24 rfl (Cells.get (Blk.cells (H.item (i := 0) rfl)) (i := 2) rfl)) ?_
 refine zH (zT one3 rfl (Cells.get (Blk.cells (H.item (i := 1) rfl)) (i := 0) rfl)) ?_
 obtain ⟨x16, e17, hF⟩ := zD hF
 refine RL_exP rfl rfl (Lx_slice_h u24 sz106 (H.item (i := 4) rfl) rfl rfl e17) ?_
 rintro v18 h19
 have H := H.fz (.sl rRule v18 x16) h19
 refine zH (Do_makeFunc rfl) ?_
 obtain ⟨x21, e22, hF⟩ := zD hF
 refine zV rfl rfl (zU en147 rfl) (F_slices_ContainsFunc___api_Rule_api_Rule__event_checkRule_1_1_w x16 p0 v18 b12 _ e22 _ _ _ (H.enter [5] [6] (by decide) rfl)) ?_
 rintro _ w23 ⟨rfl, G24⟩
 have H : Hd O _ w23 _ [.blk b1 [v2, v3, v4] 26, .blk b9 [.int .i64 c1] 3, .fz (.sl Rp.str v2 c0.Phases), .fz (.sl rMoveT v3 c0.Moves), .fz (.sl rRule v4 c0.Rules), .fz (.sl rRule v18 x16), .blk b12 [.string (bs p0)] 9] := H.back [5] [6] rfl G24
 refine ⟨_, rfl, ?_⟩
 refine zI (.bool x21) ?_
 refine (zF (zA (hK15 _ _ ?_)))
 obtain rfl := someI hF
 refine (zZ (post1 (v1 := .bool x21) rfl rfl ?_))
 exact ⟨rfl, H.pick [0, 1] (by decide)⟩
set_option maxHeartbeats 4000000 in
theorem F_event_checkRule_2_df146_a0de_w (p0 : Cond) (c0 : Rules) (c1f1 : Int) (v1 : Value) (b3 : Nat) (v4 : Value) (v5 : Value) (v6 : Value) (b11 : Nat) (b13 : Nat) (r : Int) (hF : F_event_checkRule_2_df146_a0de p0 c0 c1f1 = some r) (O S : List Nat) (w : World) (H : Hd O w w S [.blk b3 [v4, v5, v6] 26, .blk b13 [.int .i64 c1f1] 3, .blk b11 [.func (.func 146) #[] #[.pointer (some ⟨b3, 0, none⟩), .pointer (some ⟨b13, 0, none⟩)]] 48, .fz (.sl rCond v1 p0.Kids), .fz (.sl Rp.str v4 c0.Phases), .fz (.sl rMoveT v5 c0.Moves), .fz (.sl rRule v6 c0.Rules)]) :
  Calls Tryz.prog 149 ([.agg [.int .i64 p0.Kind, .string (bs p0.Name), .string (bs p0.Other), .int .i64 p0.Op, .int .i64 p0.N, .int .i64 p0.Frames, v1].toArray, .pointer (some ⟨b3, 0, none⟩), .pointer (some ⟨b11, 0, none⟩)] : List Value).toArray w fun e w' => e = .returned (.int .i64 r) ∧ Hd O w w' S [.blk b3 [v4, v5, v6] 26, .blk b13 [.int .i64 c1f1] 3, .blk b11 [.func (.func 146) #[] #[.pointer (some ⟨b3, 0, none⟩), .pointer (some ⟨b13, 0, none⟩)]] 48] := by
 unfold F_event_checkRule_2_df146_a0de at hF
 refine yB 28 Tryz.func149 rfl rfl rfl ?_
 refine zC fun K15 hK15 => ?_
 refine zB ?_
 refine yX rfl rfl (Lx_box (cs := [.int .i64 p0.Kind, .string (bs p0.Name), .string (bs p0.Other), .int .i64 p0.Op, .int .i64 p0.N, .int .i64 p0.Frames, v1]) rfl H) ?_
 rintro _ w18 ⟨b16, rfl, H⟩
 refine zI (.int .i64 0) ?_
 refine (zF (zA (hK15 _ _ ?_)))
 refine zC fun K47 hK47 => ?_
 obtain ⟨g71, hF, hK73⟩ := zD hF
 refine yL [5, 6, 7, 8, 9, 10, 11, 12, 13, 14, 15, 16, 17, 18, 19, 20, 21, 22, 23, 24, 25, 26, 27] (fun (g : Unit) => [(27, .bool g71)]) (fun g wl => Hd O w wl S [.blk b3 [v4, v5, v6] 26, .fz (.sl Rp.str v4 c0.Phases), .fz (.sl rMoveT v5 c0.Moves), .fz (.sl rRule v6 c0.Rules), .blk b13 [.int .i64 c1f1] 3, .blk b11 [.func (.func 146) #[] #[.pointer (some ⟨b3, 0, none⟩), .pointer (some ⟨b13, 0, none⟩)]] 48]) ?_ ?_
 ·skip
  refine zB ?_
  refine zH (fa54_0 rfl) ?_
  refine zH (zT one3 rfl (Cells.get (Blk.cells (H.item (i := 7) rfl)) (i := 0) rfl)) ?_
  obtain ⟨x74, e75, hF⟩ := zG hF
  refine zH (zS (yP (a := p0.Kind) (b := 6) rfl rfl) e75) ?_
  obtain ⟨j76, hF, hK77⟩ := zD hF
  refine RL_cutS 8 [8, 9, 10, 11, 12, 13, 14, 15] [(15, .bool j76)] (fun wl => Hd O w wl S [.blk b3 [v4, v5, v6] 26, .blk b13 [.int .i64 c1f1] 3, .blk b11 [.func (.func 146) #[] #[.pointer (some ⟨b3, 0, none⟩), .pointer (some ⟨b13, 0, none⟩)]] 48, .fz (.sl rCond v1 p0.Kids), .fz (.sl Rp.str v4 c0.Phases), .fz (.sl rMoveT v5 c0.Moves), .fz (.sl rRule v6 c0.Rules), .blk b16 [.int .i64 p0.Kind, .string (bs p0.Name), .string (bs p0.Other), .int .i64 p0.Op, .int .i64 p0.N, .int .i64 p0.Frames, v1] 54]) ?_ ?_
  ·skip
   refine yK (b := x74) rfl rfl rfl (fun c79 => ?_) (fun c79 => ?_)
   ·have hF := zO c79 hF
    refine zH (fa26_0 rfl) ?_
    refine zH (zT one22 rfl (Cells.get (Blk.cells (H.item (i := 0) rfl)) (i := 0) rfl)) ?_
    refine zH (fa54_1 rfl) ?_
    refine zH (zT one9 rfl (Cells.get (Blk.cells (H.item (i := 7) rfl)) (i := 1) rfl)) ?_
    have H80 := H
    obtain ⟨x81, e82, hF⟩ := zD hF
    refine zV rfl rfl (zU en65 rfl) (F_slices_Contains___string_string__w c0.Phases p0.Name v4 _ e82 _ _ _ (H.enter [] [4] (by decide) rfl)) ?_
    rintro _ w83 ⟨rfl, G84⟩
    have H := H80.step (G84.only : Only [] _ _)
    refine ⟨_, rfl, ?_⟩
    obtain ⟨x85, e86, hF⟩ := zG hF
    refine zH (zS (xY (p := x81) rfl) e86) ?_
    refine zH (yI (v := .bool x85) rfl rfl) ?_
    obtain rfl := someI hF
    exact zF (zA (meet ⟨(zK rfl zL), H.pick [0, 1, 2, 3, 4, 5, 6, 7] (by decide)⟩))
   have hF := zN c79 hF
   refine yD ?_
   refine yD ?_
   refine yD ?_
   refine yD ?_
   refine yD ?_
   refine yD ?_
   refine zH (yE (v := .bool false) rfl rfl) ?_
   obtain rfl := someI hF
   exact zF (zA (meet ⟨(zK rfl zL), H.pick [0, 1, 2, 3, 4, 5, 6, 7] (by decide)⟩))
  rintro ρ w78 H
  have hF := hK77
  refine yK (b := j76) rfl rfl rfl (fun c87 => ?_) (fun c87 => ?_)
  ·have hF := zO c87 hF
   refine yD ?_
   refine yD ?_
   refine yD ?_
   refine yD ?_
   refine yD ?_
   refine yD ?_
   refine yD ?_
   refine yD ?_
   refine yD ?_
   refine yD ?_
   refine zH (yI (v := .bool true) rfl rfl) ?_
   obtain rfl := someI hF
   exact (zF (zA (meet ⟨(), (zK rfl zL), H.pick [0, 4, 5, 6, 1, 2] (by decide)⟩)))
  have hF := zN c87 hF
  refine zH (fa54_0 rfl) ?_
  refine zH (zT one3 rfl (Cells.get (Blk.cells (H.item (i := 7) rfl)) (i := 0) rfl)) ?_
  obtain ⟨x88, e89, hF⟩ := zG hF
  refine zH (zS (yP (a := p0.Kind) (b := 7) rfl rfl) e89) ?_
  refine yK (b := x88) rfl rfl rfl (fun c90 => ?_) (fun c90 => ?_)
  ·have hF := zO c90 hF
   refine zH (zT one48 rfl (Cells.get (Blk.cells (H.item (i := 2) rfl)) (i := 0) rfl)) ?_
   refine zH (fa54_1 rfl) ?_
   refine zH (zT one9 rfl (Cells.get (Blk.cells (H.item (i := 7) rfl)) (i := 1) rfl)) ?_
   obtain ⟨x91, e92, hF⟩ := zD hF
   refine zV rfl rfl (DoC_clo en146 rfl rfl) (F_event_checkRule_1_w p0.Name c0 c1f1 b3 v4 v5 v6 b13 _ e92 _ _ _ (H.enter [0, 1] [4, 5, 6] (by decide) rfl)) ?_
   rintro _ w93 ⟨rfl, G94⟩
   have H : Hd O _ w93 _ [.blk b11 [.func (.func 146) #[] #[.pointer (some ⟨b3, 0, none⟩), .pointer (some ⟨b13, 0, none⟩)]] 48, .fz (.sl rCond v1 p0.Kids), .fz (.sl Rp.str v4 c0.Phases), .fz (.sl rMoveT v5 c0.Moves), .fz (.sl rRule v6 c0.Rules), .blk b16 [.int .i64 p0.Kind, .string (bs p0.Name), .string (bs p0.Other), .int .i64 p0.Op, .int .i64 p0.N, .int .i64 p0.Frames, v1] 54, .blk b3 [v4, v5, v6] 26, .blk b13 [.int .i64 c1f1] 3] := H.back [0, 1] [4, 5, 6] rfl G94
   refine ⟨_, rfl, ?_⟩
   obtain ⟨x95, e96, hF⟩ := zG hF
   refine zH (zS (xY (p := x91) rfl) e96) ?_
   refine zH (yI (v := .bool x95) rfl rfl) ?_
   refine zH (yE (v := .bool x95) rfl rfl) ?_
   obtain rfl := someI hF
   exact (zF (zA (meet ⟨(), (zK rfl zL), H.pick [6, 2, 3, 4, 7, 0] (by decide)⟩)))
  have hF := zN c90 hF
  refine yD ?_
  refine yD ?_
  refine yD ?_
  refine yD ?_
  refine yD ?_
  refine zH (yE (v := .bool false) rfl rfl) ?_
  refine zH (yE (v := .bool false) rfl rfl) ?_
  obtain rfl := someI hF
  exact (zF (zA (meet ⟨(), (zK rfl zL), H.pick [0, 4, 5, 6, 1, 2] (by decide)⟩)))
 rintro _ ρ w72 H
 have hF := hK73
 refine zW (b := g71) rfl (fun c97 => ?_) (fun c97 => ?_)
 ·have hF := zO c97 hF
  refine zC fun K98 hK98 => ?_
  refine zB ?_
  refine zI (.int .i64 4) ?_
  refine (zF (zA (hK98 _ _ ?_)))
  obtain rfl := someI hF
  refine (zZ (zY (post1 (v1 := .int .i64 4) rfl rfl ?_)))
  exact ⟨rfl, H.pick [0, 4, 5] (by decide)⟩
 have hF := zN c97 hF
 refine (yA (zA (hK47 _ _ ?_)))
 refine zC fun K99 hK99 => ?_
 refine zB ?_
 refine zI (.int .i64 0) ?_
 refine (zF (zA (hK99 _ _ ?_)))
 obtain rfl := someI hF
 refine (zZ (post1 (v1 := .int .i64 0) rfl rfl ?_))
 exact ⟨rfl, H.pick [0, 4, 5] (by decide)⟩
abbrev S_event_each_event_checkRule_2_df146_a0de (f : Cond → Rules → Int → Option Int) : Prop := ∀ (p0 : Cond) (p1c0 : Rules) (p1c1f1 : Int) (v1 : Value) (b3 : Nat) (v4 : Value) (v5 : Value) (v6 : Value) (b11 : Nat) (b13 : Nat) (r : Int) (_ : f p0 p1c0 p1c1f1 = some r) (O S : List Nat) (w : World) (_ : Hd O w w S [.blk b3 [v4, v5, v6] 26, .blk b13 [.int .i64 p1c1f1] 3, .blk b11 [.func (.func 146) #[] #[.pointer (some ⟨b3, 0, none⟩), .pointer (some ⟨b13, 0, none⟩)]] 48, .fz (.sl rCond v1 p0.Kids), .fz (.sl Rp.str v4 p1c0.Phases), .fz (.sl rMoveT v5 p1c0.Moves), .fz (.sl rRule v6 p1c0.Rules)]),
  Calls Tryz.prog 108 ([.agg [.int .i64 p0.Kind, .string (bs p0.Name), .string (bs p0.Other), .int .i64 p0.Op, .int .i64 p0.N, .int .i64 p0.Frames, v1].toArray, .func (.func 149) #[] #[.pointer (some ⟨b3, 0, none⟩), .pointer (some ⟨b11, 0, none⟩)]] : List Value).toArray w fun e w' => e = .returned (.int .i64 r) ∧ Hd O w w' S [.blk b3 [v4, v5, v6] 26, .blk b13 [.int .i64 p1c1f1] 3, .blk b11 [.func (.func 146) #[] #[.pointer (some ⟨b3, 0, none⟩), .pointer (some ⟨b13, 0, none⟩)]] 48]
end Go.Proofs.YtnajnkghilemhaaGreatDoor.L
