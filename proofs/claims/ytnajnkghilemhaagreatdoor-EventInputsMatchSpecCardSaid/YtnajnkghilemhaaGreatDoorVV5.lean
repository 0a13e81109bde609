/- Walks: what each function computes, for every argument; no condition but those that stand in the statements. -/
import Derived.Test.YtnajnkghilemhaaGreatDoorVV0
import Derived.Test.YtnajnkghilemhaaGreatDoorVV3
import Derived.Test.YtnajnkghilemhaaGreatDoorVV4
namespace Go.Proofs.YtnajnkghilemhaaGreatDoor.L
open Go.RowKit Go.OB Go.Lf
/- (*orangebox/event.reader).comparison -/
set_option maxHeartbeats 4000000 in
theorem F_event_reader_comparison_w (p0 : EventReader) (b1 : Nat) (v2 : Value) (v3 : Value) (v4 : Value) (r : Cond × EventReader) (hF : F_event_reader_comparison p0 = some r) (O S : List Nat) (w : World) (H : Hd O w w S [.own Rp.str v2 9 p0.r.Phases, .own rMoveT v3 102 p0.r.Moves, .own rRule v4 106 p0.r.Rules, .blk b1 [.string (bs p0.text), .int .i64 p0.at_, .int .i64 p0.now.kind, .int .i64 p0.now.at_, .int .i64 p0.now.n, .string (bs p0.now.text), v2, v3, v4] 88, .fz (.at 0 0 ((Fl.arr 7 Fl.str).f zO)), .fz (.gi 4)]) :
  Calls Tryz.prog 179 ([.pointer (some ⟨b1, 0, none⟩)] : List Value).toArray w fun e w' => ∃ u11 u12 u13 u14, e = .returned (.agg [.int .i64 r.1.Kind, .string (bs r.1.Name), .string (bs r.1.Other), .int .i64 r.1.Op, .int .i64 r.1.N, .int .i64 r.1.Frames, u11].toArray) ∧ Hd O w w' S [.fz (.sl rCond u11 r.1.Kids), .own Rp.str u12 9 r.2.r.Phases, .own rMoveT u13 102 r.2.r.Moves, .own rRule u14 106 r.2.r.Rules, .blk b1 [.string (bs r.2.text), .int .i64 r.2.at_, .int .i64 r.2.now.kind, .int .i64 r.2.now.at_, .int .i64 r.2.now.n, .string (bs r.2.now.text), u12, u13, u14] 88] := by
 unfold F_event_reader_comparison at hF
 refine yD 45 Tryz.func179 rfl rfl rfl ?_
 refine zD fun K15 hK15 => ?_
 refine zC ?_
 refine yY rfl rfl (xJ zero54 H) ?_
 rintro _ w18 ⟨b16, rfl, H⟩
 refine (zJ (zB (hK15 _ _ ?_)))
 refine zD fun K19 hK19 => ?_
 refine zC ?_
 refine zA rfl rfl (zK (v := .pointer (some ⟨b1, 0, none⟩)) rfl) ?_
 obtain ⟨⟨x20, x21⟩, e22, hF⟩ := zI hF
 refine yA rfl rfl (zX en89 rfl) (F_event_reader_name_w p0 b1 v2 v3 v4 _ e22 _ _ _ (H.enter [0, 1, 2, 3] [5] (by decide) rfl)) ?_
 rintro _ w29 ⟨v23, v24, v25, rfl, G30⟩
 have H : Hd O _ w29 _ [.fz (.at 0 0 ((Fl.arr 7 Fl.str).f zO)), .fz (.gi 4), .blk b16 [.int .i64 0, .string (bs []), .string (bs []), .int .i64 0, .int .i64 0, .int .i64 0, .slice none 0 0] 54, .own Rp.str v23 9 x21.r.Phases, .own rMoveT v24 102 x21.r.Moves, .own rRule v25 106 x21.r.Rules, .blk b1 [.string (bs x21.text), .int .i64 x21.at_, .int .i64 x21.now.kind, .int .i64 x21.now.at_, .int .i64 x21.now.n, .string (bs x21.now.text), v23, v24, v25] 88] := H.back [0, 1, 2, 3] [5] rfl G30
 refine ⟨_, rfl, ?_⟩
 refine zA rfl rfl (xM (cs := [.int .i64 3, .string (bs x20), .string (bs []), .int .i64 0, .int .i64 0, .int .i64 0, .slice none 0 0]) (bt54_0_1 _ _)) ?_
 refine yY rfl rfl (xJ zero54 H) ?_
 rintro _ w33 ⟨b31, rfl, H⟩
 refine yV rfl (yN (vs := [.int .i64 3, .string (bs x20), .string (bs []), .int .i64 0, .int .i64 0, .int .i64 0, .slice none 0 0]) H 7 rfl sz54 rfl rfl rfl ⟨rfl, rfl, rfl, rfl, rfl, rfl, rfl, trivial⟩ rfl) ?_
 rintro w34 H
 refine (zJ (zB (hK19 _ _ ?_)))
 refine zD fun K35 hK35 => ?_
 have H36 := H
 have H := H.rebase
 have H37 := H
 refine WP_mix0 H [0, 1, 2, 3, 4, 5, 6, 7, 8] [.pure, .pure, .pure, .pure, .pure, .read, .read, .pure, .eff] mixed (by kernel_rfl) (by kernel_rfl) (by kernel_rfl) rfl ?_
 refine Mx.XL_exP rfl rfl rfl (Lx_sliceAA (e := Fl.str) (X := zO) (r := Rp.str) (fun _ _ _ _ => Iff.rfl) rfl u156 sz9 (H.item (i := 0) rfl).1 (H.item (i := 0) rfl).2.1 (H.item (i := 0) rfl).2.2 rfl (by decide)) ?_
 rintro v38 h39
 have H := H.fz (.sl Rp.str v38 zO.l) h39
 refine Mx.yB rfl rfl rfl (fun w' hw' => zK (v := .pointer (some ⟨b1, 0, none⟩)) rfl) ?_
 refine Mx.yB rfl rfl rfl (fun w' hw' => yK rfl) ?_
 refine Mx.yB rfl rfl rfl (fun w' hw' => fa88_2 rfl) ?_
 refine Mx.yB rfl rfl rfl (fun w' hw' => fa86_3 rfl) ?_
 refine Mx.xK oS rfl rfl rfl (fun w' hw' => zL one9 rfl (Cells.get (Blk.cells ((H.sees hw').item (i := 6) rfl)) (i := 5) rfl)) ?_
 have H41 := H
 obtain ⟨x42, e43, hF⟩ := zI hF
 refine Mx.XL_call oS rfl rfl rfl (v := .int .i64 x42) (fun w' hw' => zX en118 rfl) (fun w' hw' => call_read (F_slices_Index___string_string__w zO.l x21.now.text v38 _ e43 _ _ _ ((H.sees hw').enter [] [8] (by decide) rfl))) ?_
 have H := H41
 refine Mx.yB rfl rfl rfl (fun w' hw' => fa54_3 rfl) ?_
 refine Mx.XL_exU oS rfl rfl (fun w' hw' => xX (H.sees hw') 7 rfl sz3 rfl (v := .int .i64 x42) rfl rfl rfl) ?_
 rintro w' w44 hw' H
 refine ⟨H.only, ?_⟩
 refine Mx.XL_nil fun w45 hS => ?_
 have H := H.sees hS
 have H := H36.rejoin H
 refine (zB (hK35 _ _ ?_))
 obtain ⟨j62, hF, hK61⟩ := zI hF
 refine yQ [15, 16, 17, 18, 19, 20, 21, 22, 23, 24, 25, 26, 27] (fun (g : Unit) => []) (fun g wl => Hd O w wl S [.fz (.at 0 0 ((Fl.arr 7 Fl.str).f zO)), .fz (.gi 4), .blk b16 [.int .i64 0, .string (bs []), .string (bs []), .int .i64 0, .int .i64 0, .int .i64 0, .slice none 0 0] 54, .own Rp.str v23 9 x21.r.Phases, .own rMoveT v24 102 x21.r.Moves, .own rRule v25 106 x21.r.Rules, .blk b1 [.string (bs x21.text), .int .i64 x21.at_, .int .i64 x21.now.kind, .int .i64 x21.now.at_, .int .i64 x21.now.n, .string (bs x21.now.text), v23, v24, v25] 88, .blk b31 [.int .i64 3, .string (bs x20), .string (bs []), .int .i64 x42, .int .i64 0, .int .i64 0, .slice none 0 0] 54]) ?_ ?_
 ·skip
  obtain ⟨g68, hF, hK70⟩ := zI hF
  refine yQ [15, 16, 17, 18, 19, 20, 21, 22, 23, 24, 25] (fun (g : Unit) => [(25, .bool g68)]) (fun g wl => Hd O w wl S [.fz (.at 0 0 ((Fl.arr 7 Fl.str).f zO)), .fz (.gi 4), .blk b16 [.int .i64 0, .string (bs []), .string (bs []), .int .i64 0, .int .i64 0, .int .i64 0, .slice none 0 0] 54, .own Rp.str v23 9 x21.r.Phases, .own rMoveT v24 102 x21.r.Moves, .own rRule v25 106 x21.r.Rules, .blk b1 [.string (bs x21.text), .int .i64 x21.at_, .int .i64 x21.now.kind, .int .i64 x21.now.at_, .int .i64 x21.now.n, .string (bs x21.now.text), v23, v24, v25] 88, .blk b31 [.int .i64 3, .string (bs x20), .string (bs []), .int .i64 x42, .int .i64 0, .int .i64 0, .slice none 0 0] 54]) ?_ ?_
  ·skip
   refine zC ?_
   refine zA rfl rfl (zK (v := .pointer (some ⟨b1, 0, none⟩)) rfl) ?_
   refine zA rfl rfl (yK rfl) ?_
   refine zA rfl rfl (fa88_2 rfl) ?_
   refine zA rfl rfl (fa86_0 rfl) ?_
   refine zA rfl rfl (zL one3 rfl (Cells.get (Blk.cells (H.item (i := 6) rfl)) (i := 2) rfl)) ?_
   obtain ⟨x71, e72, hF⟩ := zF hF
   refine zA rfl rfl (zM (xO (a := x21.now.kind) (b := 4) rfl rfl) (congrArg Value.bool e72)) ?_
   refine yE (b := x71) rfl rfl rfl (fun c73 => ?_) (fun c73 => ?_)
   ·have hF := zV c73 hF
    refine zH rfl rfl ?_
    refine zH rfl rfl ?_
    refine zH rfl rfl ?_
    refine zA rfl rfl (zY (v := .bool true) rfl rfl) ?_
    have hR := Option.some.inj hF
    subst hR
    refine (zJ (zB (And.intro ?_ ?_)))
    ·repeat' (first | with_reducible exact zS | refine zZ rfl ?_ | refine zT rfl rfl ?_)
    exact ⟨(), (zQ rfl zU), H.pick [0, 1, 2, 3, 4, 5, 6, 7] (by decide)⟩
   have hF := zW c73 hF
   refine zA rfl rfl (fa54_3 rfl) ?_
   refine zA rfl rfl (zL one3 rfl (Cells.get (Blk.cells (H.item (i := 7) rfl)) (i := 3) rfl)) ?_
   obtain ⟨x74, e75, hF⟩ := zF hF
   refine zA rfl rfl (zM (xZ (a := x42) (b := 1) rfl rfl) (congrArg Value.bool e75)) ?_
   refine zA rfl rfl (zN (v := .bool x74) rfl rfl) ?_
   have hR := Option.some.inj hF
   subst hR
   refine (zJ (zB (And.intro ?_ ?_)))
   ·repeat' (first | with_reducible exact zS | refine zZ rfl ?_ | refine zT rfl rfl ?_)
   exact ⟨(), (zQ rfl zU), H.pick [0, 1, 2, 3, 4, 5, 6, 7] (by decide)⟩
  rintro _ ρ w69 H
  have hF := hK70
  refine yH (b := g68) rfl (fun c76 => ?_) (fun c76 => ?_)
  ·have hF := zV c76 hF
   refine zC ?_
   refine zA rfl rfl (zK (v := .pointer (some ⟨b1, 0, none⟩)) rfl) ?_
   have H77 := H
   have H := H.freezeB (i := 6) rfl
   have H := H.freeze (i := 3) rfl
   have H := H.freeze (i := 4) rfl
   have H := H.freeze (i := 5) rfl
   have H := H.fz (.pt rEventReader (some ⟨b1, 0, none⟩) (some x21)) ⟨_, _, _, rfl, (H.item (i := 6) rfl).1, (H.item (i := 6) rfl).2.1, (xP (x := x21) (H.item (i := 3) rfl) (H.item (i := 4) rfl) (H.item (i := 5) rfl)), (H.item (i := 6) rfl).2.2⟩
   obtain ⟨_, e79, hF⟩ := zI hF
   refine yA rfl rfl (zX en92 rfl) (F_event_reader_fail_w (some x21) 6 (some ⟨b1, 0, none⟩) _ e79 _ _ _ (H.enter [] [8] (by decide) rfl)) ?_
   rintro _ w80 ⟨rfl, G81⟩
   have H := H77.step (G81.only : Only [] _ _)
   refine ⟨_, rfl, ?_⟩
   have hR := Option.some.inj hF
   subst hR
   refine (zJ (zB (And.intro ?_ ?_)))
   ·repeat' (first | with_reducible exact zS | refine zZ rfl ?_ | refine zT rfl rfl ?_)
   exact ⟨(), zU, H.pick [0, 1, 2, 3, 4, 5, 6, 7] (by decide)⟩
  have hF := zW c76 hF
  have hR := Option.some.inj hF
  subst hR
  refine (yI (zB (And.intro ?_ ?_)))
  ·repeat' (first | with_reducible exact zS | refine zZ rfl ?_ | refine zT rfl rfl ?_)
  exact ⟨(), zU, H.pick [0, 1, 2, 3, 4, 5, 6, 7] (by decide)⟩
 rintro _ ρ w60 H
 have hF := hK61
 refine zD fun K82 hK82 => ?_
 refine zC ?_
 refine zA rfl rfl (zK (v := .pointer (some ⟨b1, 0, none⟩)) rfl) ?_
 obtain ⟨x83, e84, hF⟩ := zI hF
 refine yA rfl rfl (zX en87 rfl) (F_event_reader_advance_w x21 b1 v23 v24 v25 _ e84 _ _ _ (H.enter [3, 4, 5, 6] [1] (by decide) rfl)) ?_
 rintro _ w91 ⟨v85, v86, v87, rfl, G92⟩
 have H : Hd O _ w91 _ [.fz (.at 0 0 ((Fl.arr 7 Fl.str).f zO)), .fz (.gi 4), .blk b16 [.int .i64 0, .string (bs []), .string (bs []), .int .i64 0, .int .i64 0, .int .i64 0, .slice none 0 0] 54, .blk b31 [.int .i64 3, .string (bs x20), .string (bs []), .int .i64 x42, .int .i64 0, .int .i64 0, .slice none 0 0] 54, .own Rp.str v85 9 x83.r.Phases, .own rMoveT v86 102 x83.r.Moves, .own rRule v87 106 x83.r.Rules, .blk b1 [.string (bs x83.text), .int .i64 x83.at_, .int .i64 x83.now.kind, .int .i64 x83.now.at_, .int .i64 x83.now.n, .string (bs x83.now.text), v85, v86, v87] 88] := H.back [3, 4, 5, 6] [1] rfl G92
 refine ⟨_, rfl, ?_⟩
 refine (zJ (zB (hK82 _ _ ?_)))
 refine zD fun K113 hK113 => ?_
 refine zD fun K114 hK114 => ?_
 refine zC ?_
 refine zA rfl rfl (zK (v := .pointer (some ⟨b1, 0, none⟩)) rfl) ?_
 refine zA rfl rfl (yK rfl) ?_
 refine zA rfl rfl (fa88_2 rfl) ?_
 refine zA rfl rfl (fa86_0 rfl) ?_
 refine zA rfl rfl (zL one3 rfl (Cells.get (Blk.cells (H.item (i := 7) rfl)) (i := 2) rfl)) ?_
 obtain ⟨x115, e116, hF⟩ := zF hF
 refine zA rfl rfl (zM (xC (a := x83.now.kind) (b := 2) rfl rfl) (congrArg Value.bool e116)) ?_
 refine (zJ (zB (hK114 _ _ ?_)))
 refine yH (b := x115) rfl (fun c117 => ?_) (fun c117 => ?_)
 ·have hF := zV c117 hF
  refine zD fun K118 hK118 => ?_
  refine zC ?_
  refine zA rfl rfl (zK (v := .pointer (some ⟨b1, 0, none⟩)) rfl) ?_
  obtain ⟨⟨x119, x120⟩, e121, hF⟩ := zI hF
  refine yA rfl rfl (zX en89 rfl) (F_event_reader_name_w x83 b1 v85 v86 v87 _ e121 _ _ _ (H.enter [4, 5, 6, 7] [1] (by decide) rfl)) ?_
  rintro _ w128 ⟨v122, v123, v124, rfl, G129⟩
  have H : Hd O _ w128 _ [.fz (.at 0 0 ((Fl.arr 7 Fl.str).f zO)), .fz (.gi 4), .blk b16 [.int .i64 0, .string (bs []), .string (bs []), .int .i64 0, .int .i64 0, .int .i64 0, .slice none 0 0] 54, .blk b31 [.int .i64 3, .string (bs x20), .string (bs []), .int .i64 x42, .int .i64 0, .int .i64 0, .slice none 0 0] 54, .own Rp.str v122 9 x120.r.Phases, .own rMoveT v123 102 x120.r.Moves, .own rRule v124 106 x120.r.Rules, .blk b1 [.string (bs x120.text), .int .i64 x120.at_, .int .i64 x120.now.kind, .int .i64 x120.now.at_, .int .i64 x120.now.n, .string (bs x120.now.text), v122, v123, v124] 88] := H.back [4, 5, 6, 7] [1] rfl G129
  refine ⟨_, rfl, ?_⟩
  refine zA rfl rfl (fa54_0 rfl) ?_
  refine yV rfl (xX H 3 rfl sz3 rfl (v := .int .i64 4) rfl rfl rfl) ?_
  rintro w130 H
  refine zA rfl rfl (fa54_2 rfl) ?_
  refine yV rfl (xX H 3 rfl sz9 rfl (v := .string (bs x119)) rfl rfl rfl) ?_
  rintro w131 H
  refine (zJ (zB (hK118 _ _ ?_)))
  refine zD fun K132 hK132 => ?_
  refine zC ?_
  refine zA rfl rfl (zM (yT (cs := [.int .i64 4, .string (bs x20), .string (bs x119), .int .i64 x42, .int .i64 0, .int .i64 0, .slice none 0 0]) agg54 rfl sz54 rfl (Blk.cells (H.item (i := 3) rfl))) rfl) ?_
  refine yV rfl (yN (vs := [.int .i64 4, .string (bs x20), .string (bs x119), .int .i64 x42, .int .i64 0, .int .i64 0, .slice none 0 0]) H 2 rfl sz54 rfl rfl rfl ⟨rfl, rfl, rfl, rfl, rfl, rfl, rfl, trivial⟩ rfl) ?_
  rintro w133 H
  refine (zJ (zB (hK132 _ _ ?_)))
  have H := H.fz (.sl rCond (.slice none 0 0) []) SlF.nil
  have hR := Option.some.inj hF
  subst hR
  refine (yG (yC (postc  rfl rfl (yL agg54 sz54 rfl (Blk.cells (H.item (i := 2) rfl))) ?_)))
  exact ⟨.slice none 0 0, v122, v123, v124, rfl, H.pick [8, 4, 5, 6, 7] (by decide)⟩
 have hF := zW c117 hF
 refine (yI (zB (hK113 _ _ ?_)))
 refine zD fun K135 hK135 => ?_
 refine zC ?_
 refine zA rfl rfl (zK (v := .pointer (some ⟨b1, 0, none⟩)) rfl) ?_
 obtain ⟨⟨x136, x137⟩, e138, hF⟩ := zI hF
 refine yA rfl rfl (zX en181 rfl) (F_event_reader_number_w x83 b1 v85 v86 v87 _ e138 _ _ _ (H.enter [4, 5, 6, 7] [1] (by decide) rfl)) ?_
 rintro _ w145 ⟨v139, v140, v141, rfl, G146⟩
 have H : Hd O _ w145 _ [.fz (.at 0 0 ((Fl.arr 7 Fl.str).f zO)), .fz (.gi 4), .blk b16 [.int .i64 0, .string (bs []), .string (bs []), .int .i64 0, .int .i64 0, .int .i64 0, .slice none 0 0] 54, .blk b31 [.int .i64 3, .string (bs x20), .string (bs []), .int .i64 x42, .int .i64 0, .int .i64 0, .slice none 0 0] 54, .own Rp.str v139 9 x137.r.Phases, .own rMoveT v140 102 x137.r.Moves, .own rRule v141 106 x137.r.Rules, .blk b1 [.string (bs x137.text), .int .i64 x137.at_, .int .i64 x137.now.kind, .int .i64 x137.now.at_, .int .i64 x137.now.n, .string (bs x137.now.text), v139, v140, v141] 88] := H.back [4, 5, 6, 7] [1] rfl G146
 refine ⟨_, rfl, ?_⟩
 refine zA rfl rfl (fa54_4 rfl) ?_
 refine yV rfl (xX H 3 rfl sz3 rfl (v := .int .i64 x136) rfl rfl rfl) ?_
 rintro w147 H
 refine (zJ (zB (hK135 _ _ ?_)))
 refine zD fun K148 hK148 => ?_
 refine zC ?_
 refine zA rfl rfl (zM (yT (cs := [.int .i64 3, .string (bs x20), .string (bs []), .int .i64 x42, .int .i64 x136, .int .i64 0, .slice none 0 0]) agg54 rfl sz54 rfl (Blk.cells (H.item (i := 3) rfl))) rfl) ?_
 refine yV rfl (yN (vs := [.int .i64 3, .string (bs x20), .string (bs []), .int .i64 x42, .int .i64 x136, .int .i64 0, .slice none 0 0]) H 2 rfl sz54 rfl rfl rfl ⟨rfl, rfl, rfl, rfl, rfl, rfl, rfl, trivial⟩ rfl) ?_
 rintro w149 H
 refine (zJ (zB (hK148 _ _ ?_)))
 have H := H.fz (.sl rCond (.slice none 0 0) []) SlF.nil
 have hR := Option.some.inj hF
 subst hR
 refine (yG (postc  rfl rfl (yL agg54 sz54 rfl (Blk.cells (H.item (i := 2) rfl))) ?_))
 exact ⟨.slice none 0 0, v139, v140, v141, rfl, H.pick [8, 4, 5, 6, 7] (by decide)⟩
end Go.Proofs.YtnajnkghilemhaaGreatDoor.L
namespace Go.Proofs.YtnajnkghilemhaaGreatDoor.L
open Go.RowKit Go.OB Go.Lf
/- (*orangebox/event.reader).part: its contract -/
abbrev S_event_reader_part (f : EventReader → Int → Option (Cond × EventReader)) : Prop := ∀ (p0 : EventReader) (p1 : Int) (b1 : Nat) (v2 : Value) (v3 : Value) (v4 : Value) (r : Cond × EventReader) (hF : f p0 p1 = some r) (O S : List Nat) (w : World) (H : Hd O w w S [.own Rp.str v2 9 p0.r.Phases, .own rMoveT v3 102 p0.r.Moves, .own rRule v4 106 p0.r.Rules, .blk b1 [.string (bs p0.text), .int .i64 p0.at_, .int .i64 p0.now.kind, .int .i64 p0.now.at_, .int .i64 p0.now.n, .string (bs p0.now.text), v2, v3, v4] 88, .fz (.at 0 0 ((Fl.arr 7 Fl.str).f zO)), .fz (.gi 4)]),
  Calls Tryz.prog 144 ([.pointer (some ⟨b1, 0, none⟩), .int .i64 p1] : List Value).toArray w fun e w' => ∃ u11 u12 u13 u14, e = .returned (.agg [.int .i64 r.1.Kind, .string (bs r.1.Name), .string (bs r.1.Other), .int .i64 r.1.Op, .int .i64 r.1.N, .int .i64 r.1.Frames, u11].toArray) ∧ Hd O w w' S [.fz (.sl rCond u11 r.1.Kids), .own Rp.str u12 9 r.2.r.Phases, .own rMoveT u13 102 r.2.r.Moves, .own rRule u14 106 r.2.r.Rules, .blk b1 [.string (bs r.2.text), .int .i64 r.2.at_, .int .i64 r.2.now.kind, .int .i64 r.2.now.at_, .int .i64 r.2.now.n, .string (bs r.2.now.text), u12, u13, u14] 88]
end Go.Proofs.YtnajnkghilemhaaGreatDoor.L
namespace Go.Proofs.YtnajnkghilemhaaGreatDoor.L
open Go.RowKit Go.OB Go.Lf
/- (*orangebox/event.reader).part$1~pdd -/
set_option maxHeartbeats 4000000 in
theorem F_event_reader_part_1_pdd_w (rfA : EventReader → Int → Option (Cond × EventReader)) (rhA : S_event_reader_part rfA) (p0 : Int) (c0p : EventReader) (c1 : Int) (b1 : Nat) (b3 : Nat) (v4 : Value) (v5 : Value) (v6 : Value) (b11 : Nat) (r : (List Cond) × EventReader) (hF : F_event_reader_part_1_pdd rfA p0 c0p c1 = some r) (O S : List Nat) (w : World) (H : Hd O w w S [.own Rp.str v4 9 c0p.r.Phases, .own rMoveT v5 102 c0p.r.Moves, .own rRule v6 106 c0p.r.Rules, .blk b3 [.string (bs c0p.text), .int .i64 c0p.at_, .int .i64 c0p.now.kind, .int .i64 c0p.now.at_, .int .i64 c0p.now.n, .string (bs c0p.now.text), v4, v5, v6] 88, .blk b1 [.pointer (some ⟨b3, 0, none⟩)] 84, .blk b11 [.int .i64 c1] 3, .fz (.at 0 0 ((Fl.arr 7 Fl.str).f zO)), .fz (.gi 4)]) :
  Calls Tryz.prog 180 ([.int .i64 p0, .pointer (some ⟨b1, 0, none⟩), .pointer (some ⟨b11, 0, none⟩)] : List Value).toArray w fun e w' => ∃ u15 u16 u17 u18, e = .returned (u15) ∧ Hd O w w' S [.own rCond u15 54 r.1, .own Rp.str u16 9 r.2.r.Phases, .own rMoveT u17 102 r.2.r.Moves, .own rRule u18 106 r.2.r.Rules, .blk b3 [.string (bs r.2.text), .int .i64 r.2.at_, .int .i64 r.2.now.kind, .int .i64 r.2.now.at_, .int .i64 r.2.now.n, .string (bs r.2.now.text), u16, u17, u18] 88, .blk b1 [.pointer (some ⟨b3, 0, none⟩)] 84, .blk b11 [.int .i64 c1] 3] := by
 unfold F_event_reader_part_1_pdd at hF
 refine yD 18 Tryz.func180 rfl rfl rfl ?_
 refine zD fun K19 hK19 => ?_
 refine zC ?_
 refine zA rfl rfl (zG (v := .slice none 0 0) rfl) ?_
 refine (zJ (zB (hK19 _ _ ?_)))
 refine zD fun K20 hK20 => ?_
 refine zC ?_
 refine zA rfl rfl (zG (v := .slice none 0 0) rfl) ?_
 refine (zJ (zB (hK20 _ _ ?_)))
 obtain ⟨j184, hF, hK183⟩ := zI hF
 refine yQ [5, 6, 7, 8, 9, 10, 11, 12, 13, 14, 15, 16] (fun (g : Value × Value × Value × Value) => [(5, g.1)]) (fun g wl => Hd O w wl S [.own rCond g.1 54 j184.1, .blk b3 [.string (bs j184.2.1), .int .i64 j184.2.2.1, .int .i64 j184.2.2.2.1, .int .i64 j184.2.2.2.2.1, .int .i64 j184.2.2.2.2.2.1, .string (bs j184.2.2.2.2.2.2.1), g.2.1, g.2.2.1, g.2.2.2] 88, .own Rp.str g.2.1 9 j184.2.2.2.2.2.2.2.1, .own rMoveT g.2.2.1 102 j184.2.2.2.2.2.2.2.2.1, .own rRule g.2.2.2 106 j184.2.2.2.2.2.2.2.2.2, .blk b1 [.pointer (some ⟨b3, 0, none⟩)] 84, .blk b11 [.int .i64 c1] 3, .fz (.at 0 0 ((Fl.arr 7 Fl.str).f zO)), .fz (.gi 4)]) ?_ ?_
 ·skip
  refine zD fun K185 hK185 => ?_
  refine zC ?_
  refine zA rfl rfl (zK (v := .int .i64 p0) rfl) ?_
  refine zA rfl rfl (zK (v := .int .i64 0) rfl) ?_
  refine (zJ (zB (hK185 _ _ ?_)))
  refine yM ?_
  have H := own_nil H rCond 54
  unfold F_event_reader_part_1_pdd_L1 at hF
  obtain ⟨B341, n342, eB343, hF⟩ := yZ hF
  refine xN [5, 7, 8, 9, 10, 11, 12, 13, 14, 15, 16] (fun (g : Nat × (List Cond) × Int × Str × Int × Int × Int × Int × Str × (List Str) × (List MoveT) × (List Rule) × Value × Value × Value × Value) => [(5, g.2.2.2.2.2.2.2.2.2.2.2.2.1), (7, .int .i64 g.2.2.1)]) (fun g wl => Hd O w wl S [.own rCond g.2.2.2.2.2.2.2.2.2.2.2.2.1 54 g.2.1, .blk b3 [.string (bs g.2.2.2.1), .int .i64 g.2.2.2.2.1, .int .i64 g.2.2.2.2.2.1, .int .i64 g.2.2.2.2.2.2.1, .int .i64 g.2.2.2.2.2.2.2.1, .string (bs g.2.2.2.2.2.2.2.2.1), g.2.2.2.2.2.2.2.2.2.2.2.2.2.1, g.2.2.2.2.2.2.2.2.2.2.2.2.2.2.1, g.2.2.2.2.2.2.2.2.2.2.2.2.2.2.2] 88, .own Rp.str g.2.2.2.2.2.2.2.2.2.2.2.2.2.1 9 g.2.2.2.2.2.2.2.2.2.1, .own rMoveT g.2.2.2.2.2.2.2.2.2.2.2.2.2.2.1 102 g.2.2.2.2.2.2.2.2.2.2.1, .own rRule g.2.2.2.2.2.2.2.2.2.2.2.2.2.2.2 106 g.2.2.2.2.2.2.2.2.2.2.2.1, .blk b1 [.pointer (some ⟨b3, 0, none⟩)] 84, .blk b11 [.int .i64 c1] 3, .fz (.at 0 0 ((Fl.arr 7 Fl.str).f zO)), .fz (.gi 4)] ∧ loopN B341 g.1 (g.2.1, g.2.2.1, g.2.2.2.1, g.2.2.2.2.1, g.2.2.2.2.2.1, g.2.2.2.2.2.2.1, g.2.2.2.2.2.2.2.1, g.2.2.2.2.2.2.2.2.1, g.2.2.2.2.2.2.2.2.2.1, g.2.2.2.2.2.2.2.2.2.2.1, g.2.2.2.2.2.2.2.2.2.2.2.1) = some j184) (fun g => g.1) (n342, [], 0, c0p.text, c0p.at_, c0p.now.kind, c0p.now.at_, c0p.now.n, c0p.now.text, c0p.r.Phases, c0p.r.Moves, c0p.r.Rules, .slice none 0 0, v4, v5, v6) (zQ rfl (zQ rfl zU)) ⟨H.pick [8, 3, 0, 1, 2, 4, 5, 6, 7] (by decide), hF⟩ ?_
  clear H hF
  rintro ⟨n342, g322, g324, g325, g326, g327, g328, g329, g330, g332, g335, g338, v323, v333, v336, v339⟩ ρ w345 ⟨H, hF⟩
  obtain ⟨n346, rfl, hF⟩ := xH hF
  have hF := xG eB343 hF
  refine zD fun K347 hK347 => ?_
  refine zC ?_
  obtain ⟨x348, e349, hF⟩ := zF hF
  refine zA rfl rfl (zM (xZ (a := g324) (b := p0) rfl rfl) (congrArg Value.bool e349)) ?_
  refine (zJ (zB (hK347 _ _ ?_)))
  refine zD fun K351 hK351 => ?_
  refine yH (b := x348) rfl (fun c352 => ?_) (fun c352 => ?_)
  ·have hF := zV c352 hF
   refine (yI (zB (hK351 _ _ ?_)))
   refine zD fun K377 hK377 => ?_
   refine yM ?_
   refine zC ?_
   refine zA rfl rfl (zK (v := v323) rfl) ?_
   refine zA rfl rfl (zL one84 rfl (Cells.get (Blk.cells (H.item (i := 5) rfl)) (i := 0) rfl)) ?_
   refine zA rfl rfl (zL one3 rfl (Cells.get (Blk.cells (H.item (i := 6) rfl)) (i := 0) rfl)) ?_
   obtain ⟨x378, e379, hF⟩ := zF hF
   refine zA rfl rfl (wE (a := c1) (b := 1) rfl rfl e379) ?_
   obtain ⟨⟨x380, x381⟩, e382, hF⟩ := zI hF
   refine yA rfl rfl (zX en144 rfl) (rhA (EventReader.mk g325 g326 (EventToken.mk g327 g328 g329 g330) (Rules.mk g332 g335 g338)) x378 b3 v333 v336 v339 _ e382 _ _ _ (H.enter [2, 3, 4, 1] [7, 8] (by decide) rfl)) ?_
   rintro _ w391 ⟨v383, v385, v386, v387, rfl, G392⟩
   have H : Hd O _ w391 _ [.own rCond v323 54 g322, .blk b1 [.pointer (some ⟨b3, 0, none⟩)] 84, .blk b11 [.int .i64 c1] 3, .fz (.at 0 0 ((Fl.arr 7 Fl.str).f zO)), .fz (.gi 4), .fz (.sl rCond v383 x380.Kids), .own Rp.str v385 9 x381.r.Phases, .own rMoveT v386 102 x381.r.Moves, .own rRule v387 106 x381.r.Rules, .blk b3 [.string (bs x381.text), .int .i64 x381.at_, .int .i64 x381.now.kind, .int .i64 x381.now.at_, .int .i64 x381.now.n, .string (bs x381.now.text), v385, v386, v387] 88] := H.back [2, 3, 4, 1] [7, 8] rfl G392
   refine ⟨_, rfl, ?_⟩
   obtain ⟨x393, e394, hF⟩ := zF hF
   subst e394
   refine yY rfl rfl (Lx_bs (r := rCond) (xl := [x380]) (cs := [.int .i64 x380.Kind, .string (bs x380.Name), .string (bs x380.Other), .int .i64 x380.Op, .int .i64 x380.N, .int .i64 x380.Frames, v383]) u52 el54 (by decide) (by decide) rfl (wF (vs := [.agg [.int .i64 x380.Kind, .string (bs x380.Name), .string (bs x380.Other), .int .i64 x380.Op, .int .i64 x380.N, .int .i64 x380.Frames, v383].toArray]) (by decide) rfl rfl ⟨rfl, trivial⟩ rfl) H ⟨[.int .i64 x380.Kind, .string (bs x380.Name), .string (bs x380.Other), .int .i64 x380.Op, .int .i64 x380.N, .int .i64 x380.Frames, v383], [], rfl, (rCond_mk (x := x380) (H.item (i := 5) rfl)), rfl⟩) ?_
   rintro v396 w397 H
   obtain ⟨x398, e399, hF⟩ := zI hF
   refine yY rfl rfl (Lx_app H (i := 0) rfl u52 el54 rfl rfl (Sr.of_own (H.item (i := 10) rfl)) e399) ?_
   rintro v400 w401 H
   refine zA rfl rfl (zG (v := v400) rfl) ?_
   refine (zJ (yX (zB (hK377 _ _ ?_))))
   refine zC ?_
   obtain ⟨x402, e403, hF⟩ := zF hF
   refine zA rfl rfl (wE (a := g324) (b := 1) rfl rfl e403) ?_
   refine zA rfl rfl (zK (v := .int .i64 x402) rfl) ?_
   refine (zJ (zB (And.intro ?_ ?_)))
   ·repeat' (first | with_reducible exact zS | refine zZ rfl ?_ | refine zT rfl rfl ?_)
   exact ⟨(n346, x398, x402, x381.text, x381.at_, x381.now.kind, x381.now.at_, x381.now.n, x381.now.text, x381.r.Phases, x381.r.Moves, x381.r.Rules, v400, v385, v386, v387), (zQ rfl (zQ rfl zU)), ⟨H.pick [0, 9, 6, 7, 8, 1, 2, 3, 4] (by decide), hF⟩, Nat.lt_succ_self _⟩
  have hF := zW c352 hF
  have hR := Option.some.inj hF
  subst hR
  refine (xW (yU (yU (xE (zB (And.intro ?_ ?_))))))
  ·repeat' (first | with_reducible exact zS | refine zZ rfl ?_ | refine zT rfl rfl ?_)
  exact ⟨(v323, v333, v336, v339), (zQ rfl zU), H.pick [0, 1, 2, 3, 4, 5, 6, 7, 8] (by decide)⟩
 rintro ⟨v166, v175, v178, v181⟩ ρ w182 H
 have hF := hK183
 obtain ⟨g165, g167, g168, g169, g170, g171, g172, g174, g177, g180⟩ := j184
 refine zD fun K404 hK404 => ?_
 refine zC ?_
 refine zA rfl rfl (zK (v := v166) rfl) ?_
 refine zA rfl rfl (zG (v := v166) rfl) ?_
 refine (zJ (zB (hK404 _ _ ?_)))
 have hR := Option.some.inj hF
 subst hR
 refine (yG (post1 (v1 := v166) rfl rfl ?_))
 exact ⟨v166, v175, v178, v181, rfl, H.pick [0, 2, 3, 4, 1, 5, 6] (by decide)⟩
end Go.Proofs.YtnajnkghilemhaaGreatDoor.L
namespace Go.Proofs.YtnajnkghilemhaaGreatDoor.L
open Go.RowKit Go.OB Go.Lf
/- (*orangebox/event.reader).part -/
set_option maxHeartbeats 4000000 in
set_option maxRecDepth 100000 in
theorem F_event_reader_part_B_w (rfB : EventReader → Int → Option (Cond × EventReader)) (rhB : S_event_reader_cond rfB) (rfA : EventReader → Int → Option (Cond × EventReader)) (rhA : S_event_reader_part rfA) (p0 : EventReader) (p1 : Int) (b1 : Nat) (v2 : Value) (v3 : Value) (v4 : Value) (r : Cond × EventReader) (hF : F_event_reader_part_B rfB rfA p0 p1 = some r) (O S : List Nat) (w : World) (H : Hd O w w S [.own Rp.str v2 9 p0.r.Phases, .own rMoveT v3 102 p0.r.Moves, .own rRule v4 106 p0.r.Rules, .blk b1 [.string (bs p0.text), .int .i64 p0.at_, .int .i64 p0.now.kind, .int .i64 p0.now.at_, .int .i64 p0.now.n, .string (bs p0.now.text), v2, v3, v4] 88, .fz (.at 0 0 ((Fl.arr 7 Fl.str).f zO)), .fz (.gi 4)]) :
  Calls Tryz.prog 144 ([.pointer (some ⟨b1, 0, none⟩), .int .i64 p1] : List Value).toArray w fun e w' => ∃ u11 u12 u13 u14, e = .returned (.agg [.int .i64 r.1.Kind, .string (bs r.1.Name), .string (bs r.1.Other), .int .i64 r.1.Op, .int .i64 r.1.N, .int .i64 r.1.Frames, u11].toArray) ∧ Hd O w w' S [.fz (.sl rCond u11 r.1.Kids), .own Rp.str u12 9 r.2.r.Phases, .own rMoveT u13 102 r.2.r.Moves, .own rRule u14 106 r.2.r.Rules, .blk b1 [.string (bs r.2.text), .int .i64 r.2.at_, .int .i64 r.2.now.kind, .int .i64 r.2.now.at_, .int .i64 r.2.now.n, .string (bs r.2.now.text), u12, u13, u14] 88] := by
 unfold F_event_reader_part_B at hF
 refine yD 110 Tryz.func144 rfl rfl rfl ?_
 refine zD fun K15 hK15 => ?_
 refine zC ?_
 refine yY rfl rfl (Lx_box1 rfl rfl H) ?_
 rintro _ w18 ⟨b16, rfl, H⟩
 refine yY rfl rfl (Lx_box1 rfl rfl H) ?_
 rintro _ w21 ⟨b19, rfl, H⟩
 refine yY rfl rfl (xJ zero54 H) ?_
 rintro _ w24 ⟨b22, rfl, H⟩
 refine (zJ (zB (hK15 _ _ ?_)))
 obtain ⟨j42, hF, hK41⟩ := zI hF
 refine yQ [9, 10, 11, 12, 13] (fun (g : Unit) => []) (fun g wl => Hd O w wl S [.own Rp.str v2 9 p0.r.Phases, .own rMoveT v3 102 p0.r.Moves, .own rRule v4 106 p0.r.Rules, .blk b1 [.string (bs p0.text), .int .i64 p0.at_, .int .i64 p0.now.kind, .int .i64 p0.now.at_, .int .i64 p0.now.n, .string (bs p0.now.text), v2, v3, v4] 88, .fz (.at 0 0 ((Fl.arr 7 Fl.str).f zO)), .fz (.gi 4), .blk b16 [.pointer (some ⟨b1, 0, none⟩)] 84, .blk b19 [.int .i64 p1] 3, .blk b22 [.int .i64 0, .string (bs []), .string (bs []), .int .i64 0, .int .i64 0, .int .i64 0, .slice none 0 0] 54]) ?_ ?_
 ·skip
  refine zD fun K43 hK43 => ?_
  refine zC ?_
  refine zA rfl rfl (zL one84 rfl (Cells.get (Blk.cells (H.item (i := 6) rfl)) (i := 0) rfl)) ?_
  have H44 := H
  have H := H.freezeB (i := 3) rfl
  have H := H.freeze (i := 0) rfl
  have H := H.freeze (i := 1) rfl
  have H := H.freeze (i := 2) rfl
  have H := H.fz (.pt rEventReader (some ⟨b1, 0, none⟩) (some p0)) ⟨_, _, _, rfl, (H.item (i := 3) rfl).1, (H.item (i := 3) rfl).2.1, (xP (x := p0) (H.item (i := 0) rfl) (H.item (i := 1) rfl) (H.item (i := 2) rfl)), (H.item (i := 3) rfl).2.2⟩
  obtain ⟨x46, e47, hF⟩ := zI hF
  refine yA rfl rfl (zX en178 rfl) (F_event_reader_begins_w (some p0) (some ⟨b1, 0, none⟩) _ e47 _ _ _ (H.enter [] [9] (by decide) rfl)) ?_
  rintro _ w48 ⟨rfl, G49⟩
  have H := H44.step (G49.only : Only [] _ _)
  refine ⟨_, rfl, ?_⟩
  obtain ⟨x50, e51, hF⟩ := zF hF
  refine zA rfl rfl (zM (yS (p := x46) rfl) (congrArg Value.bool e51)) ?_
  refine (zJ (zB (hK43 _ _ ?_)))
  refine yH (b := x50) rfl (fun c52 => ?_) (fun c52 => ?_)
  ·have hF := zV c52 hF
   refine zC ?_
   refine zA rfl rfl (zL one84 rfl (Cells.get (Blk.cells (H.item (i := 6) rfl)) (i := 0) rfl)) ?_
   have H53 := H
   have H := H.freezeB (i := 3) rfl
   have H := H.freeze (i := 0) rfl
   have H := H.freeze (i := 1) rfl
   have H := H.freeze (i := 2) rfl
   have H := H.fz (.pt rEventReader (some ⟨b1, 0, none⟩) (some p0)) ⟨_, _, _, rfl, (H.item (i := 3) rfl).1, (H.item (i := 3) rfl).2.1, (xP (x := p0) (H.item (i := 0) rfl) (H.item (i := 1) rfl) (H.item (i := 2) rfl)), (H.item (i := 3) rfl).2.2⟩
   obtain ⟨_, e55, hF⟩ := zI hF
   refine yA rfl rfl (zX en92 rfl) (F_event_reader_fail_w (some p0) 6 (some ⟨b1, 0, none⟩) _ e55 _ _ _ (H.enter [] [9] (by decide) rfl)) ?_
   rintro _ w56 ⟨rfl, G57⟩
   have H := H53.step (G57.only : Only [] _ _)
   refine ⟨_, rfl, ?_⟩
   have hR := Option.some.inj hF
   subst hR
   refine (zJ (zB (And.intro ?_ ?_)))
   ·repeat' (first | with_reducible exact zS | refine zZ rfl ?_ | refine zT rfl rfl ?_)
   exact ⟨(), zU, H.pick [0, 1, 2, 3, 4, 5, 6, 7, 8] (by decide)⟩
  have hF := zW c52 hF
  have hR := Option.some.inj hF
  subst hR
  refine (yI (zB (And.intro ?_ ?_)))
  ·repeat' (first | with_reducible exact zS | refine zZ rfl ?_ | refine zT rfl rfl ?_)
  exact ⟨(), zU, H.pick [0, 1, 2, 3, 4, 5, 6, 7, 8] (by decide)⟩
 rintro _ ρ w40 H
 have hF := hK41
 obtain ⟨j69, hF, hK68⟩ := zI hF
 refine yQ [14, 15, 16, 17] (fun (g : Unit) => []) (fun g wl => Hd O w wl S [.own Rp.str v2 9 p0.r.Phases, .own rMoveT v3 102 p0.r.Moves, .own rRule v4 106 p0.r.Rules, .blk b1 [.string (bs p0.text), .int .i64 p0.at_, .int .i64 p0.now.kind, .int .i64 p0.now.at_, .int .i64 p0.now.n, .string (bs p0.now.text), v2, v3, v4] 88, .fz (.at 0 0 ((Fl.arr 7 Fl.str).f zO)), .fz (.gi 4), .blk b16 [.pointer (some ⟨b1, 0, none⟩)] 84, .blk b19 [.int .i64 p1] 3, .blk b22 [.int .i64 0, .string (bs []), .string (bs []), .int .i64 0, .int .i64 0, .int .i64 0, .slice none 0 0] 54]) ?_ ?_
 ·skip
  refine zD fun K70 hK70 => ?_
  refine zC ?_
  refine zA rfl rfl (zL one3 rfl (Cells.get (Blk.cells (H.item (i := 7) rfl)) (i := 0) rfl)) ?_
  obtain ⟨x71, e72, hF⟩ := zF hF
  refine zA rfl rfl (zM (Do_geq (a := p1) (b := 60) rfl rfl) (congrArg Value.bool e72)) ?_
  refine (zJ (zB (hK70 _ _ ?_)))
  refine yH (b := x71) rfl (fun c73 => ?_) (fun c73 => ?_)
  ·have hF := zV c73 hF
   refine zC ?_
   refine zA rfl rfl (zL one84 rfl (Cells.get (Blk.cells (H.item (i := 6) rfl)) (i := 0) rfl)) ?_
   have H74 := H
   have H := H.freezeB (i := 3) rfl
   have H := H.freeze (i := 0) rfl
   have H := H.freeze (i := 1) rfl
   have H := H.freeze (i := 2) rfl
   have H := H.fz (.pt rEventReader (some ⟨b1, 0, none⟩) (some p0)) ⟨_, _, _, rfl, (H.item (i := 3) rfl).1, (H.item (i := 3) rfl).2.1, (xP (x := p0) (H.item (i := 0) rfl) (H.item (i := 1) rfl) (H.item (i := 2) rfl)), (H.item (i := 3) rfl).2.2⟩
   obtain ⟨_, e76, hF⟩ := zI hF
   refine yA rfl rfl (zX en92 rfl) (F_event_reader_fail_w (some p0) 3 (some ⟨b1, 0, none⟩) _ e76 _ _ _ (H.enter [] [9] (by decide) rfl)) ?_
   rintro _ w77 ⟨rfl, G78⟩
   have H := H74.step (G78.only : Only [] _ _)
   refine ⟨_, rfl, ?_⟩
   have hR := Option.some.inj hF
   subst hR
   refine (zJ (zB (And.intro ?_ ?_)))
   ·repeat' (first | with_reducible exact zS | refine zZ rfl ?_ | refine zT rfl rfl ?_)
   exact ⟨(), zU, H.pick [0, 1, 2, 3, 4, 5, 6, 7, 8] (by decide)⟩
  have hF := zW c73 hF
  have hR := Option.some.inj hF
  subst hR
  refine (yI (zB (And.intro ?_ ?_)))
  ·repeat' (first | with_reducible exact zS | refine zZ rfl ?_ | refine zT rfl rfl ?_)
  exact ⟨(), zU, H.pick [0, 1, 2, 3, 4, 5, 6, 7, 8] (by decide)⟩
 rintro _ ρ w67 H
 have hF := hK68
 refine zD fun K98 hK98 => ?_
 refine zD fun K99 hK99 => ?_
 refine zC ?_
 refine zA rfl rfl (zL one84 rfl (Cells.get (Blk.cells (H.item (i := 6) rfl)) (i := 0) rfl)) ?_
 refine zA rfl rfl (yK rfl) ?_
 refine zA rfl rfl (fa88_2 rfl) ?_
 refine zA rfl rfl (fa86_0 rfl) ?_
 refine zA rfl rfl (zL one3 rfl (Cells.get (Blk.cells (H.item (i := 3) rfl)) (i := 2) rfl)) ?_
 obtain ⟨x100, e101, hF⟩ := zF hF
 refine zA rfl rfl (zM (xC (a := p0.now.kind) (b := 2) rfl rfl) (congrArg Value.bool e101)) ?_
 refine (zJ (zB (hK99 _ _ ?_)))
 refine yH (b := x100) rfl (fun c102 => ?_) (fun c102 => ?_)
 ·have hF := zV c102 hF
  refine zD fun K103 hK103 => ?_
  refine zC ?_
  refine zA rfl rfl (zL one84 rfl (Cells.get (Blk.cells (H.item (i := 6) rfl)) (i := 0) rfl)) ?_
  obtain ⟨⟨x104, x105⟩, e106, hF⟩ := zI hF
  refine yA rfl rfl (zX en179 rfl) (F_event_reader_comparison_w p0 b1 v2 v3 v4 _ e106 _ _ _ (H.enter [0, 1, 2, 3] [4, 5] (by decide) rfl)) ?_
  rintro _ w115 ⟨v107, v109, v110, v111, rfl, G116⟩
  have H : Hd O _ w115 _ [.fz (.at 0 0 ((Fl.arr 7 Fl.str).f zO)), .fz (.gi 4), .blk b16 [.pointer (some ⟨b1, 0, none⟩)] 84, .blk b19 [.int .i64 p1] 3, .blk b22 [.int .i64 0, .string (bs []), .string (bs []), .int .i64 0, .int .i64 0, .int .i64 0, .slice none 0 0] 54, .fz (.sl rCond v107 x104.Kids), .own Rp.str v109 9 x105.r.Phases, .own rMoveT v110 102 x105.r.Moves, .own rRule v111 106 x105.r.Rules, .blk b1 [.string (bs x105.text), .int .i64 x105.at_, .int .i64 x105.now.kind, .int .i64 x105.now.at_, .int .i64 x105.now.n, .string (bs x105.now.text), v109, v110, v111] 88] := H.back [0, 1, 2, 3] [4, 5] rfl G116
  refine ⟨_, rfl, ?_⟩
  refine yV rfl (yN (vs := [.int .i64 x104.Kind, .string (bs x104.Name), .string (bs x104.Other), .int .i64 x104.Op, .int .i64 x104.N, .int .i64 x104.Frames, v107]) H 4 rfl sz54 rfl rfl rfl ⟨rfl, rfl, rfl, rfl, rfl, rfl, (slf_one (H.item (i := 5) rfl)), trivial⟩ rfl) ?_
  rintro w117 H
  refine (zJ (zB (hK103 _ _ ?_)))
  have hR := Option.some.inj hF
  subst hR
  refine (yG (yC (postc  rfl rfl (yL agg54 sz54 rfl (Blk.cells (H.item (i := 4) rfl))) ?_)))
  exact ⟨v107, v109, v110, v111, rfl, H.pick [5, 6, 7, 8, 9] (by decide)⟩
 have hF := zW c102 hF
 refine (yI (zB (hK98 _ _ ?_)))
 refine zD fun K118 hK118 => ?_
 refine zC ?_
 refine zA rfl rfl (zL one84 rfl (Cells.get (Blk.cells (H.item (i := 6) rfl)) (i := 0) rfl)) ?_
 refine zA rfl rfl (yK rfl) ?_
 refine zA rfl rfl (fa88_2 rfl) ?_
 refine zA rfl rfl (fa86_3 rfl) ?_
 refine zA rfl rfl (zL one9 rfl (Cells.get (Blk.cells (H.item (i := 3) rfl)) (i := 5) rfl)) ?_
 refine zA rfl rfl (zG (v := .string (bs p0.now.text)) rfl) ?_
 refine (zJ (zB (hK118 _ _ ?_)))
 refine zD fun K119 hK119 => ?_
 refine zC ?_
 refine zA rfl rfl (zL one84 rfl (Cells.get (Blk.cells (H.item (i := 6) rfl)) (i := 0) rfl)) ?_
 obtain ⟨x120, e121, hF⟩ := zI hF
 refine yA rfl rfl (zX en87 rfl) (F_event_reader_advance_w p0 b1 v2 v3 v4 _ e121 _ _ _ (H.enter [0, 1, 2, 3] [5] (by decide) rfl)) ?_
 rintro _ w128 ⟨v122, v123, v124, rfl, G129⟩
 have H : Hd O _ w128 _ [.fz (.at 0 0 ((Fl.arr 7 Fl.str).f zO)), .fz (.gi 4), .blk b16 [.pointer (some ⟨b1, 0, none⟩)] 84, .blk b19 [.int .i64 p1] 3, .blk b22 [.int .i64 0, .string (bs []), .string (bs []), .int .i64 0, .int .i64 0, .int .i64 0, .slice none 0 0] 54, .own Rp.str v122 9 x120.r.Phases, .own rMoveT v123 102 x120.r.Moves, .own rRule v124 106 x120.r.Rules, .blk b1 [.string (bs x120.text), .int .i64 x120.at_, .int .i64 x120.now.kind, .int .i64 x120.now.at_, .int .i64 x120.now.n, .string (bs x120.now.text), v122, v123, v124] 88] := H.back [0, 1, 2, 3] [5] rfl G129
 refine ⟨_, rfl, ?_⟩
 refine (zJ (zB (hK119 _ _ ?_)))
 refine zD fun K130 hK130 => ?_
 refine zC ?_
 refine zA rfl rfl (Do_makeFunc rfl) ?_
 refine zA rfl rfl (zG (v := .func (.func 180) #[] #[.pointer (some ⟨b16, 0, none⟩), .pointer (some ⟨b19, 0, none⟩)]) rfl) ?_
 refine (zJ (zB (hK130 _ _ ?_)))
 refine zD fun K375 hK375 => ?_
 refine zD fun K376 hK376 => ?_
 refine zC ?_
 refine zA rfl rfl (zK (v := .string (bs p0.now.text)) rfl) ?_
 refine (zJ (zB (hK376 _ _ ?_)))
 refine yM ?_
 refine zD fun K377 hK377 => ?_
 refine zC ?_
 obtain ⟨x378, e379, hF⟩ := zF hF
 refine zA rfl rfl (zM (xU (s1 := p0.now.text) (s2 := [116, 114, 117, 101]) rfl rfl) (congrArg Value.bool e379)) ?_
 refine zA rfl rfl (zG (v := .bool x378) rfl) ?_
 refine (zJ (zB (hK377 _ _ ?_)))
 refine yH (b := x378) rfl (fun c380 => ?_) (fun c380 => ?_)
 ·have hF := zV c380 hF
  refine zD fun K381 hK381 => ?_
  refine zC ?_
  refine zA rfl rfl (xM (cs := [.int .i64 1, .string (bs []), .string (bs []), .int .i64 0, .int .i64 0, .int .i64 0, .slice none 0 0]) (bt54_0 _)) ?_
  refine yV rfl (yN (vs := [.int .i64 1, .string (bs []), .string (bs []), .int .i64 0, .int .i64 0, .int .i64 0, .slice none 0 0]) H 4 rfl sz54 rfl rfl rfl ⟨rfl, rfl, rfl, rfl, rfl, rfl, rfl, trivial⟩ rfl) ?_
  rintro w382 H
  refine (zJ (zB (hK381 _ _ ?_)))
  have H := H.fz (.sl rCond (.slice none 0 0) []) SlF.nil
  have hR := Option.some.inj hF
  subst hR
  refine (yG (yJ (yC (postc  rfl rfl (yL agg54 sz54 rfl (Blk.cells (H.item (i := 4) rfl))) ?_))))
  exact ⟨.slice none 0 0, v122, v123, v124, rfl, H.pick [9, 5, 6, 7, 8] (by decide)⟩
 have hF := zW c380 hF
 refine zD fun K384 hK384 => ?_
 refine zC ?_
 obtain ⟨x385, e386, hF⟩ := zF hF
 refine zA rfl rfl (zM (xU (s1 := p0.now.text) (s2 := [102, 97, 108, 115, 101]) rfl rfl) (congrArg Value.bool e386)) ?_
 refine zA rfl rfl (zG (v := .bool x385) rfl) ?_
 refine (zJ (zB (hK384 _ _ ?_)))
 refine yH (b := x385) rfl (fun c387 => ?_) (fun c387 => ?_)
 ·have hF := zV c387 hF
  refine zD fun K388 hK388 => ?_
  refine zC ?_
  refine zA rfl rfl (xM (cs := [.int .i64 2, .string (bs []), .string (bs []), .int .i64 0, .int .i64 0, .int .i64 0, .slice none 0 0]) (bt54_0 _)) ?_
  refine yV rfl (yN (vs := [.int .i64 2, .string (bs []), .string (bs []), .int .i64 0, .int .i64 0, .int .i64 0, .slice none 0 0]) H 4 rfl sz54 rfl rfl rfl ⟨rfl, rfl, rfl, rfl, rfl, rfl, rfl, trivial⟩ rfl) ?_
  rintro w389 H
  refine (zJ (zB (hK388 _ _ ?_)))
  have H := H.fz (.sl rCond (.slice none 0 0) []) SlF.nil
  have hR := Option.some.inj hF
  subst hR
  refine (yG (yJ (yC (postc  rfl rfl (yL agg54 sz54 rfl (Blk.cells (H.item (i := 4) rfl))) ?_))))
  exact ⟨.slice none 0 0, v122, v123, v124, rfl, H.pick [9, 5, 6, 7, 8] (by decide)⟩
 have hF := zW c387 hF
 refine zD fun K391 hK391 => ?_
 refine zC ?_
 obtain ⟨x392, e393, hF⟩ := zF hF
 refine zA rfl rfl (zM (xU (s1 := p0.now.text) (s2 := [115, 116, 101, 97, 100, 121]) rfl rfl) (congrArg Value.bool e393)) ?_
 refine zA rfl rfl (zG (v := .bool x392) rfl) ?_
 refine (zJ (zB (hK391 _ _ ?_)))
 refine yH (b := x392) rfl (fun c394 => ?_) (fun c394 => ?_)
 ·have hF := zV c394 hF
  refine zD fun K395 hK395 => ?_
  cases hF
 have hF := zW c394 hF
 refine zD fun K396 hK396 => ?_
 refine zC ?_
 obtain ⟨x397, e398, hF⟩ := zF hF
 refine zA rfl rfl (zM (xU (s1 := p0.now.text) (s2 := [112, 104, 97, 115, 101]) rfl rfl) (congrArg Value.bool e398)) ?_
 refine zA rfl rfl (zG (v := .bool x397) rfl) ?_
 refine (zJ (zB (hK396 _ _ ?_)))
 refine yH (b := x397) rfl (fun c399 => ?_) (fun c399 => ?_)
 ·have hF := zV c399 hF
  refine zD fun K400 hK400 => ?_
  refine zC ?_
  refine zA rfl rfl (zL one84 rfl (Cells.get (Blk.cells (H.item (i := 2) rfl)) (i := 0) rfl)) ?_
  obtain ⟨⟨x401, x402⟩, e403, hF⟩ := zI hF
  refine yA rfl rfl (zX en89 rfl) (F_event_reader_name_w x120 b1 v122 v123 v124 _ e403 _ _ _ (H.enter [5, 6, 7, 8] [1] (by decide) rfl)) ?_
  rintro _ w410 ⟨v404, v405, v406, rfl, G411⟩
  have H : Hd O _ w410 _ [.fz (.at 0 0 ((Fl.arr 7 Fl.str).f zO)), .fz (.gi 4), .blk b16 [.pointer (some ⟨b1, 0, none⟩)] 84, .blk b19 [.int .i64 p1] 3, .blk b22 [.int .i64 0, .string (bs []), .string (bs []), .int .i64 0, .int .i64 0, .int .i64 0, .slice none 0 0] 54, .own Rp.str v404 9 x402.r.Phases, .own rMoveT v405 102 x402.r.Moves, .own rRule v406 106 x402.r.Rules, .blk b1 [.string (bs x402.text), .int .i64 x402.at_, .int .i64 x402.now.kind, .int .i64 x402.now.at_, .int .i64 x402.now.n, .string (bs x402.now.text), v404, v405, v406] 88] := H.back [5, 6, 7, 8] [1] rfl G411
  refine ⟨_, rfl, ?_⟩
  refine zA rfl rfl (xM (cs := [.int .i64 6, .string (bs x401), .string (bs []), .int .i64 0, .int .i64 0, .int .i64 0, .slice none 0 0]) (bt54_0_1 _ _)) ?_
  refine yV rfl (yN (vs := [.int .i64 6, .string (bs x401), .string (bs []), .int .i64 0, .int .i64 0, .int .i64 0, .slice none 0 0]) H 4 rfl sz54 rfl rfl rfl ⟨rfl, rfl, rfl, rfl, rfl, rfl, rfl, trivial⟩ rfl) ?_
  rintro w412 H
  refine (zJ (zB (hK400 _ _ ?_)))
  have H := H.fz (.sl rCond (.slice none 0 0) []) SlF.nil
  have hR := Option.some.inj hF
  subst hR
  refine (yG (yJ (yC (postc  rfl rfl (yL agg54 sz54 rfl (Blk.cells (H.item (i := 4) rfl))) ?_))))
  exact ⟨.slice none 0 0, v404, v405, v406, rfl, H.pick [9, 5, 6, 7, 8] (by decide)⟩
 have hF := zW c399 hF
 refine zD fun K414 hK414 => ?_
 refine zC ?_
 obtain ⟨x415, e416, hF⟩ := zF hF
 refine zA rfl rfl (zM (xU (s1 := p0.now.text) (s2 := [114, 117, 108, 101]) rfl rfl) (congrArg Value.bool e416)) ?_
 refine zA rfl rfl (zG (v := .bool x415) rfl) ?_
 refine (zJ (zB (hK414 _ _ ?_)))
 refine yH (b := x415) rfl (fun c417 => ?_) (fun c417 => ?_)
 ·have hF := zV c417 hF
  refine zD fun K418 hK418 => ?_
  refine zC ?_
  refine zA rfl rfl (zL one84 rfl (Cells.get (Blk.cells (H.item (i := 2) rfl)) (i := 0) rfl)) ?_
  obtain ⟨⟨x419, x420⟩, e421, hF⟩ := zI hF
  refine yA rfl rfl (zX en89 rfl) (F_event_reader_name_w x120 b1 v122 v123 v124 _ e421 _ _ _ (H.enter [5, 6, 7, 8] [1] (by decide) rfl)) ?_
  rintro _ w428 ⟨v422, v423, v424, rfl, G429⟩
  have H : Hd O _ w428 _ [.fz (.at 0 0 ((Fl.arr 7 Fl.str).f zO)), .fz (.gi 4), .blk b16 [.pointer (some ⟨b1, 0, none⟩)] 84, .blk b19 [.int .i64 p1] 3, .blk b22 [.int .i64 0, .string (bs []), .string (bs []), .int .i64 0, .int .i64 0, .int .i64 0, .slice none 0 0] 54, .own Rp.str v422 9 x420.r.Phases, .own rMoveT v423 102 x420.r.Moves, .own rRule v424 106 x420.r.Rules, .blk b1 [.string (bs x420.text), .int .i64 x420.at_, .int .i64 x420.now.kind, .int .i64 x420.now.at_, .int .i64 x420.now.n, .string (bs x420.now.text), v422, v423, v424] 88] := H.back [5, 6, 7, 8] [1] rfl G429
  refine ⟨_, rfl, ?_⟩
  refine zA rfl rfl (xM (cs := [.int .i64 7, .string (bs x419), .string (bs []), .int .i64 0, .int .i64 0, .int .i64 0, .slice none 0 0]) (bt54_0_1 _ _)) ?_
  refine yV rfl (yN (vs := [.int .i64 7, .string (bs x419), .string (bs []), .int .i64 0, .int .i64 0, .int .i64 0, .slice none 0 0]) H 4 rfl sz54 rfl rfl rfl ⟨rfl, rfl, rfl, rfl, rfl, rfl, rfl, trivial⟩ rfl) ?_
  rintro w430 H
  refine (zJ (zB (hK418 _ _ ?_)))
  have H := H.fz (.sl rCond (.slice none 0 0) []) SlF.nil
  have hR := Option.some.inj hF
  subst hR
  refine (yG (yJ (yC (postc  rfl rfl (yL agg54 sz54 rfl (Blk.cells (H.item (i := 4) rfl))) ?_))))
  exact ⟨.slice none 0 0, v422, v423, v424, rfl, H.pick [9, 5, 6, 7, 8] (by decide)⟩
 have hF := zW c417 hF
 refine zD fun K432 hK432 => ?_
 refine zC ?_
 obtain ⟨x433, e434, hF⟩ := zF hF
 refine zA rfl rfl (zM (xU (s1 := p0.now.text) (s2 := [110, 111, 116]) rfl rfl) (congrArg Value.bool e434)) ?_
 refine zA rfl rfl (zG (v := .bool x433) rfl) ?_
 refine (zJ (zB (hK432 _ _ ?_)))
 refine yH (b := x433) rfl (fun c435 => ?_) (fun c435 => ?_)
 ·have hF := zV c435 hF
  refine zD fun K436 hK436 => ?_
  refine zC ?_
  refine zA rfl rfl (zK (v := .func (.func 180) #[] #[.pointer (some ⟨b16, 0, none⟩), .pointer (some ⟨b19, 0, none⟩)]) rfl) ?_
  obtain ⟨⟨x437, x438⟩, e439, hF⟩ := zI hF
  refine yA rfl rfl (wH en180 rfl rfl) (F_event_reader_part_1_pdd_w rfA rhA 1 x120 p1 b16 b1 v122 v123 v124 b19 _ e439 _ _ _ (H.enter [5, 6, 7, 8, 2, 3] [0, 1] (by decide) rfl)) ?_
  rintro _ w448 ⟨v440, v442, v443, v444, rfl, G449⟩
  have H : Hd O _ w448 _ [.fz (.at 0 0 ((Fl.arr 7 Fl.str).f zO)), .fz (.gi 4), .blk b22 [.int .i64 0, .string (bs []), .string (bs []), .int .i64 0, .int .i64 0, .int .i64 0, .slice none 0 0] 54, .own rCond v440 54 x437, .own Rp.str v442 9 x438.r.Phases, .own rMoveT v443 102 x438.r.Moves, .own rRule v444 106 x438.r.Rules, .blk b1 [.string (bs x438.text), .int .i64 x438.at_, .int .i64 x438.now.kind, .int .i64 x438.now.at_, .int .i64 x438.now.n, .string (bs x438.now.text), v442, v443, v444] 88, .blk b16 [.pointer (some ⟨b1, 0, none⟩)] 84, .blk b19 [.int .i64 p1] 3] := H.back [5, 6, 7, 8, 2, 3] [0, 1] rfl G449
  refine ⟨_, rfl, ?_⟩
  obtain ⟨a450, c451, q452⟩ : ∃ a c, v440 = .slice a _ c := Sr.len (Sr.of_own (H.item (i := 3) rfl))
  refine zA rfl rfl (xM (cs := [.int .i64 8, .string (bs []), .string (bs []), .int .i64 0, .int .i64 0, .int .i64 0, v440]) (by rw [q452]; exact bt54_0_6 _ a450 _ c451)) ?_
  refine yV rfl (yN (vs := [.int .i64 8, .string (bs []), .string (bs []), .int .i64 0, .int .i64 0, .int .i64 0, v440]) H 2 rfl sz54 rfl rfl rfl ⟨rfl, rfl, rfl, rfl, rfl, rfl, (own_one (H.item (i := 3) rfl)), trivial⟩ rfl) ?_
  rintro w453 H
  refine (zJ (zB (hK436 _ _ ?_)))
  have H := H.freeze (i := 3) rfl
  have hR := Option.some.inj hF
  subst hR
  refine (yG (yJ (yC (postc  rfl rfl (yL agg54 sz54 rfl (Blk.cells (H.item (i := 2) rfl))) ?_))))
  exact ⟨v440, v442, v443, v444, rfl, H.pick [3, 4, 5, 6, 7] (by decide)⟩
 have hF := zW c435 hF
 refine zD fun K454 hK454 => ?_
 refine zC ?_
 obtain ⟨x455, e456, hF⟩ := zF hF
 refine zA rfl rfl (zM (xU (s1 := p0.now.text) (s2 := [102, 111, 114]) rfl rfl) (congrArg Value.bool e456)) ?_
 refine zA rfl rfl (zG (v := .bool x455) rfl) ?_
 refine (zJ (zB (hK454 _ _ ?_)))
 refine yH (b := x455) rfl (fun c457 => ?_) (fun c457 => ?_)
 ·have hF := zV c457 hF
  refine zD fun K458 hK458 => ?_
  refine zC ?_
  refine zA rfl rfl (zL one84 rfl (Cells.get (Blk.cells (H.item (i := 2) rfl)) (i := 0) rfl)) ?_
  obtain ⟨⟨x459, x460⟩, e461, hF⟩ := zI hF
  refine yA rfl rfl (zX en181 rfl) (F_event_reader_number_w x120 b1 v122 v123 v124 _ e461 _ _ _ (H.enter [5, 6, 7, 8] [1] (by decide) rfl)) ?_
  rintro _ w468 ⟨v462, v463, v464, rfl, G469⟩
  have H : Hd O _ w468 _ [.fz (.at 0 0 ((Fl.arr 7 Fl.str).f zO)), .fz (.gi 4), .blk b16 [.pointer (some ⟨b1, 0, none⟩)] 84, .blk b19 [.int .i64 p1] 3, .blk b22 [.int .i64 0, .string (bs []), .string (bs []), .int .i64 0, .int .i64 0, .int .i64 0, .slice none 0 0] 54, .own Rp.str v462 9 x460.r.Phases, .own rMoveT v463 102 x460.r.Moves, .own rRule v464 106 x460.r.Rules, .blk b1 [.string (bs x460.text), .int .i64 x460.at_, .int .i64 x460.now.kind, .int .i64 x460.now.at_, .int .i64 x460.now.n, .string (bs x460.now.text), v462, v463, v464] 88] := H.back [5, 6, 7, 8] [1] rfl G469
  refine ⟨_, rfl, ?_⟩
  refine zA rfl rfl (zK (v := .func (.func 180) #[] #[.pointer (some ⟨b16, 0, none⟩), .pointer (some ⟨b19, 0, none⟩)]) rfl) ?_
  obtain ⟨⟨x470, x471⟩, e472, hF⟩ := zI hF
  refine yA rfl rfl (wH en180 rfl rfl) (F_event_reader_part_1_pdd_w rfA rhA 1 x460 p1 b16 b1 v462 v463 v464 b19 _ e472 _ _ _ (H.enter [5, 6, 7, 8, 2, 3] [0, 1] (by decide) rfl)) ?_
  rintro _ w481 ⟨v473, v475, v476, v477, rfl, G482⟩
  have H : Hd O _ w481 _ [.fz (.at 0 0 ((Fl.arr 7 Fl.str).f zO)), .fz (.gi 4), .blk b22 [.int .i64 0, .string (bs []), .string (bs []), .int .i64 0, .int .i64 0, .int .i64 0, .slice none 0 0] 54, .own rCond v473 54 x470, .own Rp.str v475 9 x471.r.Phases, .own rMoveT v476 102 x471.r.Moves, .own rRule v477 106 x471.r.Rules, .blk b1 [.string (bs x471.text), .int .i64 x471.at_, .int .i64 x471.now.kind, .int .i64 x471.now.at_, .int .i64 x471.now.n, .string (bs x471.now.text), v475, v476, v477] 88, .blk b16 [.pointer (some ⟨b1, 0, none⟩)] 84, .blk b19 [.int .i64 p1] 3] := H.back [5, 6, 7, 8, 2, 3] [0, 1] rfl G482
  refine ⟨_, rfl, ?_⟩
  obtain ⟨a483, c484, q485⟩ : ∃ a c, v473 = .slice a _ c := Sr.len (Sr.of_own (H.item (i := 3) rfl))
  refine zA rfl rfl (xM (cs := [.int .i64 11, .string (bs []), .string (bs []), .int .i64 0, .int .i64 0, .int .i64 x459, v473]) (by rw [q485]; exact bt54_0_5_6 _ _ a483 _ c484)) ?_
  refine yV rfl (yN (vs := [.int .i64 11, .string (bs []), .string (bs []), .int .i64 0, .int .i64 0, .int .i64 x459, v473]) H 2 rfl sz54 rfl rfl rfl ⟨rfl, rfl, rfl, rfl, rfl, rfl, (own_one (H.item (i := 3) rfl)), trivial⟩ rfl) ?_
  rintro w486 H
  refine (zJ (zB (hK458 _ _ ?_)))
  have H := H.freeze (i := 3) rfl
  have hR := Option.some.inj hF
  subst hR
  refine (yG (yJ (yC (postc  rfl rfl (yL agg54 sz54 rfl (Blk.cells (H.item (i := 2) rfl))) ?_))))
  exact ⟨v473, v475, v476, v477, rfl, H.pick [3, 4, 5, 6, 7] (by decide)⟩
 have hF := zW c457 hF
 refine zD fun K487 hK487 => ?_
 refine zC ?_
 obtain ⟨x488, e489, hF⟩ := zF hF
 refine zA rfl rfl (zM (xU (s1 := p0.now.text) (s2 := [119, 105, 116, 104, 105, 110]) rfl rfl) (congrArg Value.bool e489)) ?_
 refine zA rfl rfl (zG (v := .bool x488) rfl) ?_
 refine (zJ (zB (hK487 _ _ ?_)))
 refine yH (b := x488) rfl (fun c490 => ?_) (fun c490 => ?_)
 ·have hF := zV c490 hF
  refine zD fun K491 hK491 => ?_
  refine zC ?_
  refine zA rfl rfl (zL one84 rfl (Cells.get (Blk.cells (H.item (i := 2) rfl)) (i := 0) rfl)) ?_
  obtain ⟨⟨x492, x493⟩, e494, hF⟩ := zI hF
  refine yA rfl rfl (zX en181 rfl) (F_event_reader_number_w x120 b1 v122 v123 v124 _ e494 _ _ _ (H.enter [5, 6, 7, 8] [1] (by decide) rfl)) ?_
  rintro _ w501 ⟨v495, v496, v497, rfl, G502⟩
  have H : Hd O _ w501 _ [.fz (.at 0 0 ((Fl.arr 7 Fl.str).f zO)), .fz (.gi 4), .blk b16 [.pointer (some ⟨b1, 0, none⟩)] 84, .blk b19 [.int .i64 p1] 3, .blk b22 [.int .i64 0, .string (bs []), .string (bs []), .int .i64 0, .int .i64 0, .int .i64 0, .slice none 0 0] 54, .own Rp.str v495 9 x493.r.Phases, .own rMoveT v496 102 x493.r.Moves, .own rRule v497 106 x493.r.Rules, .blk b1 [.string (bs x493.text), .int .i64 x493.at_, .int .i64 x493.now.kind, .int .i64 x493.now.at_, .int .i64 x493.now.n, .string (bs x493.now.text), v495, v496, v497] 88] := H.back [5, 6, 7, 8] [1] rfl G502
  refine ⟨_, rfl, ?_⟩
  refine zA rfl rfl (zK (v := .func (.func 180) #[] #[.pointer (some ⟨b16, 0, none⟩), .pointer (some ⟨b19, 0, none⟩)]) rfl) ?_
  obtain ⟨⟨x503, x504⟩, e505, hF⟩ := zI hF
  refine yA rfl rfl (wH en180 rfl rfl) (F_event_reader_part_1_pdd_w rfA rhA 1 x493 p1 b16 b1 v495 v496 v497 b19 _ e505 _ _ _ (H.enter [5, 6, 7, 8, 2, 3] [0, 1] (by decide) rfl)) ?_
  rintro _ w514 ⟨v506, v508, v509, v510, rfl, G515⟩
  have H : Hd O _ w514 _ [.fz (.at 0 0 ((Fl.arr 7 Fl.str).f zO)), .fz (.gi 4), .blk b22 [.int .i64 0, .string (bs []), .string (bs []), .int .i64 0, .int .i64 0, .int .i64 0, .slice none 0 0] 54, .own rCond v506 54 x503, .own Rp.str v508 9 x504.r.Phases, .own rMoveT v509 102 x504.r.Moves, .own rRule v510 106 x504.r.Rules, .blk b1 [.string (bs x504.text), .int .i64 x504.at_, .int .i64 x504.now.kind, .int .i64 x504.now.at_, .int .i64 x504.now.n, .string (bs x504.now.text), v508, v509, v510] 88, .blk b16 [.pointer (some ⟨b1, 0, none⟩)] 84, .blk b19 [.int .i64 p1] 3] := H.back [5, 6, 7, 8, 2, 3] [0, 1] rfl G515
  refine ⟨_, rfl, ?_⟩
  obtain ⟨a516, c517, q518⟩ : ∃ a c, v506 = .slice a _ c := Sr.len (Sr.of_own (H.item (i := 3) rfl))
  refine zA rfl rfl (xM (cs := [.int .i64 12, .string (bs []), .string (bs []), .int .i64 0, .int .i64 0, .int .i64 x492, v506]) (by rw [q518]; exact bt54_0_5_6 _ _ a516 _ c517)) ?_
  refine yV rfl (yN (vs := [.int .i64 12, .string (bs []), .string (bs []), .int .i64 0, .int .i64 0, .int .i64 x492, v506]) H 2 rfl sz54 rfl rfl rfl ⟨rfl, rfl, rfl, rfl, rfl, rfl, (own_one (H.item (i := 3) rfl)), trivial⟩ rfl) ?_
  rintro w519 H
  refine (zJ (zB (hK491 _ _ ?_)))
  have H := H.freeze (i := 3) rfl
  have hR := Option.some.inj hF
  subst hR
  refine (yG (yJ (yC (postc  rfl rfl (yL agg54 sz54 rfl (Blk.cells (H.item (i := 2) rfl))) ?_))))
  exact ⟨v506, v508, v509, v510, rfl, H.pick [3, 4, 5, 6, 7] (by decide)⟩
 have hF := zW c490 hF
 refine zD fun K520 hK520 => ?_
 refine zC ?_
 obtain ⟨x521, e522, hF⟩ := zF hF
 refine zA rfl rfl (zM (xU (s1 := p0.now.text) (s2 := [99, 111, 117, 110, 116]) rfl rfl) (congrArg Value.bool e522)) ?_
 refine zA rfl rfl (zG (v := .bool x521) rfl) ?_
 refine (zJ (zB (hK520 _ _ ?_)))
 refine yH (b := x521) rfl (fun c523 => ?_) (fun c523 => ?_)
 ·have hF := zV c523 hF
  refine zD fun K524 hK524 => ?_
  refine zC ?_
  refine zA rfl rfl (zL one84 rfl (Cells.get (Blk.cells (H.item (i := 2) rfl)) (i := 0) rfl)) ?_
  obtain ⟨⟨x525, x526⟩, e527, hF⟩ := zI hF
  refine yA rfl rfl (zX en181 rfl) (F_event_reader_number_w x120 b1 v122 v123 v124 _ e527 _ _ _ (H.enter [5, 6, 7, 8] [1] (by decide) rfl)) ?_
  rintro _ w534 ⟨v528, v529, v530, rfl, G535⟩
  have H : Hd O _ w534 _ [.fz (.at 0 0 ((Fl.arr 7 Fl.str).f zO)), .fz (.gi 4), .blk b16 [.pointer (some ⟨b1, 0, none⟩)] 84, .blk b19 [.int .i64 p1] 3, .blk b22 [.int .i64 0, .string (bs []), .string (bs []), .int .i64 0, .int .i64 0, .int .i64 0, .slice none 0 0] 54, .own Rp.str v528 9 x526.r.Phases, .own rMoveT v529 102 x526.r.Moves, .own rRule v530 106 x526.r.Rules, .blk b1 [.string (bs x526.text), .int .i64 x526.at_, .int .i64 x526.now.kind, .int .i64 x526.now.at_, .int .i64 x526.now.n, .string (bs x526.now.text), v528, v529, v530] 88] := H.back [5, 6, 7, 8] [1] rfl G535
  refine ⟨_, rfl, ?_⟩
  refine zA rfl rfl (xM (cs := [.int .i64 13, .string (bs []), .string (bs []), .int .i64 0, .int .i64 x525, .int .i64 0, .slice none 0 0]) (bt54_0_4 _ _)) ?_
  refine yY rfl rfl (xJ zero54 H) ?_
  rintro _ w538 ⟨b536, rfl, H⟩
  refine yV rfl (yN (vs := [.int .i64 13, .string (bs []), .string (bs []), .int .i64 0, .int .i64 x525, .int .i64 0, .slice none 0 0]) H 9 rfl sz54 rfl rfl rfl ⟨rfl, rfl, rfl, rfl, rfl, rfl, rfl, trivial⟩ rfl) ?_
  rintro w539 H
  refine (zJ (zB (hK524 _ _ ?_)))
  refine zD fun K540 hK540 => ?_
  refine zC ?_
  refine zA rfl rfl (zL one84 rfl (Cells.get (Blk.cells (H.item (i := 2) rfl)) (i := 0) rfl)) ?_
  obtain ⟨x541, e542, hF⟩ := zI hF
  refine yA rfl rfl (zX en90 rfl) (F_event_reader_must_w x526 [111, 102] b1 v528 v529 v530 _ e542 _ _ _ (H.enter [5, 6, 7, 8] [1] (by decide) rfl)) ?_
  rintro _ w549 ⟨v543, v544, v545, rfl, G550⟩
  have H : Hd O _ w549 _ [.fz (.at 0 0 ((Fl.arr 7 Fl.str).f zO)), .fz (.gi 4), .blk b16 [.pointer (some ⟨b1, 0, none⟩)] 84, .blk b19 [.int .i64 p1] 3, .blk b22 [.int .i64 0, .string (bs []), .string (bs []), .int .i64 0, .int .i64 0, .int .i64 0, .slice none 0 0] 54, .blk b536 [.int .i64 13, .string (bs []), .string (bs []), .int .i64 0, .int .i64 x525, .int .i64 0, .slice none 0 0] 54, .own Rp.str v543 9 x541.r.Phases, .own rMoveT v544 102 x541.r.Moves, .own rRule v545 106 x541.r.Rules, .blk b1 [.string (bs x541.text), .int .i64 x541.at_, .int .i64 x541.now.kind, .int .i64 x541.now.at_, .int .i64 x541.now.n, .string (bs x541.now.text), v543, v544, v545] 88] := H.back [5, 6, 7, 8] [1] rfl G550
  refine ⟨_, rfl, ?_⟩
  refine (zJ (zB (hK540 _ _ ?_)))
  refine zD fun K551 hK551 => ?_
  refine zC ?_
  refine zA rfl rfl (zL one84 rfl (Cells.get (Blk.cells (H.item (i := 2) rfl)) (i := 0) rfl)) ?_
  obtain ⟨⟨x552, x553⟩, e554, hF⟩ := zI hF
  refine yA rfl rfl (zX en181 rfl) (F_event_reader_number_w x541 b1 v543 v544 v545 _ e554 _ _ _ (H.enter [6, 7, 8, 9] [1] (by decide) rfl)) ?_
  rintro _ w561 ⟨v555, v556, v557, rfl, G562⟩
  have H : Hd O _ w561 _ [.fz (.at 0 0 ((Fl.arr 7 Fl.str).f zO)), .fz (.gi 4), .blk b16 [.pointer (some ⟨b1, 0, none⟩)] 84, .blk b19 [.int .i64 p1] 3, .blk b22 [.int .i64 0, .string (bs []), .string (bs []), .int .i64 0, .int .i64 0, .int .i64 0, .slice none 0 0] 54, .blk b536 [.int .i64 13, .string (bs []), .string (bs []), .int .i64 0, .int .i64 x525, .int .i64 0, .slice none 0 0] 54, .own Rp.str v555 9 x553.r.Phases, .own rMoveT v556 102 x553.r.Moves, .own rRule v557 106 x553.r.Rules, .blk b1 [.string (bs x553.text), .int .i64 x553.at_, .int .i64 x553.now.kind, .int .i64 x553.now.at_, .int .i64 x553.now.n, .string (bs x553.now.text), v555, v556, v557] 88] := H.back [6, 7, 8, 9] [1] rfl G562
  refine ⟨_, rfl, ?_⟩
  refine zA rfl rfl (zK (v := .func (.func 180) #[] #[.pointer (some ⟨b16, 0, none⟩), .pointer (some ⟨b19, 0, none⟩)]) rfl) ?_
  obtain ⟨⟨x563, x564⟩, e565, hF⟩ := zI hF
  refine yA rfl rfl (wH en180 rfl rfl) (F_event_reader_part_1_pdd_w rfA rhA 1 x553 p1 b16 b1 v555 v556 v557 b19 _ e565 _ _ _ (H.enter [6, 7, 8, 9, 2, 3] [0, 1] (by decide) rfl)) ?_
  rintro _ w574 ⟨v566, v568, v569, v570, rfl, G575⟩
  have H : Hd O _ w574 _ [.fz (.at 0 0 ((Fl.arr 7 Fl.str).f zO)), .fz (.gi 4), .blk b22 [.int .i64 0, .string (bs []), .string (bs []), .int .i64 0, .int .i64 0, .int .i64 0, .slice none 0 0] 54, .blk b536 [.int .i64 13, .string (bs []), .string (bs []), .int .i64 0, .int .i64 x525, .int .i64 0, .slice none 0 0] 54, .own rCond v566 54 x563, .own Rp.str v568 9 x564.r.Phases, .own rMoveT v569 102 x564.r.Moves, .own rRule v570 106 x564.r.Rules, .blk b1 [.string (bs x564.text), .int .i64 x564.at_, .int .i64 x564.now.kind, .int .i64 x564.now.at_, .int .i64 x564.now.n, .string (bs x564.now.text), v568, v569, v570] 88, .blk b16 [.pointer (some ⟨b1, 0, none⟩)] 84, .blk b19 [.int .i64 p1] 3] := H.back [6, 7, 8, 9, 2, 3] [0, 1] rfl G575
  refine ⟨_, rfl, ?_⟩
  refine zA rfl rfl (fa54_5 rfl) ?_
  refine yV rfl (xX H 3 rfl sz3 rfl (v := .int .i64 x552) rfl rfl rfl) ?_
  rintro w576 H
  refine zA rfl rfl (wB rfl) ?_
  refine yV rfl (xX H 3 rfl sz52 rfl (v := v566) rfl (own_one (H.item (i := 4) rfl)) rfl) ?_
  rintro w577 H
  refine (zJ (zB (hK551 _ _ ?_)))
  refine zD fun K578 hK578 => ?_
  refine zC ?_
  refine zA rfl rfl (zM (yT (cs := [.int .i64 13, .string (bs []), .string (bs []), .int .i64 0, .int .i64 x525, .int .i64 x552, v566]) agg54 rfl sz54 rfl (Blk.cells (H.item (i := 3) rfl))) rfl) ?_
  refine yV rfl (yN (vs := [.int .i64 13, .string (bs []), .string (bs []), .int .i64 0, .int .i64 x525, .int .i64 x552, v566]) H 2 rfl sz54 rfl rfl rfl ⟨rfl, rfl, rfl, rfl, rfl, rfl, (own_one (H.item (i := 4) rfl)), trivial⟩ rfl) ?_
  rintro w579 H
  refine (zJ (zB (hK578 _ _ ?_)))
  have H := H.freeze (i := 4) rfl
  have hR := Option.some.inj hF
  subst hR
  refine (yG (yJ (yC (postc  rfl rfl (yL agg54 sz54 rfl (Blk.cells (H.item (i := 2) rfl))) ?_))))
  exact ⟨v566, v568, v569, v570, rfl, H.pick [4, 5, 6, 7, 8] (by decide)⟩
 have hF := zW c523 hF
 refine zD fun K580 hK580 => ?_
 refine zC ?_
 obtain ⟨x581, e582, hF⟩ := zF hF
 refine zA rfl rfl (zM (xU (s1 := p0.now.text) (s2 := [114, 105, 115, 101, 115]) rfl rfl) (congrArg Value.bool e582)) ?_
 refine zA rfl rfl (zG (v := .bool x581) rfl) ?_
 refine (zJ (zB (hK580 _ _ ?_)))
 refine yH (b := x581) rfl (fun c583 => ?_) (fun c583 => ?_)
 ·have hF := zV c583 hF
  refine zD fun K584 hK584 => ?_
  refine zC ?_
  refine zA rfl rfl (zK (v := .func (.func 180) #[] #[.pointer (some ⟨b16, 0, none⟩), .pointer (some ⟨b19, 0, none⟩)]) rfl) ?_
  obtain ⟨⟨x585, x586⟩, e587, hF⟩ := zI hF
  refine yA rfl rfl (wH en180 rfl rfl) (F_event_reader_part_1_pdd_w rfA rhA 1 x120 p1 b16 b1 v122 v123 v124 b19 _ e587 _ _ _ (H.enter [5, 6, 7, 8, 2, 3] [0, 1] (by decide) rfl)) ?_
  rintro _ w596 ⟨v588, v590, v591, v592, rfl, G597⟩
  have H : Hd O _ w596 _ [.fz (.at 0 0 ((Fl.arr 7 Fl.str).f zO)), .fz (.gi 4), .blk b22 [.int .i64 0, .string (bs []), .string (bs []), .int .i64 0, .int .i64 0, .int .i64 0, .slice none 0 0] 54, .own rCond v588 54 x585, .own Rp.str v590 9 x586.r.Phases, .own rMoveT v591 102 x586.r.Moves, .own rRule v592 106 x586.r.Rules, .blk b1 [.string (bs x586.text), .int .i64 x586.at_, .int .i64 x586.now.kind, .int .i64 x586.now.at_, .int .i64 x586.now.n, .string (bs x586.now.text), v590, v591, v592] 88, .blk b16 [.pointer (some ⟨b1, 0, none⟩)] 84, .blk b19 [.int .i64 p1] 3] := H.back [5, 6, 7, 8, 2, 3] [0, 1] rfl G597
  refine ⟨_, rfl, ?_⟩
  obtain ⟨a598, c599, q600⟩ : ∃ a c, v588 = .slice a _ c := Sr.len (Sr.of_own (H.item (i := 3) rfl))
  refine zA rfl rfl (xM (cs := [.int .i64 15, .string (bs []), .string (bs []), .int .i64 0, .int .i64 0, .int .i64 0, v588]) (by rw [q600]; exact bt54_0_6 _ a598 _ c599)) ?_
  refine yV rfl (yN (vs := [.int .i64 15, .string (bs []), .string (bs []), .int .i64 0, .int .i64 0, .int .i64 0, v588]) H 2 rfl sz54 rfl rfl rfl ⟨rfl, rfl, rfl, rfl, rfl, rfl, (own_one (H.item (i := 3) rfl)), trivial⟩ rfl) ?_
  rintro w601 H
  refine (zJ (zB (hK584 _ _ ?_)))
  have H := H.freeze (i := 3) rfl
  have hR := Option.some.inj hF
  subst hR
  refine (yG (yJ (yC (postc  rfl rfl (yL agg54 sz54 rfl (Blk.cells (H.item (i := 2) rfl))) ?_))))
  exact ⟨v588, v590, v591, v592, rfl, H.pick [3, 4, 5, 6, 7] (by decide)⟩
 have hF := zW c583 hF
 refine zD fun K602 hK602 => ?_
 refine zC ?_
 obtain ⟨x603, e604, hF⟩ := zF hF
 refine zA rfl rfl (zM (xU (s1 := p0.now.text) (s2 := [115, 105, 110, 99, 101]) rfl rfl) (congrArg Value.bool e604)) ?_
 refine zA rfl rfl (zG (v := .bool x603) rfl) ?_
 refine (zJ (zB (hK602 _ _ ?_)))
 refine yH (b := x603) rfl (fun c605 => ?_) (fun c605 => ?_)
 ·have hF := zV c605 hF
  refine zD fun K606 hK606 => ?_
  refine zC ?_
  refine zA rfl rfl (zK (v := .func (.func 180) #[] #[.pointer (some ⟨b16, 0, none⟩), .pointer (some ⟨b19, 0, none⟩)]) rfl) ?_
  obtain ⟨⟨x607, x608⟩, e609, hF⟩ := zI hF
  refine yA rfl rfl (wH en180 rfl rfl) (F_event_reader_part_1_pdd_w rfA rhA 2 x120 p1 b16 b1 v122 v123 v124 b19 _ e609 _ _ _ (H.enter [5, 6, 7, 8, 2, 3] [0, 1] (by decide) rfl)) ?_
  rintro _ w618 ⟨v610, v612, v613, v614, rfl, G619⟩
  have H : Hd O _ w618 _ [.fz (.at 0 0 ((Fl.arr 7 Fl.str).f zO)), .fz (.gi 4), .blk b22 [.int .i64 0, .string (bs []), .string (bs []), .int .i64 0, .int .i64 0, .int .i64 0, .slice none 0 0] 54, .own rCond v610 54 x607, .own Rp.str v612 9 x608.r.Phases, .own rMoveT v613 102 x608.r.Moves, .own rRule v614 106 x608.r.Rules, .blk b1 [.string (bs x608.text), .int .i64 x608.at_, .int .i64 x608.now.kind, .int .i64 x608.now.at_, .int .i64 x608.now.n, .string (bs x608.now.text), v612, v613, v614] 88, .blk b16 [.pointer (some ⟨b1, 0, none⟩)] 84, .blk b19 [.int .i64 p1] 3] := H.back [5, 6, 7, 8, 2, 3] [0, 1] rfl G619
  refine ⟨_, rfl, ?_⟩
  obtain ⟨a620, c621, q622⟩ : ∃ a c, v610 = .slice a _ c := Sr.len (Sr.of_own (H.item (i := 3) rfl))
  refine zA rfl rfl (xM (cs := [.int .i64 14, .string (bs []), .string (bs []), .int .i64 0, .int .i64 0, .int .i64 0, v610]) (by rw [q622]; exact bt54_0_6 _ a620 _ c621)) ?_
  refine yV rfl (yN (vs := [.int .i64 14, .string (bs []), .string (bs []), .int .i64 0, .int .i64 0, .int .i64 0, v610]) H 2 rfl sz54 rfl rfl rfl ⟨rfl, rfl, rfl, rfl, rfl, rfl, (own_one (H.item (i := 3) rfl)), trivial⟩ rfl) ?_
  rintro w623 H
  refine (zJ (zB (hK606 _ _ ?_)))
  have H := H.freeze (i := 3) rfl
  have hR := Option.some.inj hF
  subst hR
  refine (yG (yJ (yC (postc  rfl rfl (yL agg54 sz54 rfl (Blk.cells (H.item (i := 2) rfl))) ?_))))
  exact ⟨v610, v612, v613, v614, rfl, H.pick [3, 4, 5, 6, 7] (by decide)⟩
 have hF := zW c605 hF
 refine (yI (yX (zB (hK375 _ _ ?_))))
 refine zD fun K624 hK624 => ?_
 refine zC ?_
 refine zA rfl rfl (zL one84 rfl (Cells.get (Blk.cells (H.item (i := 2) rfl)) (i := 0) rfl)) ?_
 refine zA rfl rfl (zL one3 rfl (Cells.get (Blk.cells (H.item (i := 3) rfl)) (i := 0) rfl)) ?_
 obtain ⟨x625, e626, hF⟩ := zF hF
 refine zA rfl rfl (wE (a := p1) (b := 1) rfl rfl e626) ?_
 obtain ⟨⟨x627, x628⟩, e629, hF⟩ := zI hF
 refine yA rfl rfl (zX en91 rfl) (rhB x120 x625 b1 v122 v123 v124 _ e629 _ _ _ (H.enter [5, 6, 7, 8] [0, 1] (by decide) rfl)) ?_
 rintro _ w638 ⟨v630, v632, v633, v634, rfl, G639⟩
 have H : Hd O _ w638 _ [.fz (.at 0 0 ((Fl.arr 7 Fl.str).f zO)), .fz (.gi 4), .blk b16 [.pointer (some ⟨b1, 0, none⟩)] 84, .blk b19 [.int .i64 p1] 3, .blk b22 [.int .i64 0, .string (bs []), .string (bs []), .int .i64 0, .int .i64 0, .int .i64 0, .slice none 0 0] 54, .fz (.sl rCond v630 x627.Kids), .own Rp.str v632 9 x628.r.Phases, .own rMoveT v633 102 x628.r.Moves, .own rRule v634 106 x628.r.Rules, .blk b1 [.string (bs x628.text), .int .i64 x628.at_, .int .i64 x628.now.kind, .int .i64 x628.now.at_, .int .i64 x628.now.n, .string (bs x628.now.text), v632, v633, v634] 88] := H.back [5, 6, 7, 8] [0, 1] rfl G639
 refine ⟨_, rfl, ?_⟩
 refine yY rfl rfl (xJ zero54 H) ?_
 rintro _ w642 ⟨b640, rfl, H⟩
 refine yV rfl (yN (vs := [.int .i64 x627.Kind, .string (bs x627.Name), .string (bs x627.Other), .int .i64 x627.Op, .int .i64 x627.N, .int .i64 x627.Frames, v630]) H 10 rfl sz54 rfl rfl rfl ⟨rfl, rfl, rfl, rfl, rfl, rfl, (slf_one (H.item (i := 5) rfl)), trivial⟩ rfl) ?_
 rintro w643 H
 refine (zJ (zB (hK624 _ _ ?_)))
 refine zD fun K644 hK644 => ?_
 refine zC ?_
 refine zA rfl rfl (zL one84 rfl (Cells.get (Blk.cells (H.item (i := 2) rfl)) (i := 0) rfl)) ?_
 obtain ⟨x645, e646, hF⟩ := zI hF
 refine yA rfl rfl (zX en90 rfl) (F_event_reader_must_w x628 [41] b1 v632 v633 v634 _ e646 _ _ _ (H.enter [6, 7, 8, 9] [1] (by decide) rfl)) ?_
 rintro _ w653 ⟨v647, v648, v649, rfl, G654⟩
 have H : Hd O _ w653 _ [.fz (.at 0 0 ((Fl.arr 7 Fl.str).f zO)), .fz (.gi 4), .blk b16 [.pointer (some ⟨b1, 0, none⟩)] 84, .blk b19 [.int .i64 p1] 3, .blk b22 [.int .i64 0, .string (bs []), .string (bs []), .int .i64 0, .int .i64 0, .int .i64 0, .slice none 0 0] 54, .fz (.sl rCond v630 x627.Kids), .blk b640 [.int .i64 x627.Kind, .string (bs x627.Name), .string (bs x627.Other), .int .i64 x627.Op, .int .i64 x627.N, .int .i64 x627.Frames, v630] 54, .own Rp.str v647 9 x645.r.Phases, .own rMoveT v648 102 x645.r.Moves, .own rRule v649 106 x645.r.Rules, .blk b1 [.string (bs x645.text), .int .i64 x645.at_, .int .i64 x645.now.kind, .int .i64 x645.now.at_, .int .i64 x645.now.n, .string (bs x645.now.text), v647, v648, v649] 88] := H.back [6, 7, 8, 9] [1] rfl G654
 refine ⟨_, rfl, ?_⟩
 refine (zJ (zB (hK644 _ _ ?_)))
 refine zD fun K655 hK655 => ?_
 refine zC ?_
 refine zA rfl rfl (zM (yT (cs := [.int .i64 x627.Kind, .string (bs x627.Name), .string (bs x627.Other), .int .i64 x627.Op, .int .i64 x627.N, .int .i64 x627.Frames, v630]) agg54 rfl sz54 rfl (Blk.cells (H.item (i := 6) rfl))) rfl) ?_
 refine yV rfl (yN (vs := [.int .i64 x627.Kind, .string (bs x627.Name), .string (bs x627.Other), .int .i64 x627.Op, .int .i64 x627.N, .int .i64 x627.Frames, v630]) H 4 rfl sz54 rfl rfl rfl ⟨rfl, rfl, rfl, rfl, rfl, rfl, (slf_one (H.item (i := 5) rfl)), trivial⟩ rfl) ?_
 rintro w656 H
 refine (zJ (zB (hK655 _ _ ?_)))
 have hR := Option.some.inj hF
 subst hR
 refine (yG (postc  rfl rfl (yL agg54 sz54 rfl (Blk.cells (H.item (i := 4) rfl))) ?_))
 exact ⟨v630, v647, v648, v649, rfl, H.pick [5, 7, 8, 9, 10] (by decide)⟩
theorem F_event_reader_part_s (rfB : EventReader → Int → Option (Cond × EventReader)) (rhB : S_event_reader_cond rfB) : S_event_reader_part (F_event_reader_part rfB) := by
 have h : ∀ n, S_event_reader_part (F_event_reader_part_R rfB n) := by
  intro n
  induction n with
  | zero => intro p0 p1 b1 v2 v3 v4 r hF; cases hF
  | succ n ih => intro p0 p1 b1 v2 v3 v4 r hF; exact F_event_reader_part_B_w rfB rhB (F_event_reader_part_R rfB n) ih p0 p1 b1 v2 v3 v4 r hF
 exact h FU
end Go.Proofs.YtnajnkghilemhaaGreatDoor.L
namespace Go.Proofs.YtnajnkghilemhaaGreatDoor.L
open Go.RowKit Go.OB Go.Lf
/- (*orangebox/event.reader).cond$1$1~pdd -/
set_option maxHeartbeats 4000000 in
theorem F_event_reader_cond_1_1_pdd_w (rfB : EventReader → Int → Option (Cond × EventReader)) (rhB : S_event_reader_cond rfB) (c0p : EventReader) (c1 : Int) (b1 : Nat) (b3 : Nat) (v4 : Value) (v5 : Value) (v6 : Value) (b11 : Nat) (r : Cond × EventReader) (hF : F_event_reader_cond_1_1_pdd rfB c0p c1 = some r) (O S : List Nat) (w : World) (H : Hd O w w S [.own Rp.str v4 9 c0p.r.Phases, .own rMoveT v5 102 c0p.r.Moves, .own rRule v6 106 c0p.r.Rules, .blk b3 [.string (bs c0p.text), .int .i64 c0p.at_, .int .i64 c0p.now.kind, .int .i64 c0p.now.at_, .int .i64 c0p.now.n, .string (bs c0p.now.text), v4, v5, v6] 88, .blk b1 [.pointer (some ⟨b3, 0, none⟩)] 84, .blk b11 [.int .i64 c1] 3, .fz (.at 0 0 ((Fl.arr 7 Fl.str).f zO)), .fz (.gi 4)]) :
  Calls Tryz.prog 143 ([.pointer (some ⟨b1, 0, none⟩), .pointer (some ⟨b11, 0, none⟩)] : List Value).toArray w fun e w' => ∃ u15 u16 u17 u18, e = .returned (.agg [.int .i64 r.1.Kind, .string (bs r.1.Name), .string (bs r.1.Other), .int .i64 r.1.Op, .int .i64 r.1.N, .int .i64 r.1.Frames, u15].toArray) ∧ Hd O w w' S [.fz (.sl rCond u15 r.1.Kids), .own Rp.str u16 9 r.2.r.Phases, .own rMoveT u17 102 r.2.r.Moves, .own rRule u18 106 r.2.r.Rules, .blk b3 [.string (bs r.2.text), .int .i64 r.2.at_, .int .i64 r.2.now.kind, .int .i64 r.2.now.at_, .int .i64 r.2.now.n, .string (bs r.2.now.text), u16, u17, u18] 88, .blk b1 [.pointer (some ⟨b3, 0, none⟩)] 84, .blk b11 [.int .i64 c1] 3] := by
 unfold F_event_reader_cond_1_1_pdd at hF
 refine yD 6 Tryz.func143 rfl rfl rfl ?_
 refine zD fun K19 hK19 => ?_
 refine zC ?_
 refine yY rfl rfl (xJ zero54 H) ?_
 rintro _ w22 ⟨b20, rfl, H⟩
 refine (zJ (zB (hK19 _ _ ?_)))
 refine zD fun K23 hK23 => ?_
 refine zC ?_
 refine zA rfl rfl (zL one84 rfl (Cells.get (Blk.cells (H.item (i := 4) rfl)) (i := 0) rfl)) ?_
 refine zA rfl rfl (zL one3 rfl (Cells.get (Blk.cells (H.item (i := 5) rfl)) (i := 0) rfl)) ?_
 obtain ⟨⟨x24, x25⟩, e26, hF⟩ := zI hF
 refine yA rfl rfl (zX en144 rfl) (F_event_reader_part_s rfB rhB c0p c1 b3 v4 v5 v6 _ e26 _ _ _ (H.enter [0, 1, 2, 3] [6, 7] (by decide) rfl)) ?_
 rintro _ w35 ⟨v27, v29, v30, v31, rfl, G36⟩
 have H : Hd O _ w35 _ [.blk b1 [.pointer (some ⟨b3, 0, none⟩)] 84, .blk b11 [.int .i64 c1] 3, .fz (.at 0 0 ((Fl.arr 7 Fl.str).f zO)), .fz (.gi 4), .blk b20 [.int .i64 0, .string (bs []), .string (bs []), .int .i64 0, .int .i64 0, .int .i64 0, .slice none 0 0] 54, .fz (.sl rCond v27 x24.Kids), .own Rp.str v29 9 x25.r.Phases, .own rMoveT v30 102 x25.r.Moves, .own rRule v31 106 x25.r.Rules, .blk b3 [.string (bs x25.text), .int .i64 x25.at_, .int .i64 x25.now.kind, .int .i64 x25.now.at_, .int .i64 x25.now.n, .string (bs x25.now.text), v29, v30, v31] 88] := H.back [0, 1, 2, 3] [6, 7] rfl G36
 refine ⟨_, rfl, ?_⟩
 refine yV rfl (yN (vs := [.int .i64 x24.Kind, .string (bs x24.Name), .string (bs x24.Other), .int .i64 x24.Op, .int .i64 x24.N, .int .i64 x24.Frames, v27]) H 4 rfl sz54 rfl rfl rfl ⟨rfl, rfl, rfl, rfl, rfl, rfl, (slf_one (H.item (i := 5) rfl)), trivial⟩ rfl) ?_
 rintro w37 H
 refine (zJ (zB (hK23 _ _ ?_)))
 have hR := Option.some.inj hF
 subst hR
 refine (yG (postc  rfl rfl (yL agg54 sz54 rfl (Blk.cells (H.item (i := 4) rfl))) ?_))
 exact ⟨v27, v29, v30, v31, rfl, H.pick [5, 6, 7, 8, 9, 0, 1] (by decide)⟩
end Go.Proofs.YtnajnkghilemhaaGreatDoor.L
