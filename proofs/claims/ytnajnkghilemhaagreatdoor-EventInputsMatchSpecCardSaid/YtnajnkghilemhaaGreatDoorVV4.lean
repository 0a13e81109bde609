/- Walks: what each function computes, for every argument; no condition but those that stand in the statements. -/
import Derived.Test.YtnajnkghilemhaaGreatDoorVV0
import Derived.Test.YtnajnkghilemhaaGreatDoorVV3
namespace Go.Proofs.YtnajnkghilemhaaGreatDoor.L
open Go.RowKit Go.OB Go.Lf
/- (*orangebox/event.reader).run -/
set_option maxHeartbeats 4000000 in
set_option maxRecDepth 100000 in
theorem F_event_reader_run_w (p0 : EventReader) (b1 : Nat) (v2 : Value) (v3 : Value) (v4 : Value) (r : EventReader) (hF : F_event_reader_run p0 = some r) (O S : List Nat) (w : World) (H : Hd O w w S [.own Rp.str v2 9 p0.r.Phases, .own rMoveT v3 102 p0.r.Moves, .own rRule v4 106 p0.r.Rules, .blk b1 [.string (bs p0.text), .int .i64 p0.at_, .int .i64 p0.now.kind, .int .i64 p0.now.at_, .int .i64 p0.now.n, .string (bs p0.now.text), v2, v3, v4] 88, .fz (.gi 4)]) :
  Calls Tryz.prog 138 ([.pointer (some ⟨b1, 0, none⟩)] : List Value).toArray w fun e w' => ∃ u10 u11 u12, e = .returned (.tuple #[]) ∧ Hd O w w' S [.own Rp.str u10 9 r.r.Phases, .own rMoveT u11 102 r.r.Moves, .own rRule u12 106 r.r.Rules, .blk b1 [.string (bs r.text), .int .i64 r.at_, .int .i64 r.now.kind, .int .i64 r.now.at_, .int .i64 r.now.n, .string (bs r.now.text), u10, u11, u12] 88] := by
 unfold F_event_reader_run at hF
 refine yD 55 Tryz.func138 rfl rfl rfl ?_
 refine zD fun K13 hK13 => ?_
 refine zC ?_
 refine zA rfl rfl (zK (v := .pointer (some ⟨b1, 0, none⟩)) rfl) ?_
 refine zA rfl rfl (yK rfl) ?_
 refine zA rfl rfl (fa88_2 rfl) ?_
 refine zA rfl rfl (fa86_3 rfl) ?_
 refine zA rfl rfl (zL one9 rfl (Cells.get (Blk.cells (H.item (i := 3) rfl)) (i := 5) rfl)) ?_
 refine zA rfl rfl (zG (v := .string (bs p0.now.text)) rfl) ?_
 refine (zJ (zB (hK13 _ _ ?_)))
 refine zD fun K14 hK14 => ?_
 refine zC ?_
 refine zA rfl rfl (zK (v := .string (bs p0.now.text)) rfl) ?_
 obtain ⟨⟨x15, x16⟩, e17, hF⟩ := zI hF
 refine yA rfl rfl (zX en175 rfl) (E.X_Atoi_w p0.now.text _ e17 _ _ _ (H.enter [] [4] (by decide) rfl)) ?_
 rintro _ w20 ⟨v18, rfl, G21⟩
 have H := H.back1 [4] rfl G21
 refine ⟨_, rfl, ?_⟩
 refine zA rfl rfl (zK (v := .tuple #[.int .i64 x15, v18]) rfl) ?_
 refine zA rfl rfl (xQ (v := .int .i64 x15) rfl rfl) ?_
 refine zA rfl rfl (xQ (v := v18) rfl rfl) ?_
 refine zA rfl rfl (zG (v := .int .i64 x15) rfl) ?_
 refine zA rfl rfl (zG (v := v18) rfl) ?_
 refine (zJ (zB (hK14 _ _ ?_)))
 refine yM ?_
 refine zD fun K22 hK22 => ?_
 refine zC ?_
 refine zA rfl rfl (zK (v := .string (bs p0.now.text)) rfl) ?_
 have H23 := H
 obtain ⟨x24, e25, hF⟩ := zI hF
 refine yA rfl rfl (zX en119 rfl) (F_event_isWord_w p0.now.text _ e25 _ _ _ (H.enter [] [] (by decide) rfl)) ?_
 rintro _ w26 ⟨rfl, G27⟩
 have H := H23.step (G27.only : Only [] _ _)
 refine ⟨_, rfl, ?_⟩
 refine zA rfl rfl (zG (v := .bool x24) rfl) ?_
 refine (zJ (zB (hK22 _ _ ?_)))
 refine yH (b := x24) rfl (fun c28 => ?_) (fun c28 => ?_)
 ·have hF := zV c28 hF
  refine zC ?_
  refine zA rfl rfl (zK (v := .pointer (some ⟨b1, 0, none⟩)) rfl) ?_
  refine zA rfl rfl (yK rfl) ?_
  refine zA rfl rfl (fa88_2 rfl) ?_
  refine zA rfl rfl (fa86_0 rfl) ?_
  refine yV rfl (xX H 3 rfl sz3 rfl (v := .int .i64 1) rfl rfl rfl) ?_
  rintro w29 H
  have hR := Option.some.inj hF
  subst hR
  refine (zJ (yX (post0n rfl ?_)))
  exact ⟨v2, v3, v4, rfl, H.pick [0, 1, 2, 3] (by decide)⟩
 have hF := zW c28 hF
 refine zD fun K30 hK30 => ?_
 refine zC ?_
 refine zA rfl rfl (zK (v := .string (bs p0.now.text)) rfl) ?_
 have H31 := H
 obtain ⟨x32, e33, hF⟩ := zI hF
 refine yA rfl rfl (zX en68 rfl) (F_event_isName_w p0.now.text _ e33 _ _ _ (H.enter [] [] (by decide) rfl)) ?_
 rintro _ w34 ⟨rfl, G35⟩
 have H := H31.step (G35.only : Only [] _ _)
 refine ⟨_, rfl, ?_⟩
 refine zA rfl rfl (zG (v := .bool x32) rfl) ?_
 refine (zJ (zB (hK30 _ _ ?_)))
 refine yH (b := x32) rfl (fun c36 => ?_) (fun c36 => ?_)
 ·have hF := zV c36 hF
  refine zC ?_
  refine zA rfl rfl (zK (v := .pointer (some ⟨b1, 0, none⟩)) rfl) ?_
  refine zA rfl rfl (yK rfl) ?_
  refine zA rfl rfl (fa88_2 rfl) ?_
  refine zA rfl rfl (fa86_0 rfl) ?_
  refine yV rfl (xX H 3 rfl sz3 rfl (v := .int .i64 2) rfl rfl rfl) ?_
  rintro w37 H
  have hR := Option.some.inj hF
  subst hR
  refine (zJ (yX (post0n rfl ?_)))
  exact ⟨v2, v3, v4, rfl, H.pick [0, 1, 2, 3] (by decide)⟩
 have hF := zW c36 hF
 obtain ⟨g58, hF, hK60⟩ := zI hF
 refine yQ [31, 32, 33, 34, 35, 36, 37, 38, 39, 40, 41, 42, 43, 44, 45] (fun (g : Unit) => [(31, .bool g58)]) (fun g wl => Hd O w wl S [.own Rp.str v2 9 p0.r.Phases, .own rMoveT v3 102 p0.r.Moves, .own rRule v4 106 p0.r.Rules, .blk b1 [.string (bs p0.text), .int .i64 p0.at_, .int .i64 p0.now.kind, .int .i64 p0.now.at_, .int .i64 p0.now.n, .string (bs p0.now.text), v2, v3, v4] 88, .fz (.gi 4)]) ?_ ?_
 ·skip
  refine zC ?_
  refine zA rfl rfl (zK (v := v18) rfl) ?_
  obtain ⟨x61, e62, hF⟩ := zF hF
  refine zA rfl rfl (zM (Do_eqlif ui113 (H.item (i := 5) rfl) rfl) (congrArg Value.bool e62)) ?_
  refine yE (b := x61) rfl rfl rfl (fun c63 => ?_) (fun c63 => ?_)
  ·have hF := zV c63 hF
   refine zA rfl rfl (zK (v := .int .i64 x15) rfl) ?_
   have H64 := H
   obtain ⟨x65, e66, hF⟩ := zI hF
   refine yA rfl rfl (zX en102 rfl) (E.X_Itoa_w x15 _ e66 _ _ _ (H.enter [] [] (by decide) rfl)) ?_
   rintro _ w67 ⟨rfl, G68⟩
   have H := H64.step (G68.only : Only [] _ _)
   refine ⟨_, rfl, ?_⟩
   refine zA rfl rfl (zK (v := .string (bs p0.now.text)) rfl) ?_
   obtain ⟨x69, e70, hF⟩ := zF hF
   refine zA rfl rfl (zM (xU (s1 := x65) (s2 := p0.now.text) rfl rfl) (congrArg Value.bool e70)) ?_
   refine zA rfl rfl (zY (v := .bool x69) rfl rfl) ?_
   refine yE (b := x69) rfl rfl rfl (fun c71 => ?_) (fun c71 => ?_)
   ·have hF := zV c71 hF
    refine zA rfl rfl (zK (v := .string (bs p0.now.text)) rfl) ?_
    have H72 := H
    obtain ⟨x73, e74, hF⟩ := zI hF
    refine yA rfl rfl (zX en176 rfl) (F_strings_TrimPrefix_w p0.now.text [45] _ e74 _ _ _ (H.enter [] [] (by decide) rfl)) ?_
    rintro _ w75 ⟨rfl, G76⟩
    have H := H72.step (G76.only : Only [] _ _)
    refine ⟨_, rfl, ?_⟩
    obtain ⟨x77, e78, hF⟩ := zF hF
    refine zA rfl rfl (zM (Do_slen (s1 := x73) u9 rfl) (congrArg (Value.int .i64) e78)) ?_
    obtain ⟨x79, e80, hF⟩ := zF hF
    refine zA rfl rfl (zM (Do_leq (a := x77) (b := 16) rfl rfl) (congrArg Value.bool e80)) ?_
    refine zA rfl rfl (zY (v := .bool x79) rfl rfl) ?_
    refine zA rfl rfl (zG (v := .bool x79) rfl) ?_
    have hR := Option.some.inj hF
    subst hR
    refine (zJ (zB (And.intro ?_ ?_)))
    ·repeat' (first | with_reducible exact zS | refine zZ rfl ?_ | refine zT rfl rfl ?_)
    exact ⟨(), (zQ rfl zU), H.pick [0, 1, 2, 3, 4] (by decide)⟩
   have hF := zW c71 hF
   refine zH rfl rfl ?_
   refine zH rfl rfl ?_
   refine zH rfl rfl ?_
   refine zH rfl rfl ?_
   refine zA rfl rfl (zN (v := .bool false) rfl rfl) ?_
   refine zA rfl rfl (zG (v := .bool false) rfl) ?_
   have hR := Option.some.inj hF
   subst hR
   refine (zJ (zB (And.intro ?_ ?_)))
   ·repeat' (first | with_reducible exact zS | refine zZ rfl ?_ | refine zT rfl rfl ?_)
   exact ⟨(), (zQ rfl zU), H.pick [0, 1, 2, 3, 4] (by decide)⟩
  have hF := zW c63 hF
  refine zH rfl rfl ?_
  refine zH rfl rfl ?_
  refine zH rfl rfl ?_
  refine zH rfl rfl ?_
  refine zA rfl rfl (zN (v := .bool false) rfl rfl) ?_
  refine zA rfl rfl (zK (v := .bool false) rfl) ?_
  refine zH rfl rfl ?_
  refine zH rfl rfl ?_
  refine zH rfl rfl ?_
  refine zH rfl rfl ?_
  refine zA rfl rfl (zN (v := .bool false) rfl rfl) ?_
  refine zA rfl rfl (zG (v := .bool false) rfl) ?_
  have hR := Option.some.inj hF
  subst hR
  refine (zJ (zB (And.intro ?_ ?_)))
  ·repeat' (first | with_reducible exact zS | refine zZ rfl ?_ | refine zT rfl rfl ?_)
  exact ⟨(), (zQ rfl zU), H.pick [0, 1, 2, 3, 4] (by decide)⟩
 rintro _ ρ w59 H
 have hF := hK60
 refine yH (b := g58) rfl (fun c81 => ?_) (fun c81 => ?_)
 ·have hF := zV c81 hF
  refine zC ?_
  refine zA rfl rfl (zK (v := .pointer (some ⟨b1, 0, none⟩)) rfl) ?_
  refine zA rfl rfl (zK (v := .pointer (some ⟨b1, 0, none⟩)) rfl) ?_
  refine zA rfl rfl (zK (v := .int .i64 x15) rfl) ?_
  refine zA rfl rfl (yK rfl) ?_
  refine zA rfl rfl (fa88_2 rfl) ?_
  refine zA rfl rfl (fa86_0 rfl) ?_
  refine yV rfl (xX H 3 rfl sz3 rfl (v := .int .i64 3) rfl rfl rfl) ?_
  rintro w82 H
  refine zA rfl rfl (yK rfl) ?_
  refine zA rfl rfl (fa88_2 rfl) ?_
  refine zA rfl rfl (fa86_2 rfl) ?_
  refine yV rfl (xX H 3 rfl sz3 rfl (v := .int .i64 x15) rfl rfl rfl) ?_
  rintro w83 H
  have hR := Option.some.inj hF
  subst hR
  refine (zJ (yX (post0n rfl ?_)))
  exact ⟨v2, v3, v4, rfl, H.pick [0, 1, 2, 3] (by decide)⟩
 have hF := zW c81 hF
 refine zC ?_
 refine zA rfl rfl (zK (v := .pointer (some ⟨b1, 0, none⟩)) rfl) ?_
 have H84 := H
 have H := H.freezeB (i := 3) rfl
 have H := H.freeze (i := 0) rfl
 have H := H.freeze (i := 1) rfl
 have H := H.freeze (i := 2) rfl
 have H := H.fz (.pt rEventReader (some ⟨b1, 0, none⟩) (some p0)) ⟨_, _, _, rfl, (H.item (i := 3) rfl).1, (H.item (i := 3) rfl).2.1, (xP (x := p0) (H.item (i := 0) rfl) (H.item (i := 1) rfl) (H.item (i := 2) rfl)), (H.item (i := 3) rfl).2.2⟩
 obtain ⟨_, e86, hF⟩ := zI hF
 refine yA rfl rfl (zX en92 rfl) (F_event_reader_fail_w (some p0) 6 (some ⟨b1, 0, none⟩) _ e86 _ _ _ (H.enter [] [5] (by decide) rfl)) ?_
 rintro _ w87 ⟨rfl, G88⟩
 have H := H84.step (G88.only : Only [] _ _)
 refine ⟨_, rfl, ?_⟩
 have hR := Option.some.inj hF
 subst hR
 refine (zJ (yX (post0n rfl ?_)))
 exact ⟨v2, v3, v4, rfl, H.pick [0, 1, 2, 3] (by decide)⟩
end Go.Proofs.YtnajnkghilemhaaGreatDoor.L
namespace Go.Proofs.YtnajnkghilemhaaGreatDoor.L
open Go.RowKit Go.OB Go.Lf
/- strings.HasPrefix -/
set_option maxHeartbeats 4000000 in
theorem F_strings_HasPrefix_w (p0 : Str) (p1 : Str) (r : Bool) (hF : F_strings_HasPrefix p0 p1 = some r) (O S : List Nat) (w : World) (H : Hd O w w S []) :
  Calls Tryz.prog 139 ([.string (bs p0), .string (bs p1)] : List Value).toArray w fun e w' => e = .returned (.bool r) ∧ Hd O w w' S [] := by
 unfold F_strings_HasPrefix at hF
 refine yD 8 Tryz.func139 rfl rfl rfl ?_
 refine zD fun K1 hK1 => ?_
 refine zC ?_
 refine zA rfl rfl (zG (v := .bool false) rfl) ?_
 refine (zJ (zB (hK1 _ _ ?_)))
 refine zD fun K2 hK2 => ?_
 refine zC ?_
 refine zA rfl rfl (zK (v := .string (bs p0)) rfl) ?_
 refine zA rfl rfl (zK (v := .string (bs p1)) rfl) ?_
 have H3 := H
 obtain ⟨x4, e5, hF⟩ := zI hF
 refine yA rfl rfl (zX en177 rfl) (F_internal_stringslite_HasPrefix_w p0 p1 _ e5 _ _ _ (H.enter [] [] (by decide) rfl)) ?_
 rintro _ w6 ⟨rfl, G7⟩
 have H := H3.step (G7.only : Only [] _ _)
 refine ⟨_, rfl, ?_⟩
 refine zA rfl rfl (zG (v := .bool x4) rfl) ?_
 refine (zJ (zB (hK2 _ _ ?_)))
 have hR := Option.some.inj hF
 subst hR
 refine (yG (post1 (v1 := .bool x4) rfl rfl ?_))
 exact ⟨rfl, H.pick [] (by decide)⟩
end Go.Proofs.YtnajnkghilemhaaGreatDoor.L
namespace Go.Proofs.YtnajnkghilemhaaGreatDoor.L
open Go.RowKit Go.OB Go.Lf
/- (*orangebox/event.reader).advance -/
set_option maxHeartbeats 4000000 in
set_option maxRecDepth 100000 in
theorem F_event_reader_advance_w (p0 : EventReader) (b1 : Nat) (v2 : Value) (v3 : Value) (v4 : Value) (r : EventReader) (hF : F_event_reader_advance p0 = some r) (O S : List Nat) (w : World) (H : Hd O w w S [.own Rp.str v2 9 p0.r.Phases, .own rMoveT v3 102 p0.r.Moves, .own rRule v4 106 p0.r.Rules, .blk b1 [.string (bs p0.text), .int .i64 p0.at_, .int .i64 p0.now.kind, .int .i64 p0.now.at_, .int .i64 p0.now.n, .string (bs p0.now.text), v2, v3, v4] 88, .fz (.gi 4)]) :
  Calls Tryz.prog 87 ([.pointer (some ⟨b1, 0, none⟩)] : List Value).toArray w fun e w' => ∃ u10 u11 u12, e = .returned (.tuple #[]) ∧ Hd O w w' S [.own Rp.str u10 9 r.r.Phases, .own rMoveT u11 102 r.r.Moves, .own rRule u12 106 r.r.Rules, .blk b1 [.string (bs r.text), .int .i64 r.at_, .int .i64 r.now.kind, .int .i64 r.now.at_, .int .i64 r.now.n, .string (bs r.now.text), u10, u11, u12] 88] := by
 unfold F_event_reader_advance at hF
 refine yD 107 Tryz.func87 rfl rfl rfl ?_
 refine zD fun K13 hK13 => ?_
 refine zC ?_
 refine zA rfl rfl (zK (v := .pointer (some ⟨b1, 0, none⟩)) rfl) ?_
 obtain ⟨x14, e15, hF⟩ := zI hF
 refine yA rfl rfl (zX en137 rfl) (F_event_reader_blanks_w p0 b1 v2 v3 v4 _ e15 _ _ _ (H.enter [0, 1, 2, 3] [] (by decide) rfl)) ?_
 rintro _ w22 ⟨v16, v17, v18, rfl, G23⟩
 have H : Hd O _ w22 _ [.fz (.gi 4), .own Rp.str v16 9 x14.r.Phases, .own rMoveT v17 102 x14.r.Moves, .own rRule v18 106 x14.r.Rules, .blk b1 [.string (bs x14.text), .int .i64 x14.at_, .int .i64 x14.now.kind, .int .i64 x14.now.at_, .int .i64 x14.now.n, .string (bs x14.now.text), v16, v17, v18] 88] := H.back [0, 1, 2, 3] [] rfl G23
 refine ⟨_, rfl, ?_⟩
 refine (zJ (zB (hK13 _ _ ?_)))
 refine zD fun K24 hK24 => ?_
 refine zC ?_
 refine zA rfl rfl (zK (v := .pointer (some ⟨b1, 0, none⟩)) rfl) ?_
 refine zA rfl rfl (yK rfl) ?_
 refine zA rfl rfl (fa88_1 rfl) ?_
 refine zA rfl rfl (zL one3 rfl (Cells.get (Blk.cells (H.item (i := 4) rfl)) (i := 1) rfl)) ?_
 refine zA rfl rfl (zG (v := .int .i64 x14.at_) rfl) ?_
 refine (zJ (zB (hK24 _ _ ?_)))
 refine zD fun K25 hK25 => ?_
 refine zC ?_
 refine zA rfl rfl (zK (v := .pointer (some ⟨b1, 0, none⟩)) rfl) ?_
 refine zA rfl rfl (zK (v := .int .i64 x14.at_) rfl) ?_
 refine zA rfl rfl (xM (cs := [.int .i64 0, .int .i64 x14.at_, .int .i64 0, .string (bs [])]) (bt86_0_1 _ _)) ?_
 refine zA rfl rfl (yK rfl) ?_
 refine zA rfl rfl (fa88_2 rfl) ?_
 refine yV rfl (yN (vs := [.int .i64 0, .int .i64 x14.at_, .int .i64 0, .string (bs [])]) H 4 rfl sz86 rfl rfl rfl ⟨rfl, rfl, rfl, rfl, trivial⟩ rfl) ?_
 rintro w26 H
 refine (zJ (zB (hK25 _ _ ?_)))
 refine zD fun K33 hK33 => ?_
 refine zD fun K34 hK34 => ?_
 refine zC ?_
 refine zA rfl rfl (zK (v := .int .i64 x14.at_) rfl) ?_
 refine zA rfl rfl (zK (v := .pointer (some ⟨b1, 0, none⟩)) rfl) ?_
 refine zA rfl rfl (yK rfl) ?_
 refine zA rfl rfl (fa88_0 rfl) ?_
 refine zA rfl rfl (zL one9 rfl (Cells.get (Blk.cells (H.item (i := 4) rfl)) (i := 0) rfl)) ?_
 obtain ⟨x35, e36, hF⟩ := zF hF
 refine zA rfl rfl (zM (Do_slen (s1 := x14.text) u9 rfl) (congrArg (Value.int .i64) e36)) ?_
 obtain ⟨x37, e38, hF⟩ := zF hF
 refine zA rfl rfl (zM (xC (a := x14.at_) (b := x35) rfl rfl) (congrArg Value.bool e38)) ?_
 refine (zJ (zB (hK34 _ _ ?_)))
 refine yH (b := x37) rfl (fun c39 => ?_) (fun c39 => ?_)
 ·have hF := zV c39 hF
  have hR := Option.some.inj hF
  subst hR
  refine (yG (yC (post0 rfl ?_)))
  exact ⟨v16, v17, v18, rfl, H.pick [1, 2, 3, 4] (by decide)⟩
 have hF := zW c39 hF
 refine (yI (zB (hK33 _ _ ?_)))
 obtain ⟨g127, hF, hK129⟩ := zI hF
 refine yQ [23, 24, 25, 26, 27, 28, 29, 30, 31, 32, 33, 34, 35, 36, 37, 38, 39, 40, 41, 42, 43, 44, 45, 46, 47, 48, 49, 50, 51] (fun (g : Unit) => []) (fun g wl => Hd O w wl S [.fz (.gi 4), .own Rp.str v16 9 x14.r.Phases, .own rMoveT v17 102 x14.r.Moves, .own rRule v18 106 x14.r.Rules, .blk b1 [.string (bs x14.text), .int .i64 g127, .int .i64 0, .int .i64 x14.at_, .int .i64 0, .string (bs []), v16, v17, v18] 88]) ?_ ?_
 ·skip
  refine yM ?_
  unfold F_event_reader_advance_L1 at hF
  obtain ⟨B212, n213, eB214, hF⟩ := yZ hF
  refine xN [23, 24, 25, 26, 27, 28, 29, 30, 31, 32, 33, 34, 35, 36, 37, 38, 39, 40, 41, 42, 43, 44, 45, 46, 47, 48, 49, 50, 51] (fun (g : Nat × Int) => []) (fun g wl => Hd O w wl S [.fz (.gi 4), .own Rp.str v16 9 x14.r.Phases, .own rMoveT v17 102 x14.r.Moves, .own rRule v18 106 x14.r.Rules, .blk b1 [.string (bs x14.text), .int .i64 g.2, .int .i64 0, .int .i64 x14.at_, .int .i64 0, .string (bs []), v16, v17, v18] 88] ∧ loopN B212 g.1 g.2 = some g127) (fun g => g.1) (n213, x14.at_) zU ⟨H.pick [0, 1, 2, 3, 4] (by decide), hF⟩ ?_
  clear H hF
  rintro ⟨n213, g211⟩ ρ w216 ⟨H, hF⟩
  obtain ⟨n217, rfl, hF⟩ := xH hF
  have hF := xG eB214 hF
  refine zD fun K236 hK236 => ?_
  obtain ⟨g251, hF, hK253⟩ := zI hF
  refine yQ [23, 24, 25, 26, 27, 28, 29, 30, 31, 32, 33, 34, 35, 36, 37, 38, 39, 40, 41, 42, 43, 44] (fun (g : Unit) => [(44, .bool g251)]) (fun g wl => Hd O w wl S [.fz (.gi 4), .own Rp.str v16 9 x14.r.Phases, .own rMoveT v17 102 x14.r.Moves, .own rRule v18 106 x14.r.Rules, .blk b1 [.string (bs x14.text), .int .i64 g211, .int .i64 0, .int .i64 x14.at_, .int .i64 0, .string (bs []), v16, v17, v18] 88]) ?_ ?_
  ·skip
   have H254 := H
   have H := H.rebase
   have H255 := H
   refine WP_mix0 H [0, 1, 2, 3, 4, 5, 6, 7, 8, 9, 10, 11, 12, 13, 14, 15, 16, 17, 18, 19, 20, 21] [.pure, .pure, .pure, .read, .pure, .pure, .pure, .read, .pure, .pure, .pure, .pure, .pure, .pure, .read, .pure, .pure, .pure, .read, .pure, .fcall, .pure] mixed (by kernel_rfl) (by kernel_rfl) (by kernel_rfl) rfl ?_
   refine Mx.yB rfl rfl rfl (fun w' hw' => zK (v := .pointer (some ⟨b1, 0, none⟩)) rfl) ?_
   refine Mx.yB rfl rfl rfl (fun w' hw' => yK rfl) ?_
   refine Mx.yB rfl rfl rfl (fun w' hw' => fa88_1 rfl) ?_
   refine Mx.xK oS rfl rfl rfl (fun w' hw' => zL one3 rfl (Cells.get (Blk.cells ((H.sees hw').item (i := 4) rfl)) (i := 1) rfl)) ?_
   refine Mx.yB rfl rfl rfl (fun w' hw' => zK (v := .pointer (some ⟨b1, 0, none⟩)) rfl) ?_
   refine Mx.yB rfl rfl rfl (fun w' hw' => yK rfl) ?_
   refine Mx.yB rfl rfl rfl (fun w' hw' => fa88_0 rfl) ?_
   refine Mx.xK oS rfl rfl rfl (fun w' hw' => zL one9 rfl (Cells.get (Blk.cells ((H.sees hw').item (i := 4) rfl)) (i := 0) rfl)) ?_
   obtain ⟨x256, e257, hF⟩ := zF hF
   refine Mx.yB rfl rfl rfl (fun w' hw' => zM (Do_slen (s1 := x14.text) u9 rfl) (congrArg (Value.int .i64) e257)) ?_
   obtain ⟨x258, e259, hF⟩ := zF hF
   refine Mx.yB rfl rfl rfl (fun w' hw' => zM (xZ (a := g211) (b := x256) rfl rfl) (congrArg Value.bool e259)) ?_
   refine Mx.XL_splitb (b := x258) rfl rfl rfl rfl (fun c260 => ?_) (fun c260 => ?_)
   ·have hF := zV c260 hF
    refine Mx.yB rfl rfl rfl (fun w' hw' => zK (v := .pointer (some ⟨b1, 0, none⟩)) rfl) ?_
    refine Mx.yB rfl rfl rfl (fun w' hw' => yK rfl) ?_
    refine Mx.yB rfl rfl rfl (fun w' hw' => fa88_0 rfl) ?_
    refine Mx.xK oS rfl rfl rfl (fun w' hw' => zL one9 rfl (Cells.get (Blk.cells ((H.sees hw').item (i := 4) rfl)) (i := 0) rfl)) ?_
    refine Mx.yB rfl rfl rfl (fun w' hw' => zK (v := .pointer (some ⟨b1, 0, none⟩)) rfl) ?_
    refine Mx.yB rfl rfl rfl (fun w' hw' => yK rfl) ?_
    refine Mx.yB rfl rfl rfl (fun w' hw' => fa88_1 rfl) ?_
    refine Mx.xK oS rfl rfl rfl (fun w' hw' => zL one3 rfl (Cells.get (Blk.cells ((H.sees hw').item (i := 4) rfl)) (i := 1) rfl)) ?_
    obtain ⟨x261, e262, hF⟩ := zI hF
    refine Mx.yB rfl rfl rfl (fun w' hw' => Do_sidx (s1 := x14.text) (q := g211) u9 rfl rfl e262) ?_
    have H263 := H
    obtain ⟨x264, e265, hF⟩ := zI hF
    refine Mx.XL_fcall oS rfl rfl rfl (v := .bool x264) (fun w' hw' => zX en120 rfl) (fun w' hw' => call_read (F_event_nameByte_w x261 _ e265 _ _ _ (Hd.fresh0 w'))) ?_
    have H := H263
    refine Mx.yB rfl rfl rfl (fun w' hw' => zY (v := .bool x264) rfl rfl) ?_
    refine Mx.XL_nil fun w266 hS => ?_
    have H := H.sees hS
    have H := H254.rejoin H
    have hR := Option.some.inj hF
    subst hR
    refine (zB (And.intro ?_ ?_))
    ·repeat' (first | with_reducible exact zS | refine zZ rfl ?_ | refine zT rfl rfl ?_)
    exact ⟨(), (zQ rfl zU), H.pick [0, 1, 2, 3, 4] (by decide)⟩
   have hF := zW c260 hF
   refine Mx.XL_offp rfl rfl rfl ?_
   refine Mx.XL_offp rfl rfl rfl ?_
   refine Mx.XL_offp rfl rfl rfl ?_
   refine Mx.XL_offr oS rfl rfl rfl ?_
   refine Mx.XL_offp rfl rfl rfl ?_
   refine Mx.XL_offp rfl rfl rfl ?_
   refine Mx.XL_offp rfl rfl rfl ?_
   refine Mx.XL_offr oS rfl rfl rfl ?_
   refine Mx.XL_offp rfl rfl rfl ?_
   refine Mx.XL_offf oS rfl rfl rfl ?_
   refine Mx.yB rfl rfl rfl (fun w' hw' => zN (v := .bool false) rfl rfl) ?_
   refine Mx.XL_nil fun w267 hS => ?_
   have H := H.sees hS
   have H := H254.rejoin H
   have hR := Option.some.inj hF
   subst hR
   refine (zB (And.intro ?_ ?_))
   ·repeat' (first | with_reducible exact zS | refine zZ rfl ?_ | refine zT rfl rfl ?_)
   exact ⟨(), (zQ rfl zU), H.pick [0, 1, 2, 3, 4] (by decide)⟩
  rintro _ ρ w252 H
  have hF := hK253
  refine yH (b := g251) rfl (fun c268 => ?_) (fun c268 => ?_)
  ·have hF := zV c268 hF
   refine (yI (zB (hK236 _ _ ?_)))
   refine yM ?_
   refine zC ?_
   refine zA rfl rfl (zK (v := .pointer (some ⟨b1, 0, none⟩)) rfl) ?_
   refine zA rfl rfl (yK rfl) ?_
   refine zA rfl rfl (fa88_1 rfl) ?_
   refine zA rfl rfl (zL one3 rfl (Cells.get (Blk.cells (H.item (i := 4) rfl)) (i := 1) rfl)) ?_
   obtain ⟨x269, e270, hF⟩ := zF hF
   refine zA rfl rfl (wE (a := g211) (b := 1) rfl rfl e270) ?_
   refine zA rfl rfl (yK rfl) ?_
   refine zA rfl rfl (fa88_1 rfl) ?_
   refine yV rfl (xX H 4 rfl sz3 rfl (v := .int .i64 x269) rfl rfl rfl) ?_
   rintro w271 H
   refine (zJ (yX (zB (And.intro ?_ ?_))))
   ·repeat' (first | with_reducible exact zS | refine zZ rfl ?_ | refine zT rfl rfl ?_)
   exact ⟨(n217, x269), zU, ⟨H.pick [0, 1, 2, 3, 4] (by decide), hF⟩, Nat.lt_succ_self _⟩
  have hF := zW c268 hF
  have hR := Option.some.inj hF
  subst hR
  refine (xW (yU (yU (xE (zB (And.intro ?_ ?_))))))
  ·repeat' (first | with_reducible exact zS | refine zZ rfl ?_ | refine zT rfl rfl ?_)
  exact ⟨(), zU, H.pick [0, 1, 2, 3, 4] (by decide)⟩
 rintro _ ρ w128 H
 have hF := hK129
 refine zD fun K294 hK294 => ?_
 refine zD fun K295 hK295 => ?_
 refine zC ?_
 refine zA rfl rfl (zK (v := .pointer (some ⟨b1, 0, none⟩)) rfl) ?_
 refine zA rfl rfl (yK rfl) ?_
 refine zA rfl rfl (fa88_1 rfl) ?_
 refine zA rfl rfl (zL one3 rfl (Cells.get (Blk.cells (H.item (i := 4) rfl)) (i := 1) rfl)) ?_
 refine zA rfl rfl (zK (v := .int .i64 x14.at_) rfl) ?_
 obtain ⟨x296, e297, hF⟩ := zF hF
 refine zA rfl rfl (zM (Do_gtr (a := g127) (b := x14.at_) rfl rfl) (congrArg Value.bool e297)) ?_
 refine (zJ (zB (hK295 _ _ ?_)))
 refine yH (b := x296) rfl (fun c298 => ?_) (fun c298 => ?_)
 ·have hF := zV c298 hF
  refine zD fun K299 hK299 => ?_
  have H300 := H
  have H := H.rebase
  have H301 := H
  refine WP_mix0 H [0, 1, 2, 3, 4, 5, 6, 7, 8, 9, 10, 11, 12, 13, 14] [.pure, .pure, .pure, .pure, .read, .pure, .pure, .pure, .pure, .read, .pure, .pure, .pure, .pure, .eff] mixed (by kernel_rfl) (by kernel_rfl) (by kernel_rfl) rfl ?_
  refine Mx.yB rfl rfl rfl (fun w' hw' => zK (v := .pointer (some ⟨b1, 0, none⟩)) rfl) ?_
  refine Mx.yB rfl rfl rfl (fun w' hw' => zK (v := .pointer (some ⟨b1, 0, none⟩)) rfl) ?_
  refine Mx.yB rfl rfl rfl (fun w' hw' => yK rfl) ?_
  refine Mx.yB rfl rfl rfl (fun w' hw' => fa88_0 rfl) ?_
  refine Mx.xK oS rfl rfl rfl (fun w' hw' => zL one9 rfl (Cells.get (Blk.cells ((H.sees hw').item (i := 4) rfl)) (i := 0) rfl)) ?_
  refine Mx.yB rfl rfl rfl (fun w' hw' => zK (v := .int .i64 x14.at_) rfl) ?_
  refine Mx.yB rfl rfl rfl (fun w' hw' => zK (v := .pointer (some ⟨b1, 0, none⟩)) rfl) ?_
  refine Mx.yB rfl rfl rfl (fun w' hw' => yK rfl) ?_
  refine Mx.yB rfl rfl rfl (fun w' hw' => fa88_1 rfl) ?_
  refine Mx.xK oS rfl rfl rfl (fun w' hw' => zL one3 rfl (Cells.get (Blk.cells ((H.sees hw').item (i := 4) rfl)) (i := 1) rfl)) ?_
  obtain ⟨x302, e303, hF⟩ := zI hF
  refine Mx.yB rfl rfl rfl (fun w' hw' => Do_cut_lh (s1 := x14.text) u9 rfl rfl rfl e303) ?_
  refine Mx.yB rfl rfl rfl (fun w' hw' => yK rfl) ?_
  refine Mx.yB rfl rfl rfl (fun w' hw' => fa88_2 rfl) ?_
  refine Mx.yB rfl rfl rfl (fun w' hw' => fa86_3 rfl) ?_
  refine Mx.XL_exU oS rfl rfl (fun w' hw' => xX (H.sees hw') 4 rfl sz9 rfl (v := .string (bs x302)) rfl rfl rfl) ?_
  rintro w' w304 hw' H
  refine ⟨H.only, ?_⟩
  refine Mx.XL_nil fun w305 hS => ?_
  have H := H.sees hS
  have H := H300.rejoin H
  refine (zB (hK299 _ _ ?_))
  refine zD fun K306 hK306 => ?_
  refine zC ?_
  refine zA rfl rfl (zK (v := .pointer (some ⟨b1, 0, none⟩)) rfl) ?_
  obtain ⟨x307, e308, hF⟩ := zI hF
  refine yA rfl rfl (zX en138 rfl) (F_event_reader_run_w (EventReader.mk x14.text g127 (EventToken.mk 0 x14.at_ 0 x302) x14.r) b1 v16 v17 v18 _ e308 _ _ _ (H.enter [1, 2, 3, 4] [0] (by decide) rfl)) ?_
  rintro _ w315 ⟨v309, v310, v311, rfl, G316⟩
  have H : Hd O _ w315 _ [.fz (.gi 4), .own Rp.str v309 9 x307.r.Phases, .own rMoveT v310 102 x307.r.Moves, .own rRule v311 106 x307.r.Rules, .blk b1 [.string (bs x307.text), .int .i64 x307.at_, .int .i64 x307.now.kind, .int .i64 x307.now.at_, .int .i64 x307.now.n, .string (bs x307.now.text), v309, v310, v311] 88] := H.back [1, 2, 3, 4] [0] rfl G316
  refine ⟨_, rfl, ?_⟩
  refine (zJ (zB (hK306 _ _ ?_)))
  have hR := Option.some.inj hF
  subst hR
  refine (yG (yC (post0 rfl ?_)))
  exact ⟨v309, v310, v311, rfl, H.pick [1, 2, 3, 4] (by decide)⟩
 have hF := zW c298 hF
 refine (yI (zB (hK294 _ _ ?_)))
 obtain ⟨k470, ek471, hF⟩ := wC hF
 refine yQ [4, 74, 75, 76, 77, 78, 79, 80, 81, 82, 83, 84, 85, 86, 87, 88, 89, 90, 91, 92, 93, 94, 95, 96, 97, 98, 99, 100, 101, 102, 103, 104] (fun (g : Unit) => []) (fun g wl => Hd O w wl S [.fz (.gi 4), .own Rp.str v16 9 x14.r.Phases, .own rMoveT v17 102 x14.r.Moves, .own rRule v18 106 x14.r.Rules, .blk b1 [.string (bs x14.text), .int .i64 g127, .int .i64 0, .int .i64 x14.at_, .int .i64 0, .string (bs []), v16, v17, v18] 88] ∧ k470 () = some r) ?_ ?_
 ·skip
  refine zD fun K472 hK472 => ?_
  refine zC ?_
  obtain ⟨x473, e474, hF⟩ := zF hF
  subst e474
  refine yY rfl rfl (Lx_bs (r := Rp.str) (xl := [[60, 61], [33, 61], [62, 61], [60], [61], [62], [40], [41]]) (cs := [.string (bs [60, 61]), .string (bs [33, 61]), .string (bs [62, 61]), .string (bs [60]), .string (bs [61]), .string (bs [62]), .string (bs [40]), .string (bs [41])]) u22 el9 (by decide) (by decide) rfl (wF (vs := [.string (bs [60, 61]), .string (bs [33, 61]), .string (bs [62, 61]), .string (bs [60]), .string (bs [61]), .string (bs [62]), .string (bs [40]), .string (bs [41])]) (by decide) rfl rfl ⟨rfl, rfl, rfl, rfl, rfl, rfl, rfl, rfl, trivial⟩ rfl) H ⟨[.string (bs [60, 61])], [.string (bs [33, 61]), .string (bs [62, 61]), .string (bs [60]), .string (bs [61]), .string (bs [62]), .string (bs [40]), .string (bs [41])], rfl, rfl, ⟨[.string (bs [33, 61])], [.string (bs [62, 61]), .string (bs [60]), .string (bs [61]), .string (bs [62]), .string (bs [40]), .string (bs [41])], rfl, rfl, ⟨[.string (bs [62, 61])], [.string (bs [60]), .string (bs [61]), .string (bs [62]), .string (bs [40]), .string (bs [41])], rfl, rfl, ⟨[.string (bs [60])], [.string (bs [61]), .string (bs [62]), .string (bs [40]), .string (bs [41])], rfl, rfl, ⟨[.string (bs [61])], [.string (bs [62]), .string (bs [40]), .string (bs [41])], rfl, rfl, ⟨[.string (bs [62])], [.string (bs [40]), .string (bs [41])], rfl, rfl, ⟨[.string (bs [40])], [.string (bs [41])], rfl, rfl, ⟨[.string (bs [41])], [], rfl, rfl, rfl⟩⟩⟩⟩⟩⟩⟩⟩) ?_
  rintro v476 w477 H
  obtain ⟨x478, e479, hF⟩ := zF hF
  obtain ⟨a480, c481, q482⟩ := Sr.len (Sr.of_own (H.item (i := 5) rfl))
  refine zA rfl rfl (zM (xA u22 q482) (congrArg (Value.int .i64) e479)) ?_
  refine zA rfl rfl (zK (v := .int .i64 0) rfl) ?_
  refine (zJ (zB (hK472 _ _ ?_)))
  refine yM ?_
  unfold F_event_reader_advance_L2 at hF
  obtain ⟨B619, n620, eB621, hF⟩ := yZ hF
  refine xN [4, 76, 77, 78, 79, 80, 81, 82, 83, 84, 85, 86, 87, 88, 89, 90, 91, 92, 93, 94, 95, 96, 97, 98, 99, 100, 101, 102, 103, 104] (fun (g : Nat × Int) => [(76, .int .i64 g.2)]) (fun g wl => Hd O w wl S [.fz (.gi 4), .own Rp.str v16 9 x14.r.Phases, .own rMoveT v17 102 x14.r.Moves, .own rRule v18 106 x14.r.Rules, .blk b1 [.string (bs x14.text), .int .i64 g127, .int .i64 0, .int .i64 x14.at_, .int .i64 0, .string (bs []), v16, v17, v18] 88, .own Rp.str v476 9 ([[60, 61], [33, 61], [62, 61], [60], [61], [62], [40], [41]] : List Str)] ∧ loopN B619 g.1 g.2 = some r) (fun g => g.1) (n620, 0) (zQ rfl zU) ⟨H.pick [0, 1, 2, 3, 4, 5] (by decide), hF⟩ ?_
  clear H hF
  rintro ⟨n620, g618⟩ ρ w623 ⟨H, hF⟩
  obtain ⟨n624, rfl, hF⟩ := xH hF
  have hF := xG eB621 hF
  refine zD fun K625 hK625 => ?_
  refine zC ?_
  obtain ⟨x626, e627, hF⟩ := zF hF
  refine zA rfl rfl (zM (xZ (a := g618) (b := x478) rfl rfl) (congrArg Value.bool e627)) ?_
  refine (zJ (zB (hK625 _ _ ?_)))
  refine zD fun K629 hK629 => ?_
  refine yH (b := x626) rfl (fun c630 => ?_) (fun c630 => ?_)
  ·have hF := zV c630 hF
   refine (yI (zB (hK629 _ _ ?_)))
   refine zD fun K660 hK660 => ?_
   refine yM ?_
   refine zD fun K661 hK661 => ?_
   refine zC ?_
   obtain ⟨x662, e663, hF⟩ := zI hF
   obtain ⟨b664, c666, cs667, q668, h671, h672⟩ := own_at (H.item (i := 5) rfl) e663
   obtain rfl : cs667 = [.string (bs x662)] := h671
   refine zA rfl rfl (xY u22 sz9 q668 rfl (yP e663).1 (yP e663).2.1 rfl rfl) ?_
   refine zA rfl rfl (zL one9 rfl (Cells.get h672 (i := 0) rfl)) ?_
   refine zA rfl rfl (zG (v := .string (bs x662)) rfl) ?_
   refine (zJ (zB (hK661 _ _ ?_)))
   refine zD fun K673 hK673 => ?_
   refine zC ?_
   refine zA rfl rfl (zK (v := .pointer (some ⟨b1, 0, none⟩)) rfl) ?_
   refine zA rfl rfl (yK rfl) ?_
   refine zA rfl rfl (fa88_0 rfl) ?_
   refine zA rfl rfl (zL one9 rfl (Cells.get (Blk.cells (H.item (i := 4) rfl)) (i := 0) rfl)) ?_
   refine zA rfl rfl (zK (v := .int .i64 x14.at_) rfl) ?_
   obtain ⟨x674, e675, hF⟩ := zI hF
   refine zA rfl rfl (Do_cut_l (s1 := x14.text) u9 rfl rfl e675) ?_
   refine zA rfl rfl (zK (v := .string (bs x662)) rfl) ?_
   have H676 := H
   obtain ⟨x677, e678, hF⟩ := zI hF
   refine yA rfl rfl (zX en139 rfl) (F_strings_HasPrefix_w x674 x662 _ e678 _ _ _ (H.enter [] [] (by decide) rfl)) ?_
   rintro _ w679 ⟨rfl, G680⟩
   have H := H676.step (G680.only : Only [] _ _)
   refine ⟨_, rfl, ?_⟩
   refine (zJ (zB (hK673 _ _ ?_)))
   refine yH (b := x677) rfl (fun c681 => ?_) (fun c681 => ?_)
   ·have hF := zV c681 hF
    refine zD fun K682 hK682 => ?_
    refine zC ?_
    refine zA rfl rfl (zK (v := .pointer (some ⟨b1, 0, none⟩)) rfl) ?_
    refine zA rfl rfl (zK (v := .pointer (some ⟨b1, 0, none⟩)) rfl) ?_
    refine zA rfl rfl (zK (v := .pointer (some ⟨b1, 0, none⟩)) rfl) ?_
    refine zA rfl rfl (zK (v := .string (bs x662)) rfl) ?_
    refine zA rfl rfl (zK (v := .int .i64 x14.at_) rfl) ?_
    refine zA rfl rfl (zK (v := .string (bs x662)) rfl) ?_
    obtain ⟨x683, e684, hF⟩ := zF hF
    refine zA rfl rfl (zM (Do_slen (s1 := x662) u9 rfl) (congrArg (Value.int .i64) e684)) ?_
    obtain ⟨x685, e686, hF⟩ := zF hF
    refine zA rfl rfl (wE (a := x14.at_) (b := x683) rfl rfl e686) ?_
    refine zA rfl rfl (yK rfl) ?_
    refine zA rfl rfl (fa88_2 rfl) ?_
    refine zA rfl rfl (fa86_0 rfl) ?_
    refine yV rfl (xX H 4 rfl sz3 rfl (v := .int .i64 4) rfl rfl rfl) ?_
    rintro w687 H
    refine zA rfl rfl (yK rfl) ?_
    refine zA rfl rfl (fa88_2 rfl) ?_
    refine zA rfl rfl (fa86_3 rfl) ?_
    refine yV rfl (xX H 4 rfl sz9 rfl (v := .string (bs x662)) rfl rfl rfl) ?_
    rintro w688 H
    refine zA rfl rfl (yK rfl) ?_
    refine zA rfl rfl (fa88_1 rfl) ?_
    refine yV rfl (xX H 4 rfl sz3 rfl (v := .int .i64 x685) rfl rfl rfl) ?_
    rintro w689 H
    refine (zJ (zB (hK682 _ _ ?_)))
    have hR := Option.some.inj hF
    subst hR
    refine (yG (yJ (yC (yC (yJ (yC (post0 rfl ?_)))))))
    exact ⟨v16, v17, v18, rfl, H.pick [1, 2, 3, 4] (by decide)⟩
   have hF := zW c681 hF
   refine (yI (yX (zB (hK660 _ _ ?_))))
   refine zC ?_
   obtain ⟨x690, e691, hF⟩ := zF hF
   refine zA rfl rfl (wE (a := g618) (b := 1) rfl rfl e691) ?_
   refine zA rfl rfl (zK (v := .int .i64 x690) rfl) ?_
   refine (zJ (zB (And.intro ?_ ?_)))
   ·repeat' (first | with_reducible exact zS | refine zZ rfl ?_ | refine zT rfl rfl ?_)
   exact ⟨(n624, x690), (zQ rfl zU), ⟨H.pick [0, 1, 2, 3, 4, 5] (by decide), hF⟩, Nat.lt_succ_self _⟩
  have hF := zW c630 hF
  refine (xW (yU (yU (xE (zB (And.intro ?_ ?_))))))
  ·repeat' (first | with_reducible exact zS | refine zZ rfl ?_ | refine zT rfl rfl ?_)
  exact ⟨(), zU, ⟨H.pick [0, 1, 2, 3, 4] (by decide), hF⟩⟩
 rintro _ ρ w469 ⟨H, hF⟩
 have hF := wJ ek471 hF
 refine zC ?_
 refine zA rfl rfl (zK (v := .pointer (some ⟨b1, 0, none⟩)) rfl) ?_
 have H692 := H
 have H := H.freezeB (i := 4) rfl
 have H := H.freeze (i := 1) rfl
 have H := H.freeze (i := 2) rfl
 have H := H.freeze (i := 3) rfl
 have H := H.fz (.pt rEventReader (some ⟨b1, 0, none⟩) (some (EventReader.mk x14.text g127 (EventToken.mk 0 x14.at_ 0 []) x14.r))) ⟨_, _, _, rfl, (H.item (i := 4) rfl).1, (H.item (i := 4) rfl).2.1, (xP (x := EventReader.mk x14.text g127 (EventToken.mk 0 x14.at_ 0 []) x14.r) (H.item (i := 1) rfl) (H.item (i := 2) rfl) (H.item (i := 3) rfl)), (H.item (i := 4) rfl).2.2⟩
 obtain ⟨_, e694, hF⟩ := zI hF
 refine yA rfl rfl (zX en92 rfl) (F_event_reader_fail_w (some (EventReader.mk x14.text g127 (EventToken.mk 0 x14.at_ 0 []) x14.r)) 6 (some ⟨b1, 0, none⟩) _ e694 _ _ _ (H.enter [] [5] (by decide) rfl)) ?_
 rintro _ w695 ⟨rfl, G696⟩
 have H := H692.step (G696.only : Only [] _ _)
 refine ⟨_, rfl, ?_⟩
 have hR := Option.some.inj hF
 subst hR
 refine (zJ (post0n rfl ?_))
 exact ⟨v16, v17, v18, rfl, H.pick [1, 2, 3, 4] (by decide)⟩
end Go.Proofs.YtnajnkghilemhaaGreatDoor.L
namespace Go.Proofs.YtnajnkghilemhaaGreatDoor.L
open Go.RowKit Go.OB Go.Lf
/- (*orangebox/event.reader).is -/
set_option maxHeartbeats 4000000 in
theorem F_event_reader_is_w (p0 : Option EventReader) (p1 : Str) (v1 : Option Addr) (r : Bool) (hF : F_event_reader_is p0 p1 = some r) (O S : List Nat) (w : World) (H : Hd O w w S [.fz (.pt rEventReader v1 p0)]) :
  Calls Tryz.prog 88 ([.pointer v1, .string (bs p1)] : List Value).toArray w fun e w' => e = .returned (.bool r) ∧ Hd O w w' S [] := by
 unfold F_event_reader_is at hF
 refine yD 28 Tryz.func88 rfl rfl rfl ?_
 refine zD fun K3 hK3 => ?_
 refine zC ?_
 refine zA rfl rfl (zG (v := .bool false) rfl) ?_
 refine (zJ (zB (hK3 _ _ ?_)))
 obtain ⟨g94, hF, hK96⟩ := zI hF
 refine yQ [4, 5, 6, 7, 8, 9, 10, 11, 12, 13, 14, 15, 16, 17, 18, 19, 20, 21, 22, 23, 24, 25, 26, 27] (fun (g : Unit) => [(4, .bool g94)]) (fun g wl => Hd O w wl S []) ?_ ?_
 ·skip
  refine zC ?_
  refine zA rfl rfl (zK (v := .pointer v1) rfl) ?_
  obtain ⟨x97, e98, hF⟩ := zI hF
  obtain ⟨b99, o100, cs101, q102, h103, h104, h105, h106⟩ := ptf_some ((H.item (i := 0) rfl) : PtF _ _ _ _ _) e98
  obtain ⟨v107, v108, v109, rfl, h110, h111, h112⟩ := rEventReader_open h105
  have H := H.fzs [.at b99 o100 _, .sl Rp.str v107 x97.r.Phases, .sl rMoveT v108 x97.r.Moves, .sl rRule v109 x97.r.Rules] ⟨⟨h103, h104, h106⟩, h110, h111, h112, trivial⟩
  refine zA rfl rfl (yK (ad := ⟨b99, o100, none⟩) (congrArg Value.pointer q102)) ?_
  refine zA rfl rfl (fa88_2 rfl) ?_
  refine zA rfl rfl (fa86_0 rfl) ?_
  refine zA rfl rfl (zL one3 rfl (Cells.get (H.item (i := 1) rfl).2.2 (i := 2) rfl)) ?_
  obtain ⟨x117, e118, hF⟩ := zF hF
  refine zA rfl rfl (zM (xC (a := x97.now.kind) (b := 1) rfl rfl) (congrArg Value.bool e118)) ?_
  refine yE (b := x117) rfl rfl rfl (fun c119 => ?_) (fun c119 => ?_)
  ·have hF := zV c119 hF
   refine zH rfl rfl ?_
   refine zH rfl rfl ?_
   refine zH rfl rfl ?_
   refine zH rfl rfl ?_
   refine zH rfl rfl ?_
   refine zH rfl rfl ?_
   refine zA rfl rfl (zY (v := .bool true) rfl rfl) ?_
   refine zA rfl rfl (zK (v := .bool true) rfl) ?_
   refine zA rfl rfl (zK (v := .pointer v1) rfl) ?_
   obtain ⟨x120, e121, hF⟩ := zI hF
   obtain ⟨b122, o123, cs124, q125, h126, h127, h128, h129⟩ := ptf_some ((H.item (i := 0) rfl) : PtF _ _ _ _ _) e121
   obtain ⟨v130, v131, v132, rfl, h133, h134, h135⟩ := rEventReader_open h128
   have H := H.fzs [.at b122 o123 _, .sl Rp.str v130 x120.r.Phases, .sl rMoveT v131 x120.r.Moves, .sl rRule v132 x120.r.Rules] ⟨⟨h126, h127, h129⟩, h133, h134, h135, trivial⟩
   refine zA rfl rfl (yK (ad := ⟨b122, o123, none⟩) (congrArg Value.pointer q125)) ?_
   refine zA rfl rfl (fa88_2 rfl) ?_
   refine zA rfl rfl (fa86_3 rfl) ?_
   refine zA rfl rfl (zL one9 rfl (Cells.get (H.item (i := 5) rfl).2.2 (i := 5) rfl)) ?_
   refine zA rfl rfl (zK (v := .string (bs p1)) rfl) ?_
   obtain ⟨x140, e141, hF⟩ := zF hF
   refine zA rfl rfl (zM (xU (s1 := x120.now.text) (s2 := p1) rfl rfl) (congrArg Value.bool e141)) ?_
   refine zA rfl rfl (zY (v := .bool x140) rfl rfl) ?_
   refine zA rfl rfl (zG (v := .bool x140) rfl) ?_
   have hR := Option.some.inj hF
   subst hR
   refine (zJ (zB (And.intro ?_ ?_)))
   ·repeat' (first | with_reducible exact zS | refine zZ rfl ?_ | refine zT rfl rfl ?_)
   exact ⟨(), (zQ rfl zU), H.pick [] (by decide)⟩
  have hF := zW c119 hF
  refine zA rfl rfl (zK (v := .pointer v1) rfl) ?_
  obtain ⟨x142, e143, hF⟩ := zI hF
  obtain ⟨b144, o145, cs146, q147, h148, h149, h150, h151⟩ := ptf_some ((H.item (i := 0) rfl) : PtF _ _ _ _ _) e143
  obtain ⟨v152, v153, v154, rfl, h155, h156, h157⟩ := rEventReader_open h150
  have H := H.fzs [.at b144 o145 _, .sl Rp.str v152 x142.r.Phases, .sl rMoveT v153 x142.r.Moves, .sl rRule v154 x142.r.Rules] ⟨⟨h148, h149, h151⟩, h155, h156, h157, trivial⟩
  refine zA rfl rfl (yK (ad := ⟨b144, o145, none⟩) (congrArg Value.pointer q147)) ?_
  refine zA rfl rfl (fa88_2 rfl) ?_
  refine zA rfl rfl (fa86_0 rfl) ?_
  refine zA rfl rfl (zL one3 rfl (Cells.get (H.item (i := 5) rfl).2.2 (i := 2) rfl)) ?_
  obtain ⟨x162, e163, hF⟩ := zF hF
  refine zA rfl rfl (zM (xC (a := x142.now.kind) (b := 4) rfl rfl) (congrArg Value.bool e163)) ?_
  refine zA rfl rfl (zN (v := .bool x162) rfl rfl) ?_
  refine yE (b := x162) rfl rfl rfl (fun c164 => ?_) (fun c164 => ?_)
  ·have hF := zV c164 hF
   refine zA rfl rfl (zK (v := .pointer v1) rfl) ?_
   obtain ⟨x165, e166, hF⟩ := zI hF
   obtain ⟨b167, o168, cs169, q170, h171, h172, h173, h174⟩ := ptf_some ((H.item (i := 0) rfl) : PtF _ _ _ _ _) e166
   obtain ⟨v175, v176, v177, rfl, h178, h179, h180⟩ := rEventReader_open h173
   have H := H.fzs [.at b167 o168 _, .sl Rp.str v175 x165.r.Phases, .sl rMoveT v176 x165.r.Moves, .sl rRule v177 x165.r.Rules] ⟨⟨h171, h172, h174⟩, h178, h179, h180, trivial⟩
   refine zA rfl rfl (yK (ad := ⟨b167, o168, none⟩) (congrArg Value.pointer q170)) ?_
   refine zA rfl rfl (fa88_2 rfl) ?_
   refine zA rfl rfl (fa86_3 rfl) ?_
   refine zA rfl rfl (zL one9 rfl (Cells.get (H.item (i := 9) rfl).2.2 (i := 5) rfl)) ?_
   refine zA rfl rfl (zK (v := .string (bs p1)) rfl) ?_
   obtain ⟨x185, e186, hF⟩ := zF hF
   refine zA rfl rfl (zM (xU (s1 := x165.now.text) (s2 := p1) rfl rfl) (congrArg Value.bool e186)) ?_
   refine zA rfl rfl (zY (v := .bool x185) rfl rfl) ?_
   refine zA rfl rfl (zG (v := .bool x185) rfl) ?_
   have hR := Option.some.inj hF
   subst hR
   refine (zJ (zB (And.intro ?_ ?_)))
   ·repeat' (first | with_reducible exact zS | refine zZ rfl ?_ | refine zT rfl rfl ?_)
   exact ⟨(), (zQ rfl zU), H.pick [] (by decide)⟩
  have hF := zW c164 hF
  refine zH rfl rfl ?_
  refine zH rfl rfl ?_
  refine zH rfl rfl ?_
  refine zH rfl rfl ?_
  refine zH rfl rfl ?_
  refine zH rfl rfl ?_
  refine zH rfl rfl ?_
  refine zA rfl rfl (zN (v := .bool false) rfl rfl) ?_
  refine zA rfl rfl (zG (v := .bool false) rfl) ?_
  have hR := Option.some.inj hF
  subst hR
  refine (zJ (zB (And.intro ?_ ?_)))
  ·repeat' (first | with_reducible exact zS | refine zZ rfl ?_ | refine zT rfl rfl ?_)
  exact ⟨(), (zQ rfl zU), H.pick [] (by decide)⟩
 rintro _ ρ w95 H
 have hF := hK96
 have hR := Option.some.inj hF
 subst hR
 refine (yG (post1 (v1 := .bool g94) rfl rfl ?_))
 exact ⟨rfl, H.pick [] (by decide)⟩
end Go.Proofs.YtnajnkghilemhaaGreatDoor.L
namespace Go.Proofs.YtnajnkghilemhaaGreatDoor.L
open Go.RowKit Go.OB Go.Lf
/- (*orangebox/event.reader).take -/
set_option maxHeartbeats 4000000 in
theorem F_event_reader_take_w (p0 : EventReader) (p1 : Int) (b1 : Nat) (v2 : Value) (v3 : Value) (v4 : Value) (r : EventToken × EventReader) (hF : F_event_reader_take p0 p1 = some r) (O S : List Nat) (w : World) (H : Hd O w w S [.own Rp.str v2 9 p0.r.Phases, .own rMoveT v3 102 p0.r.Moves, .own rRule v4 106 p0.r.Rules, .blk b1 [.string (bs p0.text), .int .i64 p0.at_, .int .i64 p0.now.kind, .int .i64 p0.now.at_, .int .i64 p0.now.n, .string (bs p0.now.text), v2, v3, v4] 88, .fz (.gi 4)]) :
  Calls Tryz.prog 140 ([.pointer (some ⟨b1, 0, none⟩), .int .i64 p1] : List Value).toArray w fun e w' => ∃ u10 u11 u12, e = .returned (.agg [.int .i64 r.1.kind, .int .i64 r.1.at_, .int .i64 r.1.n, .string (bs r.1.text)].toArray) ∧ Hd O w w' S [.own Rp.str u10 9 r.2.r.Phases, .own rMoveT u11 102 r.2.r.Moves, .own rRule u12 106 r.2.r.Rules, .blk b1 [.string (bs r.2.text), .int .i64 r.2.at_, .int .i64 r.2.now.kind, .int .i64 r.2.now.at_, .int .i64 r.2.now.n, .string (bs r.2.now.text), u10, u11, u12] 88] := by
 unfold F_event_reader_take at hF
 refine yD 22 Tryz.func140 rfl rfl rfl ?_
 refine zD fun K13 hK13 => ?_
 refine zC ?_
 refine yY rfl rfl (xJ zero86 H) ?_
 rintro _ w16 ⟨b14, rfl, H⟩
 refine (zJ (zB (hK13 _ _ ?_)))
 obtain ⟨j28, hF, hK27⟩ := zI hF
 refine yQ [6, 7, 8, 9, 10, 11, 12, 13, 14] (fun (g : Unit) => []) (fun g wl => Hd O w wl S [.own Rp.str v2 9 p0.r.Phases, .own rMoveT v3 102 p0.r.Moves, .own rRule v4 106 p0.r.Rules, .blk b1 [.string (bs p0.text), .int .i64 p0.at_, .int .i64 p0.now.kind, .int .i64 p0.now.at_, .int .i64 p0.now.n, .string (bs p0.now.text), v2, v3, v4] 88, .fz (.gi 4), .blk b14 [.int .i64 0, .int .i64 0, .int .i64 0, .string (bs [])] 86]) ?_ ?_
 ·skip
  refine zD fun K29 hK29 => ?_
  refine zC ?_
  refine zA rfl rfl (zK (v := .pointer (some ⟨b1, 0, none⟩)) rfl) ?_
  refine zA rfl rfl (yK rfl) ?_
  refine zA rfl rfl (fa88_2 rfl) ?_
  refine zA rfl rfl (fa86_0 rfl) ?_
  refine zA rfl rfl (zL one3 rfl (Cells.get (Blk.cells (H.item (i := 3) rfl)) (i := 2) rfl)) ?_
  refine zA rfl rfl (zK (v := .int .i64 p1) rfl) ?_
  obtain ⟨x30, e31, hF⟩ := zF hF
  refine zA rfl rfl (zM (xO (a := p0.now.kind) (b := p1) rfl rfl) (congrArg Value.bool e31)) ?_
  refine (zJ (zB (hK29 _ _ ?_)))
  refine yH (b := x30) rfl (fun c32 => ?_) (fun c32 => ?_)
  ·have hF := zV c32 hF
   refine zC ?_
   refine zA rfl rfl (zK (v := .pointer (some ⟨b1, 0, none⟩)) rfl) ?_
   have H33 := H
   have H := H.freezeB (i := 3) rfl
   have H := H.freeze (i := 0) rfl
   have H := H.freeze (i := 1) rfl
   have H := H.freeze (i := 2) rfl
   have H := H.fz (.pt rEventReader (some ⟨b1, 0, none⟩) (some p0)) ⟨_, _, _, rfl, (H.item (i := 3) rfl).1, (H.item (i := 3) rfl).2.1, (xP (x := p0) (H.item (i := 0) rfl) (H.item (i := 1) rfl) (H.item (i := 2) rfl)), (H.item (i := 3) rfl).2.2⟩
   obtain ⟨_, e35, hF⟩ := zI hF
   refine yA rfl rfl (zX en92 rfl) (F_event_reader_fail_w (some p0) 6 (some ⟨b1, 0, none⟩) _ e35 _ _ _ (H.enter [] [6] (by decide) rfl)) ?_
   rintro _ w36 ⟨rfl, G37⟩
   have H := H33.step (G37.only : Only [] _ _)
   refine ⟨_, rfl, ?_⟩
   have hR := Option.some.inj hF
   subst hR
   refine (zJ (zB (And.intro ?_ ?_)))
   ·repeat' (first | with_reducible exact zS | refine zZ rfl ?_ | refine zT rfl rfl ?_)
   exact ⟨(), zU, H.pick [0, 1, 2, 3, 4, 5] (by decide)⟩
  have hF := zW c32 hF
  have hR := Option.some.inj hF
  subst hR
  refine (yI (zB (And.intro ?_ ?_)))
  ·repeat' (first | with_reducible exact zS | refine zZ rfl ?_ | refine zT rfl rfl ?_)
  exact ⟨(), zU, H.pick [0, 1, 2, 3, 4, 5] (by decide)⟩
 rintro _ ρ w26 H
 have hF := hK27
 refine zD fun K38 hK38 => ?_
 refine zC ?_
 refine zA rfl rfl (zK (v := .pointer (some ⟨b1, 0, none⟩)) rfl) ?_
 refine zA rfl rfl (yK rfl) ?_
 refine zA rfl rfl (fa88_2 rfl) ?_
 refine zA rfl rfl (zM (yT (cs := [.int .i64 p0.now.kind, .int .i64 p0.now.at_, .int .i64 p0.now.n, .string (bs p0.now.text)]) agg86 rfl sz86 rfl (Cells.drop (Blk.cells (H.item (i := 3) rfl)) 2 4)) rfl) ?_
 refine yY rfl rfl (xJ zero86 H) ?_
 rintro _ w41 ⟨b39, rfl, H⟩
 refine yV rfl (yN (vs := [.int .i64 p0.now.kind, .int .i64 p0.now.at_, .int .i64 p0.now.n, .string (bs p0.now.text)]) H 6 rfl sz86 rfl rfl rfl ⟨rfl, rfl, rfl, rfl, trivial⟩ rfl) ?_
 rintro w42 H
 refine (zJ (zB (hK38 _ _ ?_)))
 refine zD fun K43 hK43 => ?_
 refine zC ?_
 refine zA rfl rfl (zK (v := .pointer (some ⟨b1, 0, none⟩)) rfl) ?_
 obtain ⟨x44, e45, hF⟩ := zI hF
 refine yA rfl rfl (zX en87 rfl) (F_event_reader_advance_w p0 b1 v2 v3 v4 _ e45 _ _ _ (H.enter [0, 1, 2, 3] [4] (by decide) rfl)) ?_
 rintro _ w52 ⟨v46, v47, v48, rfl, G53⟩
 have H : Hd O _ w52 _ [.fz (.gi 4), .blk b14 [.int .i64 0, .int .i64 0, .int .i64 0, .string (bs [])] 86, .blk b39 [.int .i64 p0.now.kind, .int .i64 p0.now.at_, .int .i64 p0.now.n, .string (bs p0.now.text)] 86, .own Rp.str v46 9 x44.r.Phases, .own rMoveT v47 102 x44.r.Moves, .own rRule v48 106 x44.r.Rules, .blk b1 [.string (bs x44.text), .int .i64 x44.at_, .int .i64 x44.now.kind, .int .i64 x44.now.at_, .int .i64 x44.now.n, .string (bs x44.now.text), v46, v47, v48] 88] := H.back [0, 1, 2, 3] [4] rfl G53
 refine ⟨_, rfl, ?_⟩
 refine (zJ (zB (hK43 _ _ ?_)))
 refine zD fun K54 hK54 => ?_
 refine zC ?_
 refine zA rfl rfl (zM (yT (cs := [.int .i64 p0.now.kind, .int .i64 p0.now.at_, .int .i64 p0.now.n, .string (bs p0.now.text)]) agg86 rfl sz86 rfl (Blk.cells (H.item (i := 2) rfl))) rfl) ?_
 refine yV rfl (yN (vs := [.int .i64 p0.now.kind, .int .i64 p0.now.at_, .int .i64 p0.now.n, .string (bs p0.now.text)]) H 1 rfl sz86 rfl rfl rfl ⟨rfl, rfl, rfl, rfl, trivial⟩ rfl) ?_
 rintro w55 H
 refine (zJ (zB (hK54 _ _ ?_)))
 have hR := Option.some.inj hF
 subst hR
 refine (yG (postc  rfl rfl (yL agg86 sz86 rfl (Blk.cells (H.item (i := 1) rfl))) ?_))
 exact ⟨v46, v47, v48, rfl, H.pick [3, 4, 5, 6] (by decide)⟩
end Go.Proofs.YtnajnkghilemhaaGreatDoor.L
namespace Go.Proofs.YtnajnkghilemhaaGreatDoor.L
open Go.RowKit Go.OB Go.Lf
/- (*orangebox/event.reader).name -/
set_option maxHeartbeats 4000000 in
theorem F_event_reader_name_w (p0 : EventReader) (b1 : Nat) (v2 : Value) (v3 : Value) (v4 : Value) (r : Str × EventReader) (hF : F_event_reader_name p0 = some r) (O S : List Nat) (w : World) (H : Hd O w w S [.own Rp.str v2 9 p0.r.Phases, .own rMoveT v3 102 p0.r.Moves, .own rRule v4 106 p0.r.Rules, .blk b1 [.string (bs p0.text), .int .i64 p0.at_, .int .i64 p0.now.kind, .int .i64 p0.now.at_, .int .i64 p0.now.n, .string (bs p0.now.text), v2, v3, v4] 88, .fz (.gi 4)]) :
  Calls Tryz.prog 89 ([.pointer (some ⟨b1, 0, none⟩)] : List Value).toArray w fun e w' => ∃ u10 u11 u12, e = .returned (.string (bs r.1)) ∧ Hd O w w' S [.own Rp.str u10 9 r.2.r.Phases, .own rMoveT u11 102 r.2.r.Moves, .own rRule u12 106 r.2.r.Rules, .blk b1 [.string (bs r.2.text), .int .i64 r.2.at_, .int .i64 r.2.now.kind, .int .i64 r.2.now.at_, .int .i64 r.2.now.n, .string (bs r.2.now.text), u10, u11, u12] 88] := by
 unfold F_event_reader_name at hF
 refine yD 6 Tryz.func89 rfl rfl rfl ?_
 refine zD fun K13 hK13 => ?_
 refine zC ?_
 refine zA rfl rfl (zG (v := .string (bs [])) rfl) ?_
 refine (zJ (zB (hK13 _ _ ?_)))
 refine zD fun K14 hK14 => ?_
 refine zC ?_
 refine zA rfl rfl (zK (v := .pointer (some ⟨b1, 0, none⟩)) rfl) ?_
 obtain ⟨⟨x15, x16⟩, e17, hF⟩ := zI hF
 refine yA rfl rfl (zX en140 rfl) (F_event_reader_take_w p0 2 b1 v2 v3 v4 _ e17 _ _ _ (H.enter [0, 1, 2, 3] [4] (by decide) rfl)) ?_
 rintro _ w24 ⟨v18, v19, v20, rfl, G25⟩
 have H : Hd O _ w24 _ [.fz (.gi 4), .own Rp.str v18 9 x16.r.Phases, .own rMoveT v19 102 x16.r.Moves, .own rRule v20 106 x16.r.Rules, .blk b1 [.string (bs x16.text), .int .i64 x16.at_, .int .i64 x16.now.kind, .int .i64 x16.now.at_, .int .i64 x16.now.n, .string (bs x16.now.text), v18, v19, v20] 88] := H.back [0, 1, 2, 3] [4] rfl G25
 refine ⟨_, rfl, ?_⟩
 refine zA rfl rfl (Do_field1 (v := .string (bs x15.text)) fo86_3 one9 rfl rfl) ?_
 refine zA rfl rfl (zG (v := .string (bs x15.text)) rfl) ?_
 refine (zJ (zB (hK14 _ _ ?_)))
 have hR := Option.some.inj hF
 subst hR
 refine (yG (post1 (v1 := .string (bs x15.text)) rfl rfl ?_))
 exact ⟨v18, v19, v20, rfl, H.pick [1, 2, 3, 4] (by decide)⟩
end Go.Proofs.YtnajnkghilemhaaGreatDoor.L
namespace Go.Proofs.YtnajnkghilemhaaGreatDoor.L
open Go.RowKit Go.OB Go.Lf
/- (*orangebox/event.reader).must -/
set_option maxHeartbeats 4000000 in
theorem F_event_reader_must_w (p0 : EventReader) (p1 : Str) (b1 : Nat) (v2 : Value) (v3 : Value) (v4 : Value) (r : EventReader) (hF : F_event_reader_must p0 p1 = some r) (O S : List Nat) (w : World) (H : Hd O w w S [.own Rp.str v2 9 p0.r.Phases, .own rMoveT v3 102 p0.r.Moves, .own rRule v4 106 p0.r.Rules, .blk b1 [.string (bs p0.text), .int .i64 p0.at_, .int .i64 p0.now.kind, .int .i64 p0.now.at_, .int .i64 p0.now.n, .string (bs p0.now.text), v2, v3, v4] 88, .fz (.gi 4)]) :
  Calls Tryz.prog 90 ([.pointer (some ⟨b1, 0, none⟩), .string (bs p1)] : List Value).toArray w fun e w' => ∃ u10 u11 u12, e = .returned (.tuple #[]) ∧ Hd O w w' S [.own Rp.str u10 9 r.r.Phases, .own rMoveT u11 102 r.r.Moves, .own rRule u12 106 r.r.Rules, .blk b1 [.string (bs r.text), .int .i64 r.at_, .int .i64 r.now.kind, .int .i64 r.now.at_, .int .i64 r.now.n, .string (bs r.now.text), u10, u11, u12] 88] := by
 unfold F_event_reader_must at hF
 refine yD 12 Tryz.func90 rfl rfl rfl ?_
 obtain ⟨j30, hF, hK29⟩ := zI hF
 refine yQ [4, 5, 6, 7, 8, 9] (fun (g : Unit) => []) (fun g wl => Hd O w wl S [.own Rp.str v2 9 p0.r.Phases, .own rMoveT v3 102 p0.r.Moves, .own rRule v4 106 p0.r.Rules, .blk b1 [.string (bs p0.text), .int .i64 p0.at_, .int .i64 p0.now.kind, .int .i64 p0.now.at_, .int .i64 p0.now.n, .string (bs p0.now.text), v2, v3, v4] 88, .fz (.gi 4)]) ?_ ?_
 ·skip
  refine zD fun K31 hK31 => ?_
  refine zC ?_
  refine zA rfl rfl (zK (v := .pointer (some ⟨b1, 0, none⟩)) rfl) ?_
  refine zA rfl rfl (zK (v := .string (bs p1)) rfl) ?_
  have H32 := H
  have H := H.freezeB (i := 3) rfl
  have H := H.freeze (i := 0) rfl
  have H := H.freeze (i := 1) rfl
  have H := H.freeze (i := 2) rfl
  have H := H.fz (.pt rEventReader (some ⟨b1, 0, none⟩) (some p0)) ⟨_, _, _, rfl, (H.item (i := 3) rfl).1, (H.item (i := 3) rfl).2.1, (xP (x := p0) (H.item (i := 0) rfl) (H.item (i := 1) rfl) (H.item (i := 2) rfl)), (H.item (i := 3) rfl).2.2⟩
  obtain ⟨x34, e35, hF⟩ := zI hF
  refine yA rfl rfl (zX en88 rfl) (F_event_reader_is_w (some p0) p1 (some ⟨b1, 0, none⟩) _ e35 _ _ _ (H.enter [] [5] (by decide) rfl)) ?_
  rintro _ w36 ⟨rfl, G37⟩
  have H := H32.step (G37.only : Only [] _ _)
  refine ⟨_, rfl, ?_⟩
  obtain ⟨x38, e39, hF⟩ := zF hF
  refine zA rfl rfl (zM (yS (p := x34) rfl) (congrArg Value.bool e39)) ?_
  refine (zJ (zB (hK31 _ _ ?_)))
  refine yH (b := x38) rfl (fun c40 => ?_) (fun c40 => ?_)
  ·have hF := zV c40 hF
   refine zC ?_
   refine zA rfl rfl (zK (v := .pointer (some ⟨b1, 0, none⟩)) rfl) ?_
   have H41 := H
   have H := H.freezeB (i := 3) rfl
   have H := H.freeze (i := 0) rfl
   have H := H.freeze (i := 1) rfl
   have H := H.freeze (i := 2) rfl
   have H := H.fz (.pt rEventReader (some ⟨b1, 0, none⟩) (some p0)) ⟨_, _, _, rfl, (H.item (i := 3) rfl).1, (H.item (i := 3) rfl).2.1, (xP (x := p0) (H.item (i := 0) rfl) (H.item (i := 1) rfl) (H.item (i := 2) rfl)), (H.item (i := 3) rfl).2.2⟩
   obtain ⟨_, e43, hF⟩ := zI hF
   refine yA rfl rfl (zX en92 rfl) (F_event_reader_fail_w (some p0) 6 (some ⟨b1, 0, none⟩) _ e43 _ _ _ (H.enter [] [5] (by decide) rfl)) ?_
   rintro _ w44 ⟨rfl, G45⟩
   have H := H41.step (G45.only : Only [] _ _)
   refine ⟨_, rfl, ?_⟩
   have hR := Option.some.inj hF
   subst hR
   refine (zJ (zB (And.intro ?_ ?_)))
   ·repeat' (first | with_reducible exact zS | refine zZ rfl ?_ | refine zT rfl rfl ?_)
   exact ⟨(), zU, H.pick [0, 1, 2, 3, 4] (by decide)⟩
  have hF := zW c40 hF
  have hR := Option.some.inj hF
  subst hR
  refine (yI (zB (And.intro ?_ ?_)))
  ·repeat' (first | with_reducible exact zS | refine zZ rfl ?_ | refine zT rfl rfl ?_)
  exact ⟨(), zU, H.pick [0, 1, 2, 3, 4] (by decide)⟩
 rintro _ ρ w28 H
 have hF := hK29
 refine zC ?_
 refine zA rfl rfl (zK (v := .pointer (some ⟨b1, 0, none⟩)) rfl) ?_
 obtain ⟨x46, e47, hF⟩ := zI hF
 refine yA rfl rfl (zX en87 rfl) (F_event_reader_advance_w p0 b1 v2 v3 v4 _ e47 _ _ _ (H.enter [0, 1, 2, 3] [4] (by decide) rfl)) ?_
 rintro _ w54 ⟨v48, v49, v50, rfl, G55⟩
 have H : Hd O _ w54 _ [.fz (.gi 4), .own Rp.str v48 9 x46.r.Phases, .own rMoveT v49 102 x46.r.Moves, .own rRule v50 106 x46.r.Rules, .blk b1 [.string (bs x46.text), .int .i64 x46.at_, .int .i64 x46.now.kind, .int .i64 x46.now.at_, .int .i64 x46.now.n, .string (bs x46.now.text), v48, v49, v50] 88] := H.back [0, 1, 2, 3] [4] rfl G55
 refine ⟨_, rfl, ?_⟩
 have hR := Option.some.inj hF
 subst hR
 refine (zJ (post0n rfl ?_))
 exact ⟨v48, v49, v50, rfl, H.pick [1, 2, 3, 4] (by decide)⟩
end Go.Proofs.YtnajnkghilemhaaGreatDoor.L
namespace Go.Proofs.YtnajnkghilemhaaGreatDoor.L
open Go.RowKit Go.OB Go.Lf
/- (*orangebox/event.reader).cond: its contract -/
abbrev S_event_reader_cond (f : EventReader → Int → Option (Cond × EventReader)) : Prop := ∀ (p0 : EventReader) (p1 : Int) (b1 : Nat) (v2 : Value) (v3 : Value) (v4 : Value) (r : Cond × EventReader) (hF : f p0 p1 = some r) (O S : List Nat) (w : World) (H : Hd O w w S [.own Rp.str v2 9 p0.r.Phases, .own rMoveT v3 102 p0.r.Moves, .own rRule v4 106 p0.r.Rules, .blk b1 [.string (bs p0.text), .int .i64 p0.at_, .int .i64 p0.now.kind, .int .i64 p0.now.at_, .int .i64 p0.now.n, .string (bs p0.now.text), v2, v3, v4] 88, .fz (.at 0 0 ((Fl.arr 7 Fl.str).f zO)), .fz (.gi 4)]),
  Calls Tryz.prog 91 ([.pointer (some ⟨b1, 0, none⟩), .int .i64 p1] : List Value).toArray w fun e w' => ∃ u11 u12 u13 u14, e = .returned (.agg [.int .i64 r.1.Kind, .string (bs r.1.Name), .string (bs r.1.Other), .int .i64 r.1.Op, .int .i64 r.1.N, .int .i64 r.1.Frames, u11].toArray) ∧ Hd O w w' S [.fz (.sl rCond u11 r.1.Kids), .own Rp.str u12 9 r.2.r.Phases, .own rMoveT u13 102 r.2.r.Moves, .own rRule u14 106 r.2.r.Rules, .blk b1 [.string (bs r.2.text), .int .i64 r.2.at_, .int .i64 r.2.now.kind, .int .i64 r.2.now.at_, .int .i64 r.2.now.n, .string (bs r.2.now.text), u12, u13, u14] 88]
end Go.Proofs.YtnajnkghilemhaaGreatDoor.L
namespace Go.Proofs.YtnajnkghilemhaaGreatDoor.L
open Go.RowKit Go.OB Go.Lf
/- slices.Index[[]string,string] -/
set_option maxHeartbeats 4000000 in
theorem F_slices_Index___string_string__w (p0 : List Str) (p1 : Str) (v1 : Value) (r : Int) (hF : F_slices_Index___string_string_ p0 p1 = some r) (O S : List Nat) (w : World) (H : Hd O w w S [.fz (.sl Rp.str v1 p0)]) :
  Calls Tryz.prog 118 ([v1, .string (bs p1)] : List Value).toArray w fun e w' => e = .returned (.int .i64 r) ∧ Hd O w w' S [] := by
 unfold F_slices_Index___string_string_ at hF
 refine yD 19 Tryz.func118 rfl rfl rfl ?_
 refine zD fun K3 hK3 => ?_
 refine zC ?_
 refine zA rfl rfl (zG (v := .int .i64 0) rfl) ?_
 refine (zJ (zB (hK3 _ _ ?_)))
 obtain ⟨k108, ek109, hF⟩ := wC hF
 refine yQ [4, 5, 6, 7, 8, 9, 10, 11, 12, 13, 14, 15, 16, 17, 18] (fun (g : Unit) => []) (fun g wl => Hd O w wl S [] ∧ k108 () = some r) ?_ ?_
 ·skip
  refine zD fun K110 hK110 => ?_
  refine zC ?_
  refine zA rfl rfl (zK (v := v1) rfl) ?_
  obtain ⟨x111, e112, hF⟩ := zF hF
  obtain ⟨a113, c114, q115⟩ := SlF.len ((H.item (i := 0) rfl))
  refine zA rfl rfl (zM (xA u22 q115) (congrArg (Value.int .i64) e112)) ?_
  refine zA rfl rfl (zK (v := .int .i64 0) rfl) ?_
  refine (zJ (zB (hK110 _ _ ?_)))
  refine yM ?_
  unfold F_slices_Index___string_string__L1 at hF
  obtain ⟨B208, n209, eB210, hF⟩ := yZ hF
  refine xN [4, 5, 8, 9, 10, 11, 12, 13, 14, 15, 16, 17, 18] (fun (g : Nat × Int) => [(8, .int .i64 g.2)]) (fun g wl => Hd O w wl S [.fz (.sl Rp.str v1 p0)] ∧ loopN B208 g.1 g.2 = some r) (fun g => g.1) (n209, 0) (zQ rfl zU) ⟨H.pick [0] (by decide), hF⟩ ?_
  clear H hF
  rintro ⟨n209, g207⟩ ρ w212 ⟨H, hF⟩
  obtain ⟨n213, rfl, hF⟩ := xH hF
  have hF := xG eB210 hF
  refine zD fun K214 hK214 => ?_
  refine zC ?_
  obtain ⟨x215, e216, hF⟩ := zF hF
  refine zA rfl rfl (zM (xZ (a := g207) (b := x111) rfl rfl) (congrArg Value.bool e216)) ?_
  refine (zJ (zB (hK214 _ _ ?_)))
  refine zD fun K218 hK218 => ?_
  refine yH (b := x215) rfl (fun c219 => ?_) (fun c219 => ?_)
  ·have hF := zV c219 hF
   refine (yI (zB (hK218 _ _ ?_)))
   refine zD fun K238 hK238 => ?_
   refine yM ?_
   refine zD fun K239 hK239 => ?_
   refine zC ?_
   refine zA rfl rfl (zK (v := .int .i64 g207) rfl) ?_
   refine zA rfl rfl (zG (v := .int .i64 g207) rfl) ?_
   refine (zJ (zB (hK239 _ _ ?_)))
   refine zD fun K240 hK240 => ?_
   refine zC ?_
   refine zA rfl rfl (zK (v := .string (bs p1)) rfl) ?_
   refine zA rfl rfl (zK (v := v1) rfl) ?_
   refine zA rfl rfl (zK (v := .int .i64 g207) rfl) ?_
   obtain ⟨x241, e242, hF⟩ := zI hF
   obtain ⟨b243, o244, c245, cs246, q247, h250, h248, h249, h251⟩ := rd_at (H.item (i := 0) rfl) e242
   obtain rfl : cs246 = [.string (bs x241)] := h250
   have H := H.fz (.at b243 (o244 + g207.toNat * 1) _) ⟨h248, h249, h251⟩
   refine zA rfl rfl (xY u22 sz9 q247 rfl (yP e242).1 (yP e242).2.1 rfl rfl) ?_
   refine zA rfl rfl (zL one9 rfl (Cells.get (H.item (i := 1) rfl).2.2 (i := 0) rfl)) ?_
   obtain ⟨x253, e254, hF⟩ := zF hF
   refine zA rfl rfl (zM (xU (s1 := p1) (s2 := x241) rfl rfl) (congrArg Value.bool e254)) ?_
   refine (zJ (zB (hK240 _ _ ?_)))
   refine yH (b := x253) rfl (fun c255 => ?_) (fun c255 => ?_)
   ·have hF := zV c255 hF
    refine zD fun K256 hK256 => ?_
    refine zC ?_
    refine zA rfl rfl (zK (v := .int .i64 g207) rfl) ?_
    refine zA rfl rfl (zG (v := .int .i64 g207) rfl) ?_
    refine (zJ (zB (hK256 _ _ ?_)))
    have hR := Option.some.inj hF
    subst hR
    refine (yG (yJ (yC (yC (yJ (yC (post1 (v1 := .int .i64 g207) rfl rfl ?_)))))))
    exact ⟨rfl, H.pick [] (by decide)⟩
   have hF := zW c255 hF
   refine (yI (yX (zB (hK238 _ _ ?_))))
   refine zC ?_
   obtain ⟨x257, e258, hF⟩ := zF hF
   refine zA rfl rfl (wE (a := g207) (b := 1) rfl rfl e258) ?_
   refine zA rfl rfl (zK (v := .int .i64 x257) rfl) ?_
   refine (zJ (zB (And.intro ?_ ?_)))
   ·repeat' (first | with_reducible exact zS | refine zZ rfl ?_ | refine zT rfl rfl ?_)
   exact ⟨(n213, x257), (zQ rfl zU), ⟨H.pick [0] (by decide), hF⟩, Nat.lt_succ_self _⟩
  have hF := zW c219 hF
  refine (xW (yU (yU (xE (zB (And.intro ?_ ?_))))))
  ·repeat' (first | with_reducible exact zS | refine zZ rfl ?_ | refine zT rfl rfl ?_)
  exact ⟨(), zU, ⟨H.pick [] (by decide), hF⟩⟩
 rintro _ ρ w107 ⟨H, hF⟩
 have hF := wJ ek109 hF
 refine zD fun K259 hK259 => ?_
 refine zC ?_
 refine zA rfl rfl (zG (v := .int .i64 (-1)) rfl) ?_
 refine (zJ (zB (hK259 _ _ ?_)))
 have hR := Option.some.inj hF
 subst hR
 refine (yG (post1 (v1 := .int .i64 (-1)) rfl rfl ?_))
 exact ⟨rfl, H.pick [] (by decide)⟩
end Go.Proofs.YtnajnkghilemhaaGreatDoor.L
namespace Go.Proofs.YtnajnkghilemhaaGreatDoor.L
open Go.RowKit Go.OB Go.Lf
/- slices.Contains[[]string,string] -/
set_option maxHeartbeats 4000000 in
theorem F_slices_Contains___string_string__w (p0 : List Str) (p1 : Str) (v1 : Value) (r : Bool) (hF : F_slices_Contains___string_string_ p0 p1 = some r) (O S : List Nat) (w : World) (H : Hd O w w S [.fz (.sl Rp.str v1 p0)]) :
  Calls Tryz.prog 65 ([v1, .string (bs p1)] : List Value).toArray w fun e w' => e = .returned (.bool r) ∧ Hd O w w' S [] := by
 unfold F_slices_Contains___string_string_ at hF
 refine yD 9 Tryz.func65 rfl rfl rfl ?_
 refine zD fun K3 hK3 => ?_
 refine zC ?_
 refine zA rfl rfl (zG (v := .bool false) rfl) ?_
 refine (zJ (zB (hK3 _ _ ?_)))
 refine zD fun K4 hK4 => ?_
 refine zC ?_
 refine zA rfl rfl (zK (v := v1) rfl) ?_
 refine zA rfl rfl (zK (v := .string (bs p1)) rfl) ?_
 have H5 := H
 obtain ⟨x6, e7, hF⟩ := zI hF
 refine yA rfl rfl (zX en118 rfl) (F_slices_Index___string_string__w p0 p1 v1 _ e7 _ _ _ (H.enter [] [0] (by decide) rfl)) ?_
 rintro _ w8 ⟨rfl, G9⟩
 have H := H5.step (G9.only : Only [] _ _)
 refine ⟨_, rfl, ?_⟩
 obtain ⟨x10, e11, hF⟩ := zF hF
 refine zA rfl rfl (zM (Do_geq (a := x6) (b := 0) rfl rfl) (congrArg Value.bool e11)) ?_
 refine zA rfl rfl (zG (v := .bool x10) rfl) ?_
 refine (zJ (zB (hK4 _ _ ?_)))
 have hR := Option.some.inj hF
 subst hR
 refine (yG (post1 (v1 := .bool x10) rfl rfl ?_))
 exact ⟨rfl, H.pick [] (by decide)⟩
end Go.Proofs.YtnajnkghilemhaaGreatDoor.L
namespace Go.Proofs.YtnajnkghilemhaaGreatDoor.L
open Go.RowKit Go.OB Go.Lf
/- (*orangebox/event.reader).begins -/
set_option maxHeartbeats 4000000 in
theorem F_event_reader_begins_w (p0 : Option EventReader) (v1 : Option Addr) (r : Bool) (hF : F_event_reader_begins p0 = some r) (O S : List Nat) (w : World) (H : Hd O w w S [.fz (.pt rEventReader v1 p0)]) :
  Calls Tryz.prog 178 ([.pointer v1] : List Value).toArray w fun e w' => e = .returned (.bool r) ∧ Hd O w w' S [] := by
 unfold F_event_reader_begins at hF
 refine yD 21 Tryz.func178 rfl rfl rfl ?_
 refine zD fun K3 hK3 => ?_
 refine zC ?_
 refine zA rfl rfl (zG (v := .bool false) rfl) ?_
 refine (zJ (zB (hK3 _ _ ?_)))
 refine zD fun K65 hK65 => ?_
 refine zD fun K66 hK66 => ?_
 refine zC ?_
 refine zA rfl rfl (zK (v := .pointer v1) rfl) ?_
 obtain ⟨x67, e68, hF⟩ := zI hF
 obtain ⟨b69, o70, cs71, q72, h73, h74, h75, h76⟩ := ptf_some ((H.item (i := 0) rfl) : PtF _ _ _ _ _) e68
 obtain ⟨v77, v78, v79, rfl, h80, h81, h82⟩ := rEventReader_open h75
 have H := H.fzs [.at b69 o70 _, .sl Rp.str v77 x67.r.Phases, .sl rMoveT v78 x67.r.Moves, .sl rRule v79 x67.r.Rules] ⟨⟨h73, h74, h76⟩, h80, h81, h82, trivial⟩
 refine zA rfl rfl (yK (ad := ⟨b69, o70, none⟩) (congrArg Value.pointer q72)) ?_
 refine zA rfl rfl (fa88_2 rfl) ?_
 refine zA rfl rfl (fa86_0 rfl) ?_
 refine zA rfl rfl (zL one3 rfl (Cells.get (H.item (i := 1) rfl).2.2 (i := 2) rfl)) ?_
 refine (zJ (zB (hK66 _ _ ?_)))
 refine yM ?_
 refine zD fun K87 hK87 => ?_
 refine zC ?_
 obtain ⟨x88, e89, hF⟩ := zF hF
 refine zA rfl rfl (zM (xC (a := x67.now.kind) (b := 2) rfl rfl) (congrArg Value.bool e89)) ?_
 refine zA rfl rfl (zG (v := .bool x88) rfl) ?_
 refine (zJ (zB (hK87 _ _ ?_)))
 refine yH (b := x88) rfl (fun c90 => ?_) (fun c90 => ?_)
 ·have hF := zV c90 hF
  refine zD fun K91 hK91 => ?_
  refine zC ?_
  refine zA rfl rfl (zG (v := .bool true) rfl) ?_
  refine (zJ (zB (hK91 _ _ ?_)))
  have hR := Option.some.inj hF
  subst hR
  refine (yG (yJ (yC (post1 (v1 := .bool true) rfl rfl ?_))))
  exact ⟨rfl, H.pick [] (by decide)⟩
 have hF := zW c90 hF
 refine zD fun K92 hK92 => ?_
 refine zC ?_
 obtain ⟨x93, e94, hF⟩ := zF hF
 refine zA rfl rfl (zM (xC (a := x67.now.kind) (b := 1) rfl rfl) (congrArg Value.bool e94)) ?_
 refine zA rfl rfl (zG (v := .bool x93) rfl) ?_
 refine (zJ (zB (hK92 _ _ ?_)))
 refine yH (b := x93) rfl (fun c95 => ?_) (fun c95 => ?_)
 ·have hF := zV c95 hF
  refine zD fun K96 hK96 => ?_
  refine zC ?_
  obtain ⟨x97, e98, hF⟩ := zF hF
  subst e98
  refine yY rfl rfl (Lx_bs (r := Rp.str) (xl := [[116, 114, 117, 101], [102, 97, 108, 115, 101], [115, 116, 101, 97, 100, 121], [112, 104, 97, 115, 101], [114, 117, 108, 101], [110, 111, 116], [102, 111, 114], [119, 105, 116, 104, 105, 110], [99, 111, 117, 110, 116], [114, 105, 115, 101, 115], [115, 105, 110, 99, 101]]) (cs := [.string (bs [116, 114, 117, 101]), .string (bs [102, 97, 108, 115, 101]), .string (bs [115, 116, 101, 97, 100, 121]), .string (bs [112, 104, 97, 115, 101]), .string (bs [114, 117, 108, 101]), .string (bs [110, 111, 116]), .string (bs [102, 111, 114]), .string (bs [119, 105, 116, 104, 105, 110]), .string (bs [99, 111, 117, 110, 116]), .string (bs [114, 105, 115, 101, 115]), .string (bs [115, 105, 110, 99, 101])]) u22 el9 (by decide) (by decide) rfl (wF (vs := [.string (bs [116, 114, 117, 101]), .string (bs [102, 97, 108, 115, 101]), .string (bs [115, 116, 101, 97, 100, 121]), .string (bs [112, 104, 97, 115, 101]), .string (bs [114, 117, 108, 101]), .string (bs [110, 111, 116]), .string (bs [102, 111, 114]), .string (bs [119, 105, 116, 104, 105, 110]), .string (bs [99, 111, 117, 110, 116]), .string (bs [114, 105, 115, 101, 115]), .string (bs [115, 105, 110, 99, 101])]) (by decide) rfl rfl ⟨rfl, rfl, rfl, rfl, rfl, rfl, rfl, rfl, rfl, rfl, rfl, trivial⟩ rfl) H ⟨[.string (bs [116, 114, 117, 101])], [.string (bs [102, 97, 108, 115, 101]), .string (bs [115, 116, 101, 97, 100, 121]), .string (bs [112, 104, 97, 115, 101]), .string (bs [114, 117, 108, 101]), .string (bs [110, 111, 116]), .string (bs [102, 111, 114]), .string (bs [119, 105, 116, 104, 105, 110]), .string (bs [99, 111, 117, 110, 116]), .string (bs [114, 105, 115, 101, 115]), .string (bs [115, 105, 110, 99, 101])], rfl, rfl, ⟨[.string (bs [102, 97, 108, 115, 101])], [.string (bs [115, 116, 101, 97, 100, 121]), .string (bs [112, 104, 97, 115, 101]), .string (bs [114, 117, 108, 101]), .string (bs [110, 111, 116]), .string (bs [102, 111, 114]), .string (bs [119, 105, 116, 104, 105, 110]), .string (bs [99, 111, 117, 110, 116]), .string (bs [114, 105, 115, 101, 115]), .string (bs [115, 105, 110, 99, 101])], rfl, rfl, ⟨[.string (bs [115, 116, 101, 97, 100, 121])], [.string (bs [112, 104, 97, 115, 101]), .string (bs [114, 117, 108, 101]), .string (bs [110, 111, 116]), .string (bs [102, 111, 114]), .string (bs [119, 105, 116, 104, 105, 110]), .string (bs [99, 111, 117, 110, 116]), .string (bs [114, 105, 115, 101, 115]), .string (bs [115, 105, 110, 99, 101])], rfl, rfl, ⟨[.string (bs [112, 104, 97, 115, 101])], [.string (bs [114, 117, 108, 101]), .string (bs [110, 111, 116]), .string (bs [102, 111, 114]), .string (bs [119, 105, 116, 104, 105, 110]), .string (bs [99, 111, 117, 110, 116]), .string (bs [114, 105, 115, 101, 115]), .string (bs [115, 105, 110, 99, 101])], rfl, rfl, ⟨[.string (bs [114, 117, 108, 101])], [.string (bs [110, 111, 116]), .string (bs [102, 111, 114]), .string (bs [119, 105, 116, 104, 105, 110]), .string (bs [99, 111, 117, 110, 116]), .string (bs [114, 105, 115, 101, 115]), .string (bs [115, 105, 110, 99, 101])], rfl, rfl, ⟨[.string (bs [110, 111, 116])], [.string (bs [102, 111, 114]), .string (bs [119, 105, 116, 104, 105, 110]), .string (bs [99, 111, 117, 110, 116]), .string (bs [114, 105, 115, 101, 115]), .string (bs [115, 105, 110, 99, 101])], rfl, rfl, ⟨[.string (bs [102, 111, 114])], [.string (bs [119, 105, 116, 104, 105, 110]), .string (bs [99, 111, 117, 110, 116]), .string (bs [114, 105, 115, 101, 115]), .string (bs [115, 105, 110, 99, 101])], rfl, rfl, ⟨[.string (bs [119, 105, 116, 104, 105, 110])], [.string (bs [99, 111, 117, 110, 116]), .string (bs [114, 105, 115, 101, 115]), .string (bs [115, 105, 110, 99, 101])], rfl, rfl, ⟨[.string (bs [99, 111, 117, 110, 116])], [.string (bs [114, 105, 115, 101, 115]), .string (bs [115, 105, 110, 99, 101])], rfl, rfl, ⟨[.string (bs [114, 105, 115, 101, 115])], [.string (bs [115, 105, 110, 99, 101])], rfl, rfl, ⟨[.string (bs [115, 105, 110, 99, 101])], [], rfl, rfl, rfl⟩⟩⟩⟩⟩⟩⟩⟩⟩⟩⟩) ?_
  rintro v100 w101 H
  refine zA rfl rfl (zK (v := .pointer v1) rfl) ?_
  obtain ⟨x102, e103, hF⟩ := zI hF
  obtain ⟨b104, o105, cs106, q107, h108, h109, h110, h111⟩ := ptf_some ((H.item (i := 0) rfl) : PtF _ _ _ _ _) e103
  obtain ⟨v112, v113, v114, rfl, h115, h116, h117⟩ := rEventReader_open h110
  have H := H.fzs [.at b104 o105 _, .sl Rp.str v112 x102.r.Phases, .sl rMoveT v113 x102.r.Moves, .sl rRule v114 x102.r.Rules] ⟨⟨h108, h109, h111⟩, h115, h116, h117, trivial⟩
  refine zA rfl rfl (yK (ad := ⟨b104, o105, none⟩) (congrArg Value.pointer q107)) ?_
  refine zA rfl rfl (fa88_2 rfl) ?_
  refine zA rfl rfl (fa86_3 rfl) ?_
  refine zA rfl rfl (zL one9 rfl (Cells.get (H.item (i := 6) rfl).2.2 (i := 5) rfl)) ?_
  have H122 := H
  have H := H.freeze (i := 5) rfl
  obtain ⟨x123, e124, hF⟩ := zI hF
  refine yA rfl rfl (zX en65 rfl) (F_slices_Contains___string_string__w ([[116, 114, 117, 101], [102, 97, 108, 115, 101], [115, 116, 101, 97, 100, 121], [112, 104, 97, 115, 101], [114, 117, 108, 101], [110, 111, 116], [102, 111, 114], [119, 105, 116, 104, 105, 110], [99, 111, 117, 110, 116], [114, 105, 115, 101, 115], [115, 105, 110, 99, 101]] : List Str) x102.now.text v100 _ e124 _ _ _ (H.enter [] [5] (by decide) rfl)) ?_
  rintro _ w125 ⟨rfl, G126⟩
  have H := H122.step (G126.only : Only [] _ _)
  refine ⟨_, rfl, ?_⟩
  refine zA rfl rfl (zG (v := .bool x123) rfl) ?_
  refine (zJ (zB (hK96 _ _ ?_)))
  have hR := Option.some.inj hF
  subst hR
  refine (yG (yJ (yC (post1 (v1 := .bool x123) rfl rfl ?_))))
  exact ⟨rfl, H.pick [] (by decide)⟩
 have hF := zW c95 hF
 refine (yI (yX (zB (hK65 _ _ ?_))))
 refine zD fun K127 hK127 => ?_
 refine zC ?_
 refine zA rfl rfl (zK (v := .pointer v1) rfl) ?_
 have H128 := H
 obtain ⟨x129, e130, hF⟩ := zI hF
 refine yA rfl rfl (zX en88 rfl) (F_event_reader_is_w p0 [40] v1 _ e130 _ _ _ (H.enter [] [0] (by decide) rfl)) ?_
 rintro _ w131 ⟨rfl, G132⟩
 have H := H128.step (G132.only : Only [] _ _)
 refine ⟨_, rfl, ?_⟩
 refine zA rfl rfl (zG (v := .bool x129) rfl) ?_
 refine (zJ (zB (hK127 _ _ ?_)))
 have hR := Option.some.inj hF
 subst hR
 refine (yG (post1 (v1 := .bool x129) rfl rfl ?_))
 exact ⟨rfl, H.pick [] (by decide)⟩
end Go.Proofs.YtnajnkghilemhaaGreatDoor.L
namespace Go.Proofs.YtnajnkghilemhaaGreatDoor.L
open Go.RowKit Go.OB Go.Lf
/- (*orangebox/event.reader).number -/
set_option maxHeartbeats 4000000 in
theorem F_event_reader_number_w (p0 : EventReader) (b1 : Nat) (v2 : Value) (v3 : Value) (v4 : Value) (r : Int × EventReader) (hF : F_event_reader_number p0 = some r) (O S : List Nat) (w : World) (H : Hd O w w S [.own Rp.str v2 9 p0.r.Phases, .own rMoveT v3 102 p0.r.Moves, .own rRule v4 106 p0.r.Rules, .blk b1 [.string (bs p0.text), .int .i64 p0.at_, .int .i64 p0.now.kind, .int .i64 p0.now.at_, .int .i64 p0.now.n, .string (bs p0.now.text), v2, v3, v4] 88, .fz (.gi 4)]) :
  Calls Tryz.prog 181 ([.pointer (some ⟨b1, 0, none⟩)] : List Value).toArray w fun e w' => ∃ u10 u11 u12, e = .returned (.int .i64 r.1) ∧ Hd O w w' S [.own Rp.str u10 9 r.2.r.Phases, .own rMoveT u11 102 r.2.r.Moves, .own rRule u12 106 r.2.r.Rules, .blk b1 [.string (bs r.2.text), .int .i64 r.2.at_, .int .i64 r.2.now.kind, .int .i64 r.2.now.at_, .int .i64 r.2.now.n, .string (bs r.2.now.text), u10, u11, u12] 88] := by
 unfold F_event_reader_number at hF
 refine yD 6 Tryz.func181 rfl rfl rfl ?_
 refine zD fun K13 hK13 => ?_
 refine zC ?_
 refine zA rfl rfl (zG (v := .int .i64 0) rfl) ?_
 refine (zJ (zB (hK13 _ _ ?_)))
 refine zD fun K14 hK14 => ?_
 refine zC ?_
 refine zA rfl rfl (zK (v := .pointer (some ⟨b1, 0, none⟩)) rfl) ?_
 obtain ⟨⟨x15, x16⟩, e17, hF⟩ := zI hF
 refine yA rfl rfl (zX en140 rfl) (F_event_reader_take_w p0 3 b1 v2 v3 v4 _ e17 _ _ _ (H.enter [0, 1, 2, 3] [4] (by decide) rfl)) ?_
 rintro _ w24 ⟨v18, v19, v20, rfl, G25⟩
 have H : Hd O _ w24 _ [.fz (.gi 4), .own Rp.str v18 9 x16.r.Phases, .own rMoveT v19 102 x16.r.Moves, .own rRule v20 106 x16.r.Rules, .blk b1 [.string (bs x16.text), .int .i64 x16.at_, .int .i64 x16.now.kind, .int .i64 x16.now.at_, .int .i64 x16.now.n, .string (bs x16.now.text), v18, v19, v20] 88] := H.back [0, 1, 2, 3] [4] rfl G25
 refine ⟨_, rfl, ?_⟩
 refine zA rfl rfl (Do_field1 (v := .int .i64 x15.n) fo86_2 one3 rfl rfl) ?_
 refine zA rfl rfl (zG (v := .int .i64 x15.n) rfl) ?_
 refine (zJ (zB (hK14 _ _ ?_)))
 have hR := Option.some.inj hF
 subst hR
 refine (yG (post1 (v1 := .int .i64 x15.n) rfl rfl ?_))
 exact ⟨v18, v19, v20, rfl, H.pick [1, 2, 3, 4] (by decide)⟩
end Go.Proofs.YtnajnkghilemhaaGreatDoor.L
