/- Walks: what each function computes, for every argument; no condition but those that stand in the statements. -/
import Derived.Test.YtnajnkghilemhaaGreatDoorSV0
import Derived.Test.YtnajnkghilemhaaGreatDoorSV7
namespace Go.Proofs.YtnajnkghilemhaaGreatDoor.L
open Go.RowKit Go.OB Go.Lf
set_option maxHeartbeats 4000000 in
theorem F_internal_stringslite_HasPrefix_w (p0 : Str) (p1 : Str) (r : Bool) (hF : F_internal_stringslite_HasPrefix p0 p1 = some r) (O S : List Nat) (w : World) (H : Hd O w w S []) :
  Calls Tryz.prog 177 ([.string (bs p0), .string (bs p1)] : List Value).toArray w fun e w' => e = .returned (.bool r) ∧ Hd O w w' S [] := by
 unfold F_internal_stringslite_HasPrefix at hF
 refine yC 18 Tryz.func177 rfl rfl rfl ?_
 refine zC fun K1 hK1 => ?_
 refine zB ?_
 refine zI (.bool false) ?_
 refine (zF (zA (hK1 _ _ ?_)))
 obtain ⟨g15, hF, hK17⟩ := zD hF
 refine yO [4, 5, 6, 7, 8, 9, 10, 11, 12, 13, 14, 15, 16, 17] (fun (g : Unit) => [(4, .bool g15)]) (fun g wl => Hd O w wl S []) ?_ ?_
 ·skip
  refine zB ?_
  refine zN (.string (bs p0)) ?_
  obtain ⟨x18, e19, hF⟩ := zG hF
  refine zH (yL (Do_slen (s1 := p0) u9 rfl) (congrArg (Value.int .i64) e19)) ?_
  refine zN (.string (bs p1)) ?_
  obtain ⟨x20, e21, hF⟩ := zG hF
  refine zH (yL (Do_slen (s1 := p1) u9 rfl) (congrArg (Value.int .i64) e21)) ?_
  obtain ⟨x22, e23, hF⟩ := zG hF
  refine zH (zV (Do_geq (a := x18) (b := x20) rfl rfl) e23) ?_
  refine yQ (b := x22) rfl rfl rfl (fun c24 => ?_) (fun c24 => ?_)
  ·have hF := zQ c24 hF
   refine zN (.string (bs p0)) ?_
   refine zN (.string (bs p1)) ?_
   obtain ⟨x25, e26, hF⟩ := zG hF
   refine zH (yL (Do_slen (s1 := p1) u9 rfl) (congrArg (Value.int .i64) e26)) ?_
   obtain ⟨x27, e28, hF⟩ := zD hF
   refine zH (Do_cut_h (s1 := p0) u9 rfl rfl e28) ?_
   refine zN (.string (bs p1)) ?_
   obtain ⟨x29, e30, hF⟩ := zG hF
   refine zH (zV (wH (s1 := x27) (s2 := p1) rfl rfl) e30) ?_
   refine zH (yP (v := .bool x29) rfl rfl) ?_
   refine zI (.bool x29) ?_
   obtain rfl := someI hF
   exact (zF (zA (meet ⟨(), (zL rfl zO), H.pick [] (by decide)⟩)))
  have hF := zS c24 hF
  refine yG ?_
  refine yG ?_
  refine yG ?_
  refine yG ?_
  refine yG ?_
  refine yG ?_
  refine zH (yJ (v := .bool false) rfl rfl) ?_
  refine zI (.bool false) ?_
  obtain rfl := someI hF
  exact (zF (zA (meet ⟨(), (zL rfl zO), H.pick [] (by decide)⟩)))
 rintro _ ρ w16 H
 have hF := hK17
 obtain rfl := someI hF
 refine (yB (post1 (v1 := .bool g15) rfl rfl ?_))
 exact ⟨rfl, H.pick [] (by decide)⟩
set_option maxHeartbeats 4000000 in
theorem F_internal_stringslite_TrimPrefix_w (p0 : Str) (p1 : Str) (r : Str) (hF : F_internal_stringslite_TrimPrefix p0 p1 = some r) (O S : List Nat) (w : World) (H : Hd O w w S []) :
  Calls Tryz.prog 205 ([.string (bs p0), .string (bs p1)] : List Value).toArray w fun e w' => e = .returned (.string (bs r)) ∧ Hd O w w' S [] := by
 unfold F_internal_stringslite_TrimPrefix at hF
 refine yC 13 Tryz.func205 rfl rfl rfl ?_
 refine zC fun K1 hK1 => ?_
 refine zB ?_
 refine zI (.string (bs [])) ?_
 refine (zF (zA (hK1 _ _ ?_)))
 refine zC fun K14 hK14 => ?_
 refine zC fun K15 hK15 => ?_
 refine zB ?_
 refine zN (.string (bs p0)) ?_
 refine zN (.string (bs p1)) ?_
 have H16 := H
 obtain ⟨x17, e18, hF⟩ := zD hF
 refine zW rfl rfl (zT en177 rfl) (F_internal_stringslite_HasPrefix_w p0 p1 _ e18 _ _ _ (H.enter [] [] (by decide) rfl)) ?_
 rintro _ w19 ⟨rfl, G20⟩
 have H := H16.step (G20.only : Only [] _ _)
 refine ⟨_, rfl, ?_⟩
 refine (zF (zA (hK15 _ _ ?_)))
 refine zZ (b := x17) rfl (fun c21 => ?_) (fun c21 => ?_)
 ·have hF := zQ c21 hF
  refine zC fun K22 hK22 => ?_
  refine zB ?_
  refine zN (.string (bs p0)) ?_
  refine zN (.string (bs p1)) ?_
  obtain ⟨x23, e24, hF⟩ := zG hF
  refine zH (yL (Do_slen (s1 := p1) u9 rfl) (congrArg (Value.int .i64) e24)) ?_
  obtain ⟨x25, e26, hF⟩ := zD hF
  refine zH (Do_cut_l (s1 := p0) u9 rfl rfl e26) ?_
  refine zI (.string (bs x25)) ?_
  refine (zF (zA (hK22 _ _ ?_)))
  obtain rfl := someI hF
  refine (yB (zX (post1 (v1 := .string (bs x25)) rfl rfl ?_)))
  exact ⟨rfl, H.pick [] (by decide)⟩
 have hF := zS c21 hF
 refine (yA (zA (hK14 _ _ ?_)))
 refine zC fun K27 hK27 => ?_
 refine zB ?_
 refine zN (.string (bs p0)) ?_
 refine zI (.string (bs p0)) ?_
 refine (zF (zA (hK27 _ _ ?_)))
 obtain rfl := someI hF
 refine (yB (post1 (v1 := .string (bs p0)) rfl rfl ?_))
 exact ⟨rfl, H.pick [] (by decide)⟩
set_option maxHeartbeats 4000000 in
theorem F_strings_TrimPrefix_w (p0 : Str) (p1 : Str) (r : Str) (hF : F_strings_TrimPrefix p0 p1 = some r) (O S : List Nat) (w : World) (H : Hd O w w S []) :
  Calls Tryz.prog 176 ([.string (bs p0), .string (bs p1)] : List Value).toArray w fun e w' => e = .returned (.string (bs r)) ∧ Hd O w w' S [] := by
 unfold F_strings_TrimPrefix at hF
 refine yC 8 Tryz.func176 rfl rfl rfl ?_
 refine zC fun K1 hK1 => ?_
 refine zB ?_
 refine zI (.string (bs [])) ?_
 refine (zF (zA (hK1 _ _ ?_)))
 refine zC fun K2 hK2 => ?_
 refine zB ?_
 refine zN (.string (bs p0)) ?_
 refine zN (.string (bs p1)) ?_
 have H3 := H
 obtain ⟨x4, e5, hF⟩ := zD hF
 refine zW rfl rfl (zT en205 rfl) (F_internal_stringslite_TrimPrefix_w p0 p1 _ e5 _ _ _ (H.enter [] [] (by decide) rfl)) ?_
 rintro _ w6 ⟨rfl, G7⟩
 have H := H3.step (G7.only : Only [] _ _)
 refine ⟨_, rfl, ?_⟩
 refine zI (.string (bs x4)) ?_
 refine (zF (zA (hK2 _ _ ?_)))
 obtain rfl := someI hF
 refine (yB (post1 (v1 := .string (bs x4)) rfl rfl ?_))
 exact ⟨rfl, H.pick [] (by decide)⟩
set_option maxHeartbeats 4000000 in
set_option maxRecDepth 100000 in
theorem F_event_reader_run_w (p0 : EventReader) (b1 : Nat) (v2 : Value) (v3 : Value) (v4 : Value) (r : EventReader) (hF : F_event_reader_run p0 = some r) (O S : List Nat) (w : World) (H : Hd O w w S [.own Rp.str v2 9 p0.r.Phases, .own rMoveT v3 102 p0.r.Moves, .own rRule v4 106 p0.r.Rules, .blk b1 [.string (bs p0.text), .int .i64 p0.at_, .int .i64 p0.now.kind, .int .i64 p0.now.at_, .int .i64 p0.now.n, .string (bs p0.now.text), v2, v3, v4] 88, .fz (.gi 4)]) :
  Calls Tryz.prog 138 ([.pointer (some ⟨b1, 0, none⟩)] : List Value).toArray w fun e w' => ∃ u10 u11 u12, e = .returned (.tuple #[]) ∧ Hd O w w' S [.own Rp.str u10 9 r.r.Phases, .own rMoveT u11 102 r.r.Moves, .own rRule u12 106 r.r.Rules, .blk b1 [.string (bs r.text), .int .i64 r.at_, .int .i64 r.now.kind, .int .i64 r.now.at_, .int .i64 r.now.n, .string (bs r.now.text), u10, u11, u12] 88] := by
 unfold F_event_reader_run at hF
 refine yC 55 Tryz.func138 rfl rfl rfl ?_
 refine zC fun K13 hK13 => ?_
 refine zB ?_
 refine zN (.pointer (some ⟨b1, 0, none⟩)) ?_
 refine zH (yM rfl) ?_
 refine zH (fa88_2 rfl) ?_
 refine zH (fa86_3 rfl) ?_
 refine zH (zM one9 rfl (Cells.get (Blk.cells (H.item (i := 3) rfl)) (i := 5) rfl)) ?_
 refine zI (.string (bs p0.now.text)) ?_
 refine (zF (zA (hK13 _ _ ?_)))
 refine zC fun K14 hK14 => ?_
 refine zB ?_
 refine zN (.string (bs p0.now.text)) ?_
 obtain ⟨⟨x15, x16⟩, e17, hF⟩ := zD hF
 refine zW rfl rfl (zT en175 rfl) (E.X_Atoi_w p0.now.text _ e17 _ _ _ (H.enter [] [4] (by decide) rfl)) ?_
 rintro _ w20 ⟨v18, rfl, G21⟩
 have H := H.back1 [4] rfl G21
 refine ⟨_, rfl, ?_⟩
 refine zN (.tuple #[.int .i64 x15, v18]) ?_
 refine zH (wG (v := .int .i64 x15) rfl rfl) ?_
 refine zH (wG (v := v18) rfl rfl) ?_
 refine zI (.int .i64 x15) ?_
 refine zI v18 ?_
 refine (zF (zA (hK14 _ _ ?_)))
 refine yF ?_
 refine zC fun K22 hK22 => ?_
 refine zB ?_
 refine zN (.string (bs p0.now.text)) ?_
 have H23 := H
 obtain ⟨x24, e25, hF⟩ := zD hF
 refine zW rfl rfl (zT en119 rfl) (F_event_isWord_w p0.now.text _ e25 _ _ _ (H.enter [] [] (by decide) rfl)) ?_
 rintro _ w26 ⟨rfl, G27⟩
 have H := H23.step (G27.only : Only [] _ _)
 refine ⟨_, rfl, ?_⟩
 refine zI (.bool x24) ?_
 refine (zF (zA (hK22 _ _ ?_)))
 refine zZ (b := x24) rfl (fun c28 => ?_) (fun c28 => ?_)
 ·have hF := zQ c28 hF
  refine zB ?_
  refine zN (.pointer (some ⟨b1, 0, none⟩)) ?_
  refine zH (yM rfl) ?_
  refine zH (fa88_2 rfl) ?_
  refine zH (fa86_0 rfl) ?_
  refine yS rfl (xM H 3 rfl sz3 rfl (v := .int .i64 1) rfl rfl rfl) ?_
  rintro w29 H
  obtain rfl := someI hF
  refine (zF (yU (post0n rfl ?_)))
  exact ⟨v2, v3, v4, rfl, H.pick [0, 1, 2, 3] (by decide)⟩
 have hF := zS c28 hF
 refine zC fun K30 hK30 => ?_
 refine zB ?_
 refine zN (.string (bs p0.now.text)) ?_
 have H31 := H
 obtain ⟨x32, e33, hF⟩ := zD hF
 refine zW rfl rfl (zT en68 rfl) (F_event_isName_w p0.now.text _ e33 _ _ _ (H.enter [] [] (by decide) rfl)) ?_
 rintro _ w34 ⟨rfl, G35⟩
 have H := H31.step (G35.only : Only [] _ _)
 refine ⟨_, rfl, ?_⟩
 refine zI (.bool x32) ?_
 refine (zF (zA (hK30 _ _ ?_)))
 refine zZ (b := x32) rfl (fun c36 => ?_) (fun c36 => ?_)
 ·have hF := zQ c36 hF
  refine zB ?_
  refine zN (.pointer (some ⟨b1, 0, none⟩)) ?_
  refine zH (yM rfl) ?_
  refine zH (fa88_2 rfl) ?_
  refine zH (fa86_0 rfl) ?_
  refine yS rfl (xM H 3 rfl sz3 rfl (v := .int .i64 2) rfl rfl rfl) ?_
  rintro w37 H
  obtain rfl := someI hF
  refine (zF (yU (post0n rfl ?_)))
  exact ⟨v2, v3, v4, rfl, H.pick [0, 1, 2, 3] (by decide)⟩
 have hF := zS c36 hF
 obtain ⟨g61, hF, hK63⟩ := zD hF
 refine yO [31, 32, 33, 34, 35, 36, 37, 38, 39, 40, 41, 42, 43, 44, 45] (fun (g : Unit) => [(31, .bool g61)]) (fun g wl => Hd O w wl S [.own Rp.str v2 9 p0.r.Phases, .own rMoveT v3 102 p0.r.Moves, .own rRule v4 106 p0.r.Rules, .blk b1 [.string (bs p0.text), .int .i64 p0.at_, .int .i64 p0.now.kind, .int .i64 p0.now.at_, .int .i64 p0.now.n, .string (bs p0.now.text), v2, v3, v4] 88, .fz (.gi 4)]) ?_ ?_
 ·skip
  refine zB ?_
  refine zN v18 ?_
  obtain ⟨x64, e65, hF⟩ := zG hF
  refine zH (zV (Do_eqlif ui113 (H.item (i := 5) rfl) rfl) e65) ?_
  obtain ⟨j66, hF, hK67⟩ := zD hF
  refine RL_cutS 6 [34, 35, 36, 37, 38, 39] [(39, .bool j66)] (fun wl => Hd O w wl S [.own Rp.str v2 9 p0.r.Phases, .own rMoveT v3 102 p0.r.Moves, .own rRule v4 106 p0.r.Rules, .blk b1 [.string (bs p0.text), .int .i64 p0.at_, .int .i64 p0.now.kind, .int .i64 p0.now.at_, .int .i64 p0.now.n, .string (bs p0.now.text), v2, v3, v4] 88, .fz (.gi 4), .fz (.ic v18 x16)]) ?_ ?_
  ·skip
   refine yQ (b := x64) rfl rfl rfl (fun c69 => ?_) (fun c69 => ?_)
   ·have hF := zQ c69 hF
    refine zN (.int .i64 x15) ?_
    have H70 := H
    obtain ⟨x71, e72, hF⟩ := zD hF
    refine zW rfl rfl (zT en102 rfl) (E.X_Itoa_w x15 _ e72 _ _ _ (H.enter [] [] (by decide) rfl)) ?_
    rintro _ w73 ⟨rfl, G74⟩
    have H := H70.step (G74.only : Only [] _ _)
    refine ⟨_, rfl, ?_⟩
    refine zN (.string (bs p0.now.text)) ?_
    obtain ⟨x75, e76, hF⟩ := zG hF
    refine zH (zV (wH (s1 := x71) (s2 := p0.now.text) rfl rfl) e76) ?_
    refine zH (yP (v := .bool x75) rfl rfl) ?_
    obtain rfl := someI hF
    exact zF (zA (meet ⟨(zL rfl zO), H.pick [0, 1, 2, 3, 4, 5] (by decide)⟩))
   have hF := zS c69 hF
   refine yG ?_
   refine yG ?_
   refine yG ?_
   refine yG ?_
   refine zH (yJ (v := .bool false) rfl rfl) ?_
   obtain rfl := someI hF
   exact zF (zA (meet ⟨(zL rfl zO), H.pick [0, 1, 2, 3, 4, 5] (by decide)⟩))
  rintro ρ w68 H
  have hF := hK67
  refine yQ (b := j66) rfl rfl rfl (fun c77 => ?_) (fun c77 => ?_)
  ·have hF := zQ c77 hF
   refine zN (.string (bs p0.now.text)) ?_
   have H78 := H
   obtain ⟨x79, e80, hF⟩ := zD hF
   refine zW rfl rfl (zT en176 rfl) (F_strings_TrimPrefix_w p0.now.text [45] _ e80 _ _ _ (H.enter [] [] (by decide) rfl)) ?_
   rintro _ w81 ⟨rfl, G82⟩
   have H := H78.step (G82.only : Only [] _ _)
   refine ⟨_, rfl, ?_⟩
   obtain ⟨x83, e84, hF⟩ := zG hF
   refine zH (yL (Do_slen (s1 := x79) u9 rfl) (congrArg (Value.int .i64) e84)) ?_
   obtain ⟨x85, e86, hF⟩ := zG hF
   refine zH (zV (Do_leq (a := x83) (b := 16) rfl rfl) e86) ?_
   refine zH (yP (v := .bool x85) rfl rfl) ?_
   refine zI (.bool x85) ?_
   obtain rfl := someI hF
   exact (zF (zA (meet ⟨(), (zL rfl zO), H.pick [0, 1, 2, 3, 4] (by decide)⟩)))
  have hF := zS c77 hF
  refine yG ?_
  refine yG ?_
  refine yG ?_
  refine yG ?_
  refine zH (yJ (v := .bool false) rfl rfl) ?_
  refine zI (.bool false) ?_
  obtain rfl := someI hF
  exact (zF (zA (meet ⟨(), (zL rfl zO), H.pick [0, 1, 2, 3, 4] (by decide)⟩)))
 rintro _ ρ w62 H
 have hF := hK63
 refine zZ (b := g61) rfl (fun c87 => ?_) (fun c87 => ?_)
 ·have hF := zQ c87 hF
  refine zB ?_
  refine zN (.pointer (some ⟨b1, 0, none⟩)) ?_
  refine zN (.pointer (some ⟨b1, 0, none⟩)) ?_
  refine zN (.int .i64 x15) ?_
  refine zH (yM rfl) ?_
  refine zH (fa88_2 rfl) ?_
  refine zH (fa86_0 rfl) ?_
  refine yS rfl (xM H 3 rfl sz3 rfl (v := .int .i64 3) rfl rfl rfl) ?_
  rintro w88 H
  refine zH (yM rfl) ?_
  refine zH (fa88_2 rfl) ?_
  refine zH (fa86_2 rfl) ?_
  refine yS rfl (xM H 3 rfl sz3 rfl (v := .int .i64 x15) rfl rfl rfl) ?_
  rintro w89 H
  obtain rfl := someI hF
  refine (zF (yU (post0n rfl ?_)))
  exact ⟨v2, v3, v4, rfl, H.pick [0, 1, 2, 3] (by decide)⟩
 have hF := zS c87 hF
 refine zB ?_
 refine zN (.pointer (some ⟨b1, 0, none⟩)) ?_
 have H90 := H
 have H := H.freezeB (i := 3) rfl
 have H := H.freeze (i := 0) rfl
 have H := H.freeze (i := 1) rfl
 have H := H.freeze (i := 2) rfl
 have H := H.fz (.pt rEventReader (some ⟨b1, 0, none⟩) (some p0)) ⟨_, _, _, rfl, (H.item (i := 3) rfl).1, (H.item (i := 3) rfl).2.1, (wB (x := p0) (H.item (i := 0) rfl) (H.item (i := 1) rfl) (H.item (i := 2) rfl)), (H.item (i := 3) rfl).2.2⟩
 obtain ⟨_, e92, hF⟩ := zD hF
 refine zW rfl rfl (zT en92 rfl) (F_event_reader_fail_w (some p0) 6 (some ⟨b1, 0, none⟩) _ e92 _ _ _ (H.enter [] [5] (by decide) rfl)) ?_
 rintro _ w93 ⟨rfl, G94⟩
 have H := H90.step (G94.only : Only [] _ _)
 refine ⟨_, rfl, ?_⟩
 obtain rfl := someI hF
 refine (zF (yU (post0n rfl ?_)))
 exact ⟨v2, v3, v4, rfl, H.pick [0, 1, 2, 3] (by decide)⟩
set_option maxHeartbeats 4000000 in
theorem F_strings_HasPrefix_w (p0 : Str) (p1 : Str) (r : Bool) (hF : F_strings_HasPrefix p0 p1 = some r) (O S : List Nat) (w : World) (H : Hd O w w S []) :
  Calls Tryz.prog 139 ([.string (bs p0), .string (bs p1)] : List Value).toArray w fun e w' => e = .returned (.bool r) ∧ Hd O w w' S [] := by
 unfold F_strings_HasPrefix at hF
 refine yC 8 Tryz.func139 rfl rfl rfl ?_
 refine zC fun K1 hK1 => ?_
 refine zB ?_
 refine zI (.bool false) ?_
 refine (zF (zA (hK1 _ _ ?_)))
 refine zC fun K2 hK2 => ?_
 refine zB ?_
 refine zN (.string (bs p0)) ?_
 refine zN (.string (bs p1)) ?_
 have H3 := H
 obtain ⟨x4, e5, hF⟩ := zD hF
 refine zW rfl rfl (zT en177 rfl) (F_internal_stringslite_HasPrefix_w p0 p1 _ e5 _ _ _ (H.enter [] [] (by decide) rfl)) ?_
 rintro _ w6 ⟨rfl, G7⟩
 have H := H3.step (G7.only : Only [] _ _)
 refine ⟨_, rfl, ?_⟩
 refine zI (.bool x4) ?_
 refine (zF (zA (hK2 _ _ ?_)))
 obtain rfl := someI hF
 refine (yB (post1 (v1 := .bool x4) rfl rfl ?_))
 exact ⟨rfl, H.pick [] (by decide)⟩
set_option maxHeartbeats 4000000 in
set_option maxRecDepth 100000 in
theorem F_event_reader_advance_w (p0 : EventReader) (b1 : Nat) (v2 : Value) (v3 : Value) (v4 : Value) (r : EventReader) (hF : F_event_reader_advance p0 = some r) (O S : List Nat) (w : World) (H : Hd O w w S [.own Rp.str v2 9 p0.r.Phases, .own rMoveT v3 102 p0.r.Moves, .own rRule v4 106 p0.r.Rules, .blk b1 [.string (bs p0.text), .int .i64 p0.at_, .int .i64 p0.now.kind, .int .i64 p0.now.at_, .int .i64 p0.now.n, .string (bs p0.now.text), v2, v3, v4] 88, .fz (.gi 4)]) :
  Calls Tryz.prog 87 ([.pointer (some ⟨b1, 0, none⟩)] : List Value).toArray w fun e w' => ∃ u10 u11 u12, e = .returned (.tuple #[]) ∧ Hd O w w' S [.own Rp.str u10 9 r.r.Phases, .own rMoveT u11 102 r.r.Moves, .own rRule u12 106 r.r.Rules, .blk b1 [.string (bs r.text), .int .i64 r.at_, .int .i64 r.now.kind, .int .i64 r.now.at_, .int .i64 r.now.n, .string (bs r.now.text), u10, u11, u12] 88] := by
 unfold F_event_reader_advance at hF
 refine yC 107 Tryz.func87 rfl rfl rfl ?_
 refine zC fun K13 hK13 => ?_
 refine zB ?_
 refine zN (.pointer (some ⟨b1, 0, none⟩)) ?_
 obtain ⟨x14, e15, hF⟩ := zD hF
 refine zW rfl rfl (zT en137 rfl) (F_event_reader_blanks_w p0 b1 v2 v3 v4 _ e15 _ _ _ (H.enter [0, 1, 2, 3] [] (by decide) rfl)) ?_
 rintro _ w22 ⟨v16, v17, v18, rfl, G23⟩
 have H : Hd O _ w22 _ [.fz (.gi 4), .own Rp.str v16 9 x14.r.Phases, .own rMoveT v17 102 x14.r.Moves, .own rRule v18 106 x14.r.Rules, .blk b1 [.string (bs x14.text), .int .i64 x14.at_, .int .i64 x14.now.kind, .int .i64 x14.now.at_, .int .i64 x14.now.n, .string (bs x14.now.text), v16, v17, v18] 88] := H.back [0, 1, 2, 3] [] rfl G23
 refine ⟨_, rfl, ?_⟩
 refine (zF (zA (hK13 _ _ ?_)))
 refine zC fun K24 hK24 => ?_
 refine zB ?_
 refine zN (.pointer (some ⟨b1, 0, none⟩)) ?_
 refine zH (yM rfl) ?_
 refine zH (fa88_1 rfl) ?_
 refine zH (zM one3 rfl (Cells.get (Blk.cells (H.item (i := 4) rfl)) (i := 1) rfl)) ?_
 refine zI (.int .i64 x14.at_) ?_
 refine (zF (zA (hK24 _ _ ?_)))
 refine zC fun K25 hK25 => ?_
 refine zB ?_
 refine zN (.pointer (some ⟨b1, 0, none⟩)) ?_
 refine zN (.int .i64 x14.at_) ?_
 refine zH (xN (cs := [.int .i64 0, .int .i64 x14.at_, .int .i64 0, .string (bs [])]) (bt86_0_1 _ _)) ?_
 refine zH (yM rfl) ?_
 refine zH (fa88_2 rfl) ?_
 refine yS rfl (yI (vs := [.int .i64 0, .int .i64 x14.at_, .int .i64 0, .string (bs [])]) H 4 rfl sz86 rfl rfl rfl ⟨rfl, rfl, rfl, rfl, trivial⟩ rfl) ?_
 rintro w26 H
 refine (zF (zA (hK25 _ _ ?_)))
 refine zC fun K33 hK33 => ?_
 refine zC fun K34 hK34 => ?_
 refine zB ?_
 refine zN (.int .i64 x14.at_) ?_
 refine zN (.pointer (some ⟨b1, 0, none⟩)) ?_
 refine zH (yM rfl) ?_
 refine zH (fa88_0 rfl) ?_
 refine zH (zM one9 rfl (Cells.get (Blk.cells (H.item (i := 4) rfl)) (i := 0) rfl)) ?_
 obtain ⟨x35, e36, hF⟩ := zG hF
 refine zH (yL (Do_slen (s1 := x14.text) u9 rfl) (congrArg (Value.int .i64) e36)) ?_
 obtain ⟨x37, e38, hF⟩ := zG hF
 refine zH (zV (xH (a := x14.at_) (b := x35) rfl rfl) e38) ?_
 refine (zF (zA (hK34 _ _ ?_)))
 refine zZ (b := x37) rfl (fun c39 => ?_) (fun c39 => ?_)
 ·have hF := zQ c39 hF
  obtain rfl := someI hF
  refine (yB (zX (post0 rfl ?_)))
  exact ⟨v16, v17, v18, rfl, H.pick [1, 2, 3, 4] (by decide)⟩
 have hF := zS c39 hF
 refine (yA (zA (hK33 _ _ ?_)))
 obtain ⟨g127, hF, hK129⟩ := zD hF
 refine yO [23, 24, 25, 26, 27, 28, 29, 30, 31, 32, 33, 34, 35, 36, 37, 38, 39, 40, 41, 42, 43, 44, 45, 46, 47, 48, 49, 50, 51] (fun (g : Unit) => []) (fun g wl => Hd O w wl S [.fz (.gi 4), .own Rp.str v16 9 x14.r.Phases, .own rMoveT v17 102 x14.r.Moves, .own rRule v18 106 x14.r.Rules, .blk b1 [.string (bs x14.text), .int .i64 g127, .int .i64 0, .int .i64 x14.at_, .int .i64 0, .string (bs []), v16, v17, v18] 88]) ?_ ?_
 ·skip
  refine yF ?_
  unfold F_event_reader_advance_L1 at hF
  obtain ⟨B212, n213, eB214, hF⟩ := yV hF
  refine xJ [23, 24, 25, 26, 27, 28, 29, 30, 31, 32, 33, 34, 35, 36, 37, 38, 39, 40, 41, 42, 43, 44, 45, 46, 47, 48, 49, 50, 51] (fun (g : Nat × Int) => []) (fun g wl => Hd O w wl S [.fz (.gi 4), .own Rp.str v16 9 x14.r.Phases, .own rMoveT v17 102 x14.r.Moves, .own rRule v18 106 x14.r.Rules, .blk b1 [.string (bs x14.text), .int .i64 g.2, .int .i64 0, .int .i64 x14.at_, .int .i64 0, .string (bs []), v16, v17, v18] 88] ∧ loopN B212 g.1 g.2 = some g127) (fun g => g.1) (n213, x14.at_) zO ⟨H.pick [0, 1, 2, 3, 4] (by decide), hF⟩ ?_
  clear H hF
  rintro ⟨n213, g211⟩ ρ w216 ⟨H, hF⟩
  obtain ⟨n217, rfl, hF⟩ := xB hF
  have hF := yZ eB214 hF
  refine zC fun K236 hK236 => ?_
  obtain ⟨g251, hF, hK253⟩ := zD hF
  refine yO [23, 24, 25, 26, 27, 28, 29, 30, 31, 32, 33, 34, 35, 36, 37, 38, 39, 40, 41, 42, 43, 44] (fun (g : Unit) => [(44, .bool g251)]) (fun g wl => Hd O w wl S [.fz (.gi 4), .own Rp.str v16 9 x14.r.Phases, .own rMoveT v17 102 x14.r.Moves, .own rRule v18 106 x14.r.Rules, .blk b1 [.string (bs x14.text), .int .i64 g211, .int .i64 0, .int .i64 x14.at_, .int .i64 0, .string (bs []), v16, v17, v18] 88]) ?_ ?_
  ·skip
   have H254 := H
   have H := H.rebase
   have H255 := H
   refine WP_mix0 H [0, 1, 2, 3, 4, 5, 6, 7, 8, 9, 10, 11, 12, 13, 14, 15, 16, 17, 18, 19, 20, 21] [.pure, .pure, .pure, .read, .pure, .pure, .pure, .read, .pure, .pure, .pure, .pure, .pure, .pure, .read, .pure, .pure, .pure, .read, .pure, .fcall, .pure] mixed (by kernel_rfl) (by kernel_rfl) (by kernel_rfl) rfl ?_
   refine Mx.zU rfl rfl rfl (fun w' hw' => xI (v := .pointer (some ⟨b1, 0, none⟩)) rfl) ?_
   refine Mx.zU rfl rfl rfl (fun w' hw' => yM rfl) ?_
   refine Mx.zU rfl rfl rfl (fun w' hw' => fa88_1 rfl) ?_
   refine Mx.xC oS rfl rfl rfl (fun w' hw' => zM one3 rfl (Cells.get (Blk.cells ((H.sees hw').item (i := 4) rfl)) (i := 1) rfl)) ?_
   refine Mx.zU rfl rfl rfl (fun w' hw' => xI (v := .pointer (some ⟨b1, 0, none⟩)) rfl) ?_
   refine Mx.zU rfl rfl rfl (fun w' hw' => yM rfl) ?_
   refine Mx.zU rfl rfl rfl (fun w' hw' => fa88_0 rfl) ?_
   refine Mx.xC oS rfl rfl rfl (fun w' hw' => zM one9 rfl (Cells.get (Blk.cells ((H.sees hw').item (i := 4) rfl)) (i := 0) rfl)) ?_
   obtain ⟨x256, e257, hF⟩ := zG hF
   refine Mx.zU rfl rfl rfl (fun w' hw' => yL (Do_slen (s1 := x14.text) u9 rfl) (congrArg (Value.int .i64) e257)) ?_
   obtain ⟨x258, e259, hF⟩ := zG hF
   refine Mx.zU rfl rfl rfl (fun w' hw' => zV (xQ (a := g211) (b := x256) rfl rfl) e259) ?_
   refine Mx.XL_splitb (b := x258) rfl rfl rfl rfl (fun c260 => ?_) (fun c260 => ?_)
   ·have hF := zQ c260 hF
    refine Mx.zU rfl rfl rfl (fun w' hw' => xI (v := .pointer (some ⟨b1, 0, none⟩)) rfl) ?_
    refine Mx.zU rfl rfl rfl (fun w' hw' => yM rfl) ?_
    refine Mx.zU rfl rfl rfl (fun w' hw' => fa88_0 rfl) ?_
    refine Mx.xC oS rfl rfl rfl (fun w' hw' => zM one9 rfl (Cells.get (Blk.cells ((H.sees hw').item (i := 4) rfl)) (i := 0) rfl)) ?_
    refine Mx.zU rfl rfl rfl (fun w' hw' => xI (v := .pointer (some ⟨b1, 0, none⟩)) rfl) ?_
    refine Mx.zU rfl rfl rfl (fun w' hw' => yM rfl) ?_
    refine Mx.zU rfl rfl rfl (fun w' hw' => fa88_1 rfl) ?_
    refine Mx.xC oS rfl rfl rfl (fun w' hw' => zM one3 rfl (Cells.get (Blk.cells ((H.sees hw').item (i := 4) rfl)) (i := 1) rfl)) ?_
    obtain ⟨x261, e262, hF⟩ := zD hF
    refine Mx.zU rfl rfl rfl (fun w' hw' => Do_sidx (s1 := x14.text) (q := g211) u9 rfl rfl e262) ?_
    have H263 := H
    obtain ⟨x264, e265, hF⟩ := zD hF
    refine Mx.XL_fcall oS rfl rfl rfl (v := .bool x264) (fun w' hw' => zT en120 rfl) (fun w' hw' => call_read (F_event_nameByte_w x261 _ e265 _ _ _ (Hd.fresh0 w'))) ?_
    have H := H263
    refine Mx.zU rfl rfl rfl (fun w' hw' => yP (v := .bool x264) rfl rfl) ?_
    refine Mx.XL_nil fun w266 hS => ?_
    have H := H.sees hS
    have H := H254.rejoin H
    obtain rfl := someI hF
    exact (zA (meet ⟨(), (zL rfl zO), H.pick [0, 1, 2, 3, 4] (by decide)⟩))
   have hF := zS c260 hF
   refine Mx.XL_offp rfl rfl rfl ?_
   refine Mx.XL_offp rfl rfl rfl ?_
   refine Mx.XL_offp rfl rfl rfl ?_
   refine Mx.XL_offr oS rfl rfl rfl ?_
   refine Mx.XL_offp rfl rfl rfl ?_
   refine Mx.XL_offp rfl rfl rfl ?_
   refine Mx.XL_offp rfl rfl rfl ?_
   refine Mx.XL_offr oS rfl rfl rfl ?_
   refine Mx.XL_offp rfl rfl rfl ?_
   refine Mx.XL_offf oS rfl rfl rfl ?_
   refine Mx.zU rfl rfl rfl (fun w' hw' => yJ (v := .bool false) rfl rfl) ?_
   refine Mx.XL_nil fun w267 hS => ?_
   have H := H.sees hS
   have H := H254.rejoin H
   obtain rfl := someI hF
   exact (zA (meet ⟨(), (zL rfl zO), H.pick [0, 1, 2, 3, 4] (by decide)⟩))
  rintro _ ρ w252 H
  have hF := hK253
  refine zZ (b := g251) rfl (fun c268 => ?_) (fun c268 => ?_)
  ·have hF := zQ c268 hF
   refine (yA (zA (hK236 _ _ ?_)))
   refine yF ?_
   refine zB ?_
   refine zN (.pointer (some ⟨b1, 0, none⟩)) ?_
   refine zH (yM rfl) ?_
   refine zH (fa88_1 rfl) ?_
   refine zH (zM one3 rfl (Cells.get (Blk.cells (H.item (i := 4) rfl)) (i := 1) rfl)) ?_
   obtain ⟨x269, e270, hF⟩ := zG hF
   refine zH (xX (a := g211) (b := 1) rfl rfl e270) ?_
   refine zH (yM rfl) ?_
   refine zH (fa88_1 rfl) ?_
   refine yS rfl (xM H 4 rfl sz3 rfl (v := .int .i64 x269) rfl rfl rfl) ?_
   rintro w271 H
   exact (zF (yU (zA (meet ⟨(n217, x269), zO, ⟨H.pick [0, 1, 2, 3, 4] (by decide), hF⟩, Nat.lt_succ_self _⟩))))
  have hF := zS c268 hF
  obtain rfl := someI hF
  exact (xP (yR (yR (xA (zA (meet ⟨(), zO, H.pick [0, 1, 2, 3, 4] (by decide)⟩))))))
 rintro _ ρ w128 H
 have hF := hK129
 refine zC fun K294 hK294 => ?_
 refine zC fun K295 hK295 => ?_
 refine zB ?_
 refine zN (.pointer (some ⟨b1, 0, none⟩)) ?_
 refine zH (yM rfl) ?_
 refine zH (fa88_1 rfl) ?_
 refine zH (zM one3 rfl (Cells.get (Blk.cells (H.item (i := 4) rfl)) (i := 1) rfl)) ?_
 refine zN (.int .i64 x14.at_) ?_
 obtain ⟨x296, e297, hF⟩ := zG hF
 refine zH (zV (Do_gtr (a := g127) (b := x14.at_) rfl rfl) e297) ?_
 refine (zF (zA (hK295 _ _ ?_)))
 refine zZ (b := x296) rfl (fun c298 => ?_) (fun c298 => ?_)
 ·have hF := zQ c298 hF
  refine zC fun K299 hK299 => ?_
  have H300 := H
  have H := H.rebase
  have H301 := H
  refine WP_mix0 H [0, 1, 2, 3, 4, 5, 6, 7, 8, 9, 10, 11, 12, 13, 14] [.pure, .pure, .pure, .pure, .read, .pure, .pure, .pure, .pure, .read, .pure, .pure, .pure, .pure, .eff] mixed (by kernel_rfl) (by kernel_rfl) (by kernel_rfl) rfl ?_
  refine Mx.zU rfl rfl rfl (fun w' hw' => xI (v := .pointer (some ⟨b1, 0, none⟩)) rfl) ?_
  refine Mx.zU rfl rfl rfl (fun w' hw' => xI (v := .pointer (some ⟨b1, 0, none⟩)) rfl) ?_
  refine Mx.zU rfl rfl rfl (fun w' hw' => yM rfl) ?_
  refine Mx.zU rfl rfl rfl (fun w' hw' => fa88_0 rfl) ?_
  refine Mx.xC oS rfl rfl rfl (fun w' hw' => zM one9 rfl (Cells.get (Blk.cells ((H.sees hw').item (i := 4) rfl)) (i := 0) rfl)) ?_
  refine Mx.zU rfl rfl rfl (fun w' hw' => xI (v := .int .i64 x14.at_) rfl) ?_
  refine Mx.zU rfl rfl rfl (fun w' hw' => xI (v := .pointer (some ⟨b1, 0, none⟩)) rfl) ?_
  refine Mx.zU rfl rfl rfl (fun w' hw' => yM rfl) ?_
  refine Mx.zU rfl rfl rfl (fun w' hw' => fa88_1 rfl) ?_
  refine Mx.xC oS rfl rfl rfl (fun w' hw' => zM one3 rfl (Cells.get (Blk.cells ((H.sees hw').item (i := 4) rfl)) (i := 1) rfl)) ?_
  obtain ⟨x302, e303, hF⟩ := zD hF
  refine Mx.zU rfl rfl rfl (fun w' hw' => Do_cut_lh (s1 := x14.text) u9 rfl rfl rfl e303) ?_
  refine Mx.zU rfl rfl rfl (fun w' hw' => yM rfl) ?_
  refine Mx.zU rfl rfl rfl (fun w' hw' => fa88_2 rfl) ?_
  refine Mx.zU rfl rfl rfl (fun w' hw' => fa86_3 rfl) ?_
  refine Mx.XL_exU oS rfl rfl (fun w' hw' => xM (H.sees hw') 4 rfl sz9 rfl (v := .string (bs x302)) rfl rfl rfl) ?_
  rintro w' w304 hw' H
  refine ⟨H.only, ?_⟩
  refine Mx.XL_nil fun w305 hS => ?_
  have H := H.sees hS
  have H := H300.rejoin H
  refine (zA (hK299 _ _ ?_))
  refine zC fun K306 hK306 => ?_
  refine zB ?_
  refine zN (.pointer (some ⟨b1, 0, none⟩)) ?_
  obtain ⟨x307, e308, hF⟩ := zD hF
  refine zW rfl rfl (zT en138 rfl) (F_event_reader_run_w (EventReader.mk x14.text g127 (EventToken.mk 0 x14.at_ 0 x302) x14.r) b1 v16 v17 v18 _ e308 _ _ _ (H.enter [1, 2, 3, 4] [0] (by decide) rfl)) ?_
  rintro _ w315 ⟨v309, v310, v311, rfl, G316⟩
  have H : Hd O _ w315 _ [.fz (.gi 4), .own Rp.str v309 9 x307.r.Phases, .own rMoveT v310 102 x307.r.Moves, .own rRule v311 106 x307.r.Rules, .blk b1 [.string (bs x307.text), .int .i64 x307.at_, .int .i64 x307.now.kind, .int .i64 x307.now.at_, .int .i64 x307.now.n, .string (bs x307.now.text), v309, v310, v311] 88] := H.back [1, 2, 3, 4] [0] rfl G316
  refine ⟨_, rfl, ?_⟩
  refine (zF (zA (hK306 _ _ ?_)))
  obtain rfl := someI hF
  refine (yB (zX (post0 rfl ?_)))
  exact ⟨v309, v310, v311, rfl, H.pick [1, 2, 3, 4] (by decide)⟩
 have hF := zS c298 hF
 refine (yA (zA (hK294 _ _ ?_)))
 obtain ⟨k470, ek471, hF⟩ := xZ hF
 refine yO [4, 74, 75, 76, 77, 78, 79, 80, 81, 82, 83, 84, 85, 86, 87, 88, 89, 90, 91, 92, 93, 94, 95, 96, 97, 98, 99, 100, 101, 102, 103, 104] (fun (g : Unit) => []) (fun g wl => Hd O w wl S [.fz (.gi 4), .own Rp.str v16 9 x14.r.Phases, .own rMoveT v17 102 x14.r.Moves, .own rRule v18 106 x14.r.Rules, .blk b1 [.string (bs x14.text), .int .i64 g127, .int .i64 0, .int .i64 x14.at_, .int .i64 0, .string (bs []), v16, v17, v18] 88] ∧ k470 () = some r) ?_ ?_
 ·skip
  refine zC fun K472 hK472 => ?_
  refine zB ?_
  obtain ⟨x473, e474, hF⟩ := zG hF
  subst e474
  refine yT rfl rfl (Lx_bs (r := Rp.str) (xl := [[60, 61], [33, 61], [62, 61], [60], [61], [62], [40], [41]]) (cs := [.string (bs [60, 61]), .string (bs [33, 61]), .string (bs [62, 61]), .string (bs [60]), .string (bs [61]), .string (bs [62]), .string (bs [40]), .string (bs [41])]) u22 el9 (by decide) (by decide) rfl (xK (vs := [.string (bs [60, 61]), .string (bs [33, 61]), .string (bs [62, 61]), .string (bs [60]), .string (bs [61]), .string (bs [62]), .string (bs [40]), .string (bs [41])]) (by decide) rfl rfl ⟨rfl, rfl, rfl, rfl, rfl, rfl, rfl, rfl, trivial⟩ rfl) H ⟨[.string (bs [60, 61])], [.string (bs [33, 61]), .string (bs [62, 61]), .string (bs [60]), .string (bs [61]), .string (bs [62]), .string (bs [40]), .string (bs [41])], rfl, rfl, ⟨[.string (bs [33, 61])], [.string (bs [62, 61]), .string (bs [60]), .string (bs [61]), .string (bs [62]), .string (bs [40]), .string (bs [41])], rfl, rfl, ⟨[.string (bs [62, 61])], [.string (bs [60]), .string (bs [61]), .string (bs [62]), .string (bs [40]), .string (bs [41])], rfl, rfl, ⟨[.string (bs [60])], [.string (bs [61]), .string (bs [62]), .string (bs [40]), .string (bs [41])], rfl, rfl, ⟨[.string (bs [61])], [.string (bs [62]), .string (bs [40]), .string (bs [41])], rfl, rfl, ⟨[.string (bs [62])], [.string (bs [40]), .string (bs [41])], rfl, rfl, ⟨[.string (bs [40])], [.string (bs [41])], rfl, rfl, ⟨[.string (bs [41])], [], rfl, rfl, rfl⟩⟩⟩⟩⟩⟩⟩⟩) ?_
  rintro v476 w477 H
  obtain ⟨x478, e479, hF⟩ := zG hF
  obtain ⟨a480, c481, q482⟩ := Sr.len (Sr.of_own (H.item (i := 5) rfl))
  refine zH (yL (xW u22 q482) (congrArg (Value.int .i64) e479)) ?_
  refine zN (.int .i64 0) ?_
  refine (zF (zA (hK472 _ _ ?_)))
  refine yF ?_
  unfold F_event_reader_advance_L2 at hF
  obtain ⟨B619, n620, eB621, hF⟩ := yV hF
  refine xJ [4, 76, 77, 78, 79, 80, 81, 82, 83, 84, 85, 86, 87, 88, 89, 90, 91, 92, 93, 94, 95, 96, 97, 98, 99, 100, 101, 102, 103, 104] (fun (g : Nat × Int) => [(76, .int .i64 g.2)]) (fun g wl => Hd O w wl S [.fz (.gi 4), .own Rp.str v16 9 x14.r.Phases, .own rMoveT v17 102 x14.r.Moves, .own rRule v18 106 x14.r.Rules, .blk b1 [.string (bs x14.text), .int .i64 g127, .int .i64 0, .int .i64 x14.at_, .int .i64 0, .string (bs []), v16, v17, v18] 88, .own Rp.str v476 9 ([[60, 61], [33, 61], [62, 61], [60], [61], [62], [40], [41]] : List Str)] ∧ loopN B619 g.1 g.2 = some r) (fun g => g.1) (n620, 0) (zL rfl zO) ⟨H.pick [0, 1, 2, 3, 4, 5] (by decide), hF⟩ ?_
  clear H hF
  rintro ⟨n620, g618⟩ ρ w623 ⟨H, hF⟩
  obtain ⟨n624, rfl, hF⟩ := xB hF
  have hF := yZ eB621 hF
  refine zC fun K625 hK625 => ?_
  refine zB ?_
  obtain ⟨x626, e627, hF⟩ := zG hF
  refine zH (zV (xQ (a := g618) (b := x478) rfl rfl) e627) ?_
  refine (zF (zA (hK625 _ _ ?_)))
  refine zC fun K629 hK629 => ?_
  refine zZ (b := x626) rfl (fun c630 => ?_) (fun c630 => ?_)
  ·have hF := zQ c630 hF
   refine (yA (zA (hK629 _ _ ?_)))
   refine zC fun K660 hK660 => ?_
   refine yF ?_
   refine zC fun K661 hK661 => ?_
   refine zB ?_
   obtain ⟨x662, e663, hF⟩ := zD hF
   obtain ⟨b664, c666, cs667, q668, h671, h672⟩ := own_at (H.item (i := 5) rfl) e663
   obtain rfl : cs667 = [.string (bs x662)] := h671
   refine zH (xY u22 sz9 q668 rfl (yN e663).1 (yN e663).2.1 rfl rfl) ?_
   refine zH (zM one9 rfl (Cells.get h672 (i := 0) rfl)) ?_
   refine zI (.string (bs x662)) ?_
   refine (zF (zA (hK661 _ _ ?_)))
   refine zC fun K673 hK673 => ?_
   refine zB ?_
   refine zN (.pointer (some ⟨b1, 0, none⟩)) ?_
   refine zH (yM rfl) ?_
   refine zH (fa88_0 rfl) ?_
   refine zH (zM one9 rfl (Cells.get (Blk.cells (H.item (i := 4) rfl)) (i := 0) rfl)) ?_
   refine zN (.int .i64 x14.at_) ?_
   obtain ⟨x674, e675, hF⟩ := zD hF
   refine zH (Do_cut_l (s1 := x14.text) u9 rfl rfl e675) ?_
   refine zN (.string (bs x662)) ?_
   have H676 := H
   obtain ⟨x677, e678, hF⟩ := zD hF
   refine zW rfl rfl (zT en139 rfl) (F_strings_HasPrefix_w x674 x662 _ e678 _ _ _ (H.enter [] [] (by decide) rfl)) ?_
   rintro _ w679 ⟨rfl, G680⟩
   have H := H676.step (G680.only : Only [] _ _)
   refine ⟨_, rfl, ?_⟩
   refine (zF (zA (hK673 _ _ ?_)))
   refine zZ (b := x677) rfl (fun c681 => ?_) (fun c681 => ?_)
   ·have hF := zQ c681 hF
    refine zC fun K682 hK682 => ?_
    refine zB ?_
    refine zN (.pointer (some ⟨b1, 0, none⟩)) ?_
    refine zN (.pointer (some ⟨b1, 0, none⟩)) ?_
    refine zN (.pointer (some ⟨b1, 0, none⟩)) ?_
    refine zN (.string (bs x662)) ?_
    refine zN (.int .i64 x14.at_) ?_
    refine zN (.string (bs x662)) ?_
    obtain ⟨x683, e684, hF⟩ := zG hF
    refine zH (yL (Do_slen (s1 := x662) u9 rfl) (congrArg (Value.int .i64) e684)) ?_
    obtain ⟨x685, e686, hF⟩ := zG hF
    refine zH (xX (a := x14.at_) (b := x683) rfl rfl e686) ?_
    refine zH (yM rfl) ?_
    refine zH (fa88_2 rfl) ?_
    refine zH (fa86_0 rfl) ?_
    refine yS rfl (xM H 4 rfl sz3 rfl (v := .int .i64 4) rfl rfl rfl) ?_
    rintro w687 H
    refine zH (yM rfl) ?_
    refine zH (fa88_2 rfl) ?_
    refine zH (fa86_3 rfl) ?_
    refine yS rfl (xM H 4 rfl sz9 rfl (v := .string (bs x662)) rfl rfl rfl) ?_
    rintro w688 H
    refine zH (yM rfl) ?_
    refine zH (fa88_1 rfl) ?_
    refine yS rfl (xM H 4 rfl sz3 rfl (v := .int .i64 x685) rfl rfl rfl) ?_
    rintro w689 H
    refine (zF (zA (hK682 _ _ ?_)))
    obtain rfl := someI hF
    refine (yB (yE (zX (zX (yE (zX (post0 rfl ?_)))))))
    exact ⟨v16, v17, v18, rfl, H.pick [1, 2, 3, 4] (by decide)⟩
   have hF := zS c681 hF
   refine (yA (yU (zA (hK660 _ _ ?_))))
   refine zB ?_
   obtain ⟨x690, e691, hF⟩ := zG hF
   refine zH (xX (a := g618) (b := 1) rfl rfl e691) ?_
   refine zN (.int .i64 x690) ?_
   exact (zF (zA (meet ⟨(n624, x690), (zL rfl zO), ⟨H.pick [0, 1, 2, 3, 4, 5] (by decide), hF⟩, Nat.lt_succ_self _⟩)))
  have hF := zS c630 hF
  exact (xP (yR (yR (xA (zA (meet ⟨(), zO, ⟨H.pick [0, 1, 2, 3, 4] (by decide), hF⟩⟩))))))
 rintro _ ρ w469 ⟨H, hF⟩
 have hF := wI ek471 hF
 refine zB ?_
 refine zN (.pointer (some ⟨b1, 0, none⟩)) ?_
 have H692 := H
 have H := H.freezeB (i := 4) rfl
 have H := H.freeze (i := 1) rfl
 have H := H.freeze (i := 2) rfl
 have H := H.freeze (i := 3) rfl
 have H := H.fz (.pt rEventReader (some ⟨b1, 0, none⟩) (some (EventReader.mk x14.text g127 (EventToken.mk 0 x14.at_ 0 []) x14.r))) ⟨_, _, _, rfl, (H.item (i := 4) rfl).1, (H.item (i := 4) rfl).2.1, (wB (x := EventReader.mk x14.text g127 (EventToken.mk 0 x14.at_ 0 []) x14.r) (H.item (i := 1) rfl) (H.item (i := 2) rfl) (H.item (i := 3) rfl)), (H.item (i := 4) rfl).2.2⟩
 obtain ⟨_, e694, hF⟩ := zD hF
 refine zW rfl rfl (zT en92 rfl) (F_event_reader_fail_w (some (EventReader.mk x14.text g127 (EventToken.mk 0 x14.at_ 0 []) x14.r)) 6 (some ⟨b1, 0, none⟩) _ e694 _ _ _ (H.enter [] [5] (by decide) rfl)) ?_
 rintro _ w695 ⟨rfl, G696⟩
 have H := H692.step (G696.only : Only [] _ _)
 refine ⟨_, rfl, ?_⟩
 obtain rfl := someI hF
 refine (zF (post0n rfl ?_))
 exact ⟨v16, v17, v18, rfl, H.pick [1, 2, 3, 4] (by decide)⟩
set_option maxHeartbeats 4000000 in
theorem F_event_reader_is_w (p0 : Option EventReader) (p1 : Str) (v1 : Option Addr) (r : Bool) (hF : F_event_reader_is p0 p1 = some r) (O S : List Nat) (w : World) (H : Hd O w w S [.fz (.pt rEventReader v1 p0)]) :
  Calls Tryz.prog 88 ([.pointer v1, .string (bs p1)] : List Value).toArray w fun e w' => e = .returned (.bool r) ∧ Hd O w w' S [] := by
 unfold F_event_reader_is at hF
 refine yC 28 Tryz.func88 rfl rfl rfl ?_
 refine zC fun K3 hK3 => ?_
 refine zB ?_
 refine zI (.bool false) ?_
 refine (zF (zA (hK3 _ _ ?_)))
 obtain ⟨g75, hF, hK77⟩ := zD hF
 refine yO [4, 5, 6, 7, 8, 9, 10, 11, 12, 13, 14, 15, 16, 17, 18, 19, 20, 21, 22, 23, 24, 25, 26, 27] (fun (g : Unit) => [(4, .bool g75)]) (fun g wl => Hd O w wl S []) ?_ ?_
 ·skip
  refine zB ?_
  refine zN (.pointer v1) ?_
  obtain ⟨x78, e79, hF⟩ := zD hF
  obtain ⟨b80, o81, cs82, q83, h84, h85, h86, h87⟩ := ptf_some ((H.item (i := 0) rfl) : PtF _ _ _ _ _) e79
  obtain ⟨v88, v89, v90, rfl, h91, h92, h93⟩ := rEventReader_open h86
  have H := H.fzs [.at b80 o81 _, .sl Rp.str v88 x78.r.Phases, .sl rMoveT v89 x78.r.Moves, .sl rRule v90 x78.r.Rules] ⟨⟨h84, h85, h87⟩, h91, h92, h93, trivial⟩
  refine zH (yM (ad := ⟨b80, o81, none⟩) (congrArg Value.pointer q83)) ?_
  refine zH (fa88_2 rfl) ?_
  refine zH (fa86_0 rfl) ?_
  refine zH (zM one3 rfl (Cells.get (H.item (i := 1) rfl).2.2 (i := 2) rfl)) ?_
  obtain ⟨x98, e99, hF⟩ := zG hF
  refine zH (zV (xH (a := x78.now.kind) (b := 1) rfl rfl) e99) ?_
  obtain ⟨j100, hF, hK101⟩ := zD hF
  refine RL_cutS 8 [11, 12, 13, 14, 15, 16, 17, 18] [(18, .bool j100)] (fun wl => Hd O w wl S [.fz (.pt rEventReader v1 p0), .fz (.at b80 o81 [.string (bs x78.text), .int .i64 x78.at_, .int .i64 x78.now.kind, .int .i64 x78.now.at_, .int .i64 x78.now.n, .string (bs x78.now.text), v88, v89, v90]), .fz (.sl Rp.str v88 x78.r.Phases), .fz (.sl rMoveT v89 x78.r.Moves), .fz (.sl rRule v90 x78.r.Rules)]) ?_ ?_
  ·skip
   refine yQ (b := x98) rfl rfl rfl (fun c103 => ?_) (fun c103 => ?_)
   ·have hF := zQ c103 hF
    refine yG ?_
    refine yG ?_
    refine yG ?_
    refine yG ?_
    refine yG ?_
    refine yG ?_
    refine zH (yP (v := .bool true) rfl rfl) ?_
    obtain rfl := someI hF
    exact zF (zA (meet ⟨(zL rfl zO), H.pick [0, 1, 2, 3, 4] (by decide)⟩))
   have hF := zS c103 hF
   refine zN (.pointer v1) ?_
   obtain ⟨x104, e105, hF⟩ := zD hF
   obtain ⟨b106, o107, cs108, q109, h110, h111, h112, h113⟩ := ptf_some ((H.item (i := 0) rfl) : PtF _ _ _ _ _) e105
   obtain ⟨v114, v115, v116, rfl, h117, h118, h119⟩ := rEventReader_open h112
   have H := H.fzs [.at b106 o107 _, .sl Rp.str v114 x104.r.Phases, .sl rMoveT v115 x104.r.Moves, .sl rRule v116 x104.r.Rules] ⟨⟨h110, h111, h113⟩, h117, h118, h119, trivial⟩
   refine zH (yM (ad := ⟨b106, o107, none⟩) (congrArg Value.pointer q109)) ?_
   refine zH (fa88_2 rfl) ?_
   refine zH (fa86_0 rfl) ?_
   refine zH (zM one3 rfl (Cells.get (H.item (i := 5) rfl).2.2 (i := 2) rfl)) ?_
   obtain ⟨x124, e125, hF⟩ := zG hF
   refine zH (zV (xH (a := x104.now.kind) (b := 4) rfl rfl) e125) ?_
   refine zH (yJ (v := .bool x124) rfl rfl) ?_
   obtain rfl := someI hF
   exact zF (zA (meet ⟨(zL rfl zO), H.pick [0, 1, 2, 3, 4] (by decide)⟩))
  rintro ρ w102 H
  have hF := hK101
  refine yQ (b := j100) rfl rfl rfl (fun c126 => ?_) (fun c126 => ?_)
  ·have hF := zQ c126 hF
   refine zN (.pointer v1) ?_
   obtain ⟨x127, e128, hF⟩ := zD hF
   obtain ⟨b129, o130, cs131, q132, h133, h134, h135, h136⟩ := ptf_some ((H.item (i := 0) rfl) : PtF _ _ _ _ _) e128
   obtain ⟨v137, v138, v139, rfl, h140, h141, h142⟩ := rEventReader_open h135
   have H := H.fzs [.at b129 o130 _, .sl Rp.str v137 x127.r.Phases, .sl rMoveT v138 x127.r.Moves, .sl rRule v139 x127.r.Rules] ⟨⟨h133, h134, h136⟩, h140, h141, h142, trivial⟩
   refine zH (yM (ad := ⟨b129, o130, none⟩) (congrArg Value.pointer q132)) ?_
   refine zH (fa88_2 rfl) ?_
   refine zH (fa86_3 rfl) ?_
   refine zH (zM one9 rfl (Cells.get (H.item (i := 5) rfl).2.2 (i := 5) rfl)) ?_
   refine zN (.string (bs p1)) ?_
   obtain ⟨x147, e148, hF⟩ := zG hF
   refine zH (zV (wH (s1 := x127.now.text) (s2 := p1) rfl rfl) e148) ?_
   refine zH (yP (v := .bool x147) rfl rfl) ?_
   refine zI (.bool x147) ?_
   obtain rfl := someI hF
   exact (zF (zA (meet ⟨(), (zL rfl zO), H.pick [] (by decide)⟩)))
  have hF := zS c126 hF
  refine yG ?_
  refine yG ?_
  refine yG ?_
  refine yG ?_
  refine yG ?_
  refine yG ?_
  refine yG ?_
  refine zH (yJ (v := .bool false) rfl rfl) ?_
  refine zI (.bool false) ?_
  obtain rfl := someI hF
  exact (zF (zA (meet ⟨(), (zL rfl zO), H.pick [] (by decide)⟩)))
 rintro _ ρ w76 H
 have hF := hK77
 obtain rfl := someI hF
 refine (yB (post1 (v1 := .bool g75) rfl rfl ?_))
 exact ⟨rfl, H.pick [] (by decide)⟩
set_option maxHeartbeats 4000000 in
theorem F_event_reader_take_w (p0 : EventReader) (p1 : Int) (b1 : Nat) (v2 : Value) (v3 : Value) (v4 : Value) (r : EventToken × EventReader) (hF : F_event_reader_take p0 p1 = some r) (O S : List Nat) (w : World) (H : Hd O w w S [.own Rp.str v2 9 p0.r.Phases, .own rMoveT v3 102 p0.r.Moves, .own rRule v4 106 p0.r.Rules, .blk b1 [.string (bs p0.text), .int .i64 p0.at_, .int .i64 p0.now.kind, .int .i64 p0.now.at_, .int .i64 p0.now.n, .string (bs p0.now.text), v2, v3, v4] 88, .fz (.gi 4)]) :
  Calls Tryz.prog 140 ([.pointer (some ⟨b1, 0, none⟩), .int .i64 p1] : List Value).toArray w fun e w' => ∃ u10 u11 u12, e = .returned (.agg [.int .i64 r.1.kind, .int .i64 r.1.at_, .int .i64 r.1.n, .string (bs r.1.text)].toArray) ∧ Hd O w w' S [.own Rp.str u10 9 r.2.r.Phases, .own rMoveT u11 102 r.2.r.Moves, .own rRule u12 106 r.2.r.Rules, .blk b1 [.string (bs r.2.text), .int .i64 r.2.at_, .int .i64 r.2.now.kind, .int .i64 r.2.now.at_, .int .i64 r.2.now.n, .string (bs r.2.now.text), u10, u11, u12] 88] := by
 unfold F_event_reader_take at hF
 refine yC 22 Tryz.func140 rfl rfl rfl ?_
 refine zC fun K13 hK13 => ?_
 refine zB ?_
 refine yT rfl rfl (xG zero86 H) ?_
 rintro _ w16 ⟨b14, rfl, H⟩
 refine (zF (zA (hK13 _ _ ?_)))
 obtain ⟨j28, hF, hK27⟩ := zD hF
 refine yO [6, 7, 8, 9, 10, 11, 12, 13, 14] (fun (g : Unit) => []) (fun g wl => Hd O w wl S [.own Rp.str v2 9 p0.r.Phases, .own rMoveT v3 102 p0.r.Moves, .own rRule v4 106 p0.r.Rules, .blk b1 [.string (bs p0.text), .int .i64 p0.at_, .int .i64 p0.now.kind, .int .i64 p0.now.at_, .int .i64 p0.now.n, .string (bs p0.now.text), v2, v3, v4] 88, .fz (.gi 4), .blk b14 [.int .i64 0, .int .i64 0, .int .i64 0, .string (bs [])] 86]) ?_ ?_
 ·skip
  refine zC fun K29 hK29 => ?_
  refine zB ?_
  refine zN (.pointer (some ⟨b1, 0, none⟩)) ?_
  refine zH (yM rfl) ?_
  refine zH (fa88_2 rfl) ?_
  refine zH (fa86_0 rfl) ?_
  refine zH (zM one3 rfl (Cells.get (Blk.cells (H.item (i := 3) rfl)) (i := 2) rfl)) ?_
  refine zN (.int .i64 p1) ?_
  obtain ⟨x30, e31, hF⟩ := zG hF
  refine zH (zV (Do_neq (a := p0.now.kind) (b := p1) rfl rfl) e31) ?_
  refine (zF (zA (hK29 _ _ ?_)))
  refine zZ (b := x30) rfl (fun c32 => ?_) (fun c32 => ?_)
  ·have hF := zQ c32 hF
   refine zB ?_
   refine zN (.pointer (some ⟨b1, 0, none⟩)) ?_
   have H33 := H
   have H := H.freezeB (i := 3) rfl
   have H := H.freeze (i := 0) rfl
   have H := H.freeze (i := 1) rfl
   have H := H.freeze (i := 2) rfl
   have H := H.fz (.pt rEventReader (some ⟨b1, 0, none⟩) (some p0)) ⟨_, _, _, rfl, (H.item (i := 3) rfl).1, (H.item (i := 3) rfl).2.1, (wB (x := p0) (H.item (i := 0) rfl) (H.item (i := 1) rfl) (H.item (i := 2) rfl)), (H.item (i := 3) rfl).2.2⟩
   obtain ⟨_, e35, hF⟩ := zD hF
   refine zW rfl rfl (zT en92 rfl) (F_event_reader_fail_w (some p0) 6 (some ⟨b1, 0, none⟩) _ e35 _ _ _ (H.enter [] [6] (by decide) rfl)) ?_
   rintro _ w36 ⟨rfl, G37⟩
   have H := H33.step (G37.only : Only [] _ _)
   refine ⟨_, rfl, ?_⟩
   obtain rfl := someI hF
   exact (zF (zA (meet ⟨(), zO, H.pick [0, 1, 2, 3, 4, 5] (by decide)⟩)))
  have hF := zS c32 hF
  obtain rfl := someI hF
  exact (yA (zA (meet ⟨(), zO, H.pick [0, 1, 2, 3, 4, 5] (by decide)⟩)))
 rintro _ ρ w26 H
 have hF := hK27
 refine zC fun K38 hK38 => ?_
 refine zB ?_
 refine zN (.pointer (some ⟨b1, 0, none⟩)) ?_
 refine zH (yM rfl) ?_
 refine zH (fa88_2 rfl) ?_
 refine zH (yL (yH (cs := [.int .i64 p0.now.kind, .int .i64 p0.now.at_, .int .i64 p0.now.n, .string (bs p0.now.text)]) agg86 rfl sz86 rfl (Cells.drop (Blk.cells (H.item (i := 3) rfl)) 2 4)) rfl) ?_
 refine yT rfl rfl (xG zero86 H) ?_
 rintro _ w41 ⟨b39, rfl, H⟩
 refine yS rfl (yI (vs := [.int .i64 p0.now.kind, .int .i64 p0.now.at_, .int .i64 p0.now.n, .string (bs p0.now.text)]) H 6 rfl sz86 rfl rfl rfl ⟨rfl, rfl, rfl, rfl, trivial⟩ rfl) ?_
 rintro w42 H
 refine (zF (zA (hK38 _ _ ?_)))
 refine zC fun K43 hK43 => ?_
 refine zB ?_
 refine zN (.pointer (some ⟨b1, 0, none⟩)) ?_
 obtain ⟨x44, e45, hF⟩ := zD hF
 refine zW rfl rfl (zT en87 rfl) (F_event_reader_advance_w p0 b1 v2 v3 v4 _ e45 _ _ _ (H.enter [0, 1, 2, 3] [4] (by decide) rfl)) ?_
 rintro _ w52 ⟨v46, v47, v48, rfl, G53⟩
 have H : Hd O _ w52 _ [.fz (.gi 4), .blk b14 [.int .i64 0, .int .i64 0, .int .i64 0, .string (bs [])] 86, .blk b39 [.int .i64 p0.now.kind, .int .i64 p0.now.at_, .int .i64 p0.now.n, .string (bs p0.now.text)] 86, .own Rp.str v46 9 x44.r.Phases, .own rMoveT v47 102 x44.r.Moves, .own rRule v48 106 x44.r.Rules, .blk b1 [.string (bs x44.text), .int .i64 x44.at_, .int .i64 x44.now.kind, .int .i64 x44.now.at_, .int .i64 x44.now.n, .string (bs x44.now.text), v46, v47, v48] 88] := H.back [0, 1, 2, 3] [4] rfl G53
 refine ⟨_, rfl, ?_⟩
 refine (zF (zA (hK43 _ _ ?_)))
 refine zC fun K54 hK54 => ?_
 refine zB ?_
 refine zH (yL (yH (cs := [.int .i64 p0.now.kind, .int .i64 p0.now.at_, .int .i64 p0.now.n, .string (bs p0.now.text)]) agg86 rfl sz86 rfl (Blk.cells (H.item (i := 2) rfl))) rfl) ?_
 refine yS rfl (yI (vs := [.int .i64 p0.now.kind, .int .i64 p0.now.at_, .int .i64 p0.now.n, .string (bs p0.now.text)]) H 1 rfl sz86 rfl rfl rfl ⟨rfl, rfl, rfl, rfl, trivial⟩ rfl) ?_
 rintro w55 H
 refine (zF (zA (hK54 _ _ ?_)))
 obtain rfl := someI hF
 refine (yB (postc  rfl rfl (yD agg86 sz86 rfl (Blk.cells (H.item (i := 1) rfl))) ?_))
 exact ⟨v46, v47, v48, rfl, H.pick [3, 4, 5, 6] (by decide)⟩
set_option maxHeartbeats 4000000 in
theorem F_event_reader_name_w (p0 : EventReader) (b1 : Nat) (v2 : Value) (v3 : Value) (v4 : Value) (r : Str × EventReader) (hF : F_event_reader_name p0 = some r) (O S : List Nat) (w : World) (H : Hd O w w S [.own Rp.str v2 9 p0.r.Phases, .own rMoveT v3 102 p0.r.Moves, .own rRule v4 106 p0.r.Rules, .blk b1 [.string (bs p0.text), .int .i64 p0.at_, .int .i64 p0.now.kind, .int .i64 p0.now.at_, .int .i64 p0.now.n, .string (bs p0.now.text), v2, v3, v4] 88, .fz (.gi 4)]) :
  Calls Tryz.prog 89 ([.pointer (some ⟨b1, 0, none⟩)] : List Value).toArray w fun e w' => ∃ u10 u11 u12, e = .returned (.string (bs r.1)) ∧ Hd O w w' S [.own Rp.str u10 9 r.2.r.Phases, .own rMoveT u11 102 r.2.r.Moves, .own rRule u12 106 r.2.r.Rules, .blk b1 [.string (bs r.2.text), .int .i64 r.2.at_, .int .i64 r.2.now.kind, .int .i64 r.2.now.at_, .int .i64 r.2.now.n, .string (bs r.2.now.text), u10, u11, u12] 88] := by
 unfold F_event_reader_name at hF
 refine yC 6 Tryz.func89 rfl rfl rfl ?_
 refine zC fun K13 hK13 => ?_
 refine zB ?_
 refine zI (.string (bs [])) ?_
 refine (zF (zA (hK13 _ _ ?_)))
 refine zC fun K14 hK14 => ?_
 refine zB ?_
 refine zN (.pointer (some ⟨b1, 0, none⟩)) ?_
 obtain ⟨⟨x15, x16⟩, e17, hF⟩ := zD hF
 refine zW rfl rfl (zT en140 rfl) (F_event_reader_take_w p0 2 b1 v2 v3 v4 _ e17 _ _ _ (H.enter [0, 1, 2, 3] [4] (by decide) rfl)) ?_
 rintro _ w24 ⟨v18, v19, v20, rfl, G25⟩
 have H : Hd O _ w24 _ [.fz (.gi 4), .own Rp.str v18 9 x16.r.Phases, .own rMoveT v19 102 x16.r.Moves, .own rRule v20 106 x16.r.Rules, .blk b1 [.string (bs x16.text), .int .i64 x16.at_, .int .i64 x16.now.kind, .int .i64 x16.now.at_, .int .i64 x16.now.n, .string (bs x16.now.text), v18, v19, v20] 88] := H.back [0, 1, 2, 3] [4] rfl G25
 refine ⟨_, rfl, ?_⟩
 refine zH (Do_field1 (v := .string (bs x15.text)) fo86_3 one9 rfl rfl) ?_
 refine zI (.string (bs x15.text)) ?_
 refine (zF (zA (hK14 _ _ ?_)))
 obtain rfl := someI hF
 refine (yB (post1 (v1 := .string (bs x15.text)) rfl rfl ?_))
 exact ⟨v18, v19, v20, rfl, H.pick [1, 2, 3, 4] (by decide)⟩
set_option maxHeartbeats 4000000 in
theorem F_event_reader_must_w (p0 : EventReader) (p1 : Str) (b1 : Nat) (v2 : Value) (v3 : Value) (v4 : Value) (r : EventReader) (hF : F_event_reader_must p0 p1 = some r) (O S : List Nat) (w : World) (H : Hd O w w S [.own Rp.str v2 9 p0.r.Phases, .own rMoveT v3 102 p0.r.Moves, .own rRule v4 106 p0.r.Rules, .blk b1 [.string (bs p0.text), .int .i64 p0.at_, .int .i64 p0.now.kind, .int .i64 p0.now.at_, .int .i64 p0.now.n, .string (bs p0.now.text), v2, v3, v4] 88, .fz (.gi 4)]) :
  Calls Tryz.prog 90 ([.pointer (some ⟨b1, 0, none⟩), .string (bs p1)] : List Value).toArray w fun e w' => ∃ u10 u11 u12, e = .returned (.tuple #[]) ∧ Hd O w w' S [.own Rp.str u10 9 r.r.Phases, .own rMoveT u11 102 r.r.Moves, .own rRule u12 106 r.r.Rules, .blk b1 [.string (bs r.text), .int .i64 r.at_, .int .i64 r.now.kind, .int .i64 r.now.at_, .int .i64 r.now.n, .string (bs r.now.text), u10, u11, u12] 88] := by
 unfold F_event_reader_must at hF
 refine yC 12 Tryz.func90 rfl rfl rfl ?_
 obtain ⟨j30, hF, hK29⟩ := zD hF
 refine yO [4, 5, 6, 7, 8, 9] (fun (g : Unit) => []) (fun g wl => Hd O w wl S [.own Rp.str v2 9 p0.r.Phases, .own rMoveT v3 102 p0.r.Moves, .own rRule v4 106 p0.r.Rules, .blk b1 [.string (bs p0.text), .int .i64 p0.at_, .int .i64 p0.now.kind, .int .i64 p0.now.at_, .int .i64 p0.now.n, .string (bs p0.now.text), v2, v3, v4] 88, .fz (.gi 4)]) ?_ ?_
 ·skip
  refine zC fun K31 hK31 => ?_
  refine zB ?_
  refine zN (.pointer (some ⟨b1, 0, none⟩)) ?_
  refine zN (.string (bs p1)) ?_
  have H32 := H
  have H := H.freezeB (i := 3) rfl
  have H := H.freeze (i := 0) rfl
  have H := H.freeze (i := 1) rfl
  have H := H.freeze (i := 2) rfl
  have H := H.fz (.pt rEventReader (some ⟨b1, 0, none⟩) (some p0)) ⟨_, _, _, rfl, (H.item (i := 3) rfl).1, (H.item (i := 3) rfl).2.1, (wB (x := p0) (H.item (i := 0) rfl) (H.item (i := 1) rfl) (H.item (i := 2) rfl)), (H.item (i := 3) rfl).2.2⟩
  obtain ⟨x34, e35, hF⟩ := zD hF
  refine zW rfl rfl (zT en88 rfl) (F_event_reader_is_w (some p0) p1 (some ⟨b1, 0, none⟩) _ e35 _ _ _ (H.enter [] [5] (by decide) rfl)) ?_
  rintro _ w36 ⟨rfl, G37⟩
  have H := H32.step (G37.only : Only [] _ _)
  refine ⟨_, rfl, ?_⟩
  obtain ⟨x38, e39, hF⟩ := zG hF
  refine zH (zV (wO (p := x34) rfl) e39) ?_
  refine (zF (zA (hK31 _ _ ?_)))
  refine zZ (b := x38) rfl (fun c40 => ?_) (fun c40 => ?_)
  ·have hF := zQ c40 hF
   refine zB ?_
   refine zN (.pointer (some ⟨b1, 0, none⟩)) ?_
   have H41 := H
   have H := H.freezeB (i := 3) rfl
   have H := H.freeze (i := 0) rfl
   have H := H.freeze (i := 1) rfl
   have H := H.freeze (i := 2) rfl
   have H := H.fz (.pt rEventReader (some ⟨b1, 0, none⟩) (some p0)) ⟨_, _, _, rfl, (H.item (i := 3) rfl).1, (H.item (i := 3) rfl).2.1, (wB (x := p0) (H.item (i := 0) rfl) (H.item (i := 1) rfl) (H.item (i := 2) rfl)), (H.item (i := 3) rfl).2.2⟩
   obtain ⟨_, e43, hF⟩ := zD hF
   refine zW rfl rfl (zT en92 rfl) (F_event_reader_fail_w (some p0) 6 (some ⟨b1, 0, none⟩) _ e43 _ _ _ (H.enter [] [5] (by decide) rfl)) ?_
   rintro _ w44 ⟨rfl, G45⟩
   have H := H41.step (G45.only : Only [] _ _)
   refine ⟨_, rfl, ?_⟩
   obtain rfl := someI hF
   exact (zF (zA (meet ⟨(), zO, H.pick [0, 1, 2, 3, 4] (by decide)⟩)))
  have hF := zS c40 hF
  obtain rfl := someI hF
  exact (yA (zA (meet ⟨(), zO, H.pick [0, 1, 2, 3, 4] (by decide)⟩)))
 rintro _ ρ w28 H
 have hF := hK29
 refine zB ?_
 refine zN (.pointer (some ⟨b1, 0, none⟩)) ?_
 obtain ⟨x46, e47, hF⟩ := zD hF
 refine zW rfl rfl (zT en87 rfl) (F_event_reader_advance_w p0 b1 v2 v3 v4 _ e47 _ _ _ (H.enter [0, 1, 2, 3] [4] (by decide) rfl)) ?_
 rintro _ w54 ⟨v48, v49, v50, rfl, G55⟩
 have H : Hd O _ w54 _ [.fz (.gi 4), .own Rp.str v48 9 x46.r.Phases, .own rMoveT v49 102 x46.r.Moves, .own rRule v50 106 x46.r.Rules, .blk b1 [.string (bs x46.text), .int .i64 x46.at_, .int .i64 x46.now.kind, .int .i64 x46.now.at_, .int .i64 x46.now.n, .string (bs x46.now.text), v48, v49, v50] 88] := H.back [0, 1, 2, 3] [4] rfl G55
 refine ⟨_, rfl, ?_⟩
 obtain rfl := someI hF
 refine (zF (post0n rfl ?_))
 exact ⟨v48, v49, v50, rfl, H.pick [1, 2, 3, 4] (by decide)⟩
abbrev S_event_reader_cond (f : EventReader → Int → Option (Cond × EventReader)) : Prop := ∀ (p0 : EventReader) (p1 : Int) (b1 : Nat) (v2 : Value) (v3 : Value) (v4 : Value) (r : Cond × EventReader) (hF : f p0 p1 = some r) (O S : List Nat) (w : World) (H : Hd O w w S [.own Rp.str v2 9 p0.r.Phases, .own rMoveT v3 102 p0.r.Moves, .own rRule v4 106 p0.r.Rules, .blk b1 [.string (bs p0.text), .int .i64 p0.at_, .int .i64 p0.now.kind, .int .i64 p0.now.at_, .int .i64 p0.now.n, .string (bs p0.now.text), v2, v3, v4] 88, .fz (.at 0 0 ((Fl.arr 7 Fl.str).f zK)), .fz (.gi 4)]),
  Calls Tryz.prog 91 ([.pointer (some ⟨b1, 0, none⟩), .int .i64 p1] : List Value).toArray w fun e w' => ∃ u11 u12 u13 u14, e = .returned (.agg [.int .i64 r.1.Kind, .string (bs r.1.Name), .string (bs r.1.Other), .int .i64 r.1.Op, .int .i64 r.1.N, .int .i64 r.1.Frames, u11].toArray) ∧ Hd O w w' S [.fz (.sl rCond u11 r.1.Kids), .own Rp.str u12 9 r.2.r.Phases, .own rMoveT u13 102 r.2.r.Moves, .own rRule u14 106 r.2.r.Rules, .blk b1 [.string (bs r.2.text), .int .i64 r.2.at_, .int .i64 r.2.now.kind, .int .i64 r.2.now.at_, .int .i64 r.2.now.n, .string (bs r.2.now.text), u12, u13, u14] 88]
set_option maxHeartbeats 4000000 in
theorem F_event_reader_begins_w (p0 : Option EventReader) (v1 : Option Addr) (r : Bool) (hF : F_event_reader_begins p0 = some r) (O S : List Nat) (w : World) (H : Hd O w w S [.fz (.pt rEventReader v1 p0)]) :
  Calls Tryz.prog 178 ([.pointer v1] : List Value).toArray w fun e w' => e = .returned (.bool r) ∧ Hd O w w' S [] := by
 unfold F_event_reader_begins at hF
 refine yC 21 Tryz.func178 rfl rfl rfl ?_
 refine zC fun K3 hK3 => ?_
 refine zB ?_
 refine zI (.bool false) ?_
 refine (zF (zA (hK3 _ _ ?_)))
 refine zC fun K65 hK65 => ?_
 refine zC fun K66 hK66 => ?_
 refine zB ?_
 refine zN (.pointer v1) ?_
 obtain ⟨x67, e68, hF⟩ := zD hF
 obtain ⟨b69, o70, cs71, q72, h73, h74, h75, h76⟩ := ptf_some ((H.item (i := 0) rfl) : PtF _ _ _ _ _) e68
 obtain ⟨v77, v78, v79, rfl, h80, h81, h82⟩ := rEventReader_open h75
 have H := H.fzs [.at b69 o70 _, .sl Rp.str v77 x67.r.Phases, .sl rMoveT v78 x67.r.Moves, .sl rRule v79 x67.r.Rules] ⟨⟨h73, h74, h76⟩, h80, h81, h82, trivial⟩
 refine zH (yM (ad := ⟨b69, o70, none⟩) (congrArg Value.pointer q72)) ?_
 refine zH (fa88_2 rfl) ?_
 refine zH (fa86_0 rfl) ?_
 refine zH (zM one3 rfl (Cells.get (H.item (i := 1) rfl).2.2 (i := 2) rfl)) ?_
 refine (zF (zA (hK66 _ _ ?_)))
 refine yF ?_
 refine zC fun K87 hK87 => ?_
 refine zB ?_
 obtain ⟨x88, e89, hF⟩ := zG hF
 refine zH (zV (xH (a := x67.now.kind) (b := 2) rfl rfl) e89) ?_
 refine zI (.bool x88) ?_
 refine (zF (zA (hK87 _ _ ?_)))
 refine zZ (b := x88) rfl (fun c90 => ?_) (fun c90 => ?_)
 ·have hF := zQ c90 hF
  refine zC fun K91 hK91 => ?_
  refine zB ?_
  refine zI (.bool true) ?_
  refine (zF (zA (hK91 _ _ ?_)))
  obtain rfl := someI hF
  refine (yB (yE (zX (post1 (v1 := .bool true) rfl rfl ?_))))
  exact ⟨rfl, H.pick [] (by decide)⟩
 have hF := zS c90 hF
 refine zC fun K92 hK92 => ?_
 refine zB ?_
 obtain ⟨x93, e94, hF⟩ := zG hF
 refine zH (zV (xH (a := x67.now.kind) (b := 1) rfl rfl) e94) ?_
 refine zI (.bool x93) ?_
 refine (zF (zA (hK92 _ _ ?_)))
 refine zZ (b := x93) rfl (fun c95 => ?_) (fun c95 => ?_)
 ·have hF := zQ c95 hF
  refine zC fun K96 hK96 => ?_
  refine zB ?_
  obtain ⟨x97, e98, hF⟩ := zG hF
  subst e98
  refine yT rfl rfl (Lx_bs (r := Rp.str) (xl := [[116, 114, 117, 101], [102, 97, 108, 115, 101], [115, 116, 101, 97, 100, 121], [112, 104, 97, 115, 101], [114, 117, 108, 101], [110, 111, 116], [102, 111, 114], [119, 105, 116, 104, 105, 110], [99, 111, 117, 110, 116], [114, 105, 115, 101, 115], [115, 105, 110, 99, 101]]) (cs := [.string (bs [116, 114, 117, 101]), .string (bs [102, 97, 108, 115, 101]), .string (bs [115, 116, 101, 97, 100, 121]), .string (bs [112, 104, 97, 115, 101]), .string (bs [114, 117, 108, 101]), .string (bs [110, 111, 116]), .string (bs [102, 111, 114]), .string (bs [119, 105, 116, 104, 105, 110]), .string (bs [99, 111, 117, 110, 116]), .string (bs [114, 105, 115, 101, 115]), .string (bs [115, 105, 110, 99, 101])]) u22 el9 (by decide) (by decide) rfl (xK (vs := [.string (bs [116, 114, 117, 101]), .string (bs [102, 97, 108, 115, 101]), .string (bs [115, 116, 101, 97, 100, 121]), .string (bs [112, 104, 97, 115, 101]), .string (bs [114, 117, 108, 101]), .string (bs [110, 111, 116]), .string (bs [102, 111, 114]), .string (bs [119, 105, 116, 104, 105, 110]), .string (bs [99, 111, 117, 110, 116]), .string (bs [114, 105, 115, 101, 115]), .string (bs [115, 105, 110, 99, 101])]) (by decide) rfl rfl ⟨rfl, rfl, rfl, rfl, rfl, rfl, rfl, rfl, rfl, rfl, rfl, trivial⟩ rfl) H ⟨[.string (bs [116, 114, 117, 101])], [.string (bs [102, 97, 108, 115, 101]), .string (bs [115, 116, 101, 97, 100, 121]), .string (bs [112, 104, 97, 115, 101]), .string (bs [114, 117, 108, 101]), .string (bs [110, 111, 116]), .string (bs [102, 111, 114]), .string (bs [119, 105, 116, 104, 105, 110]), .string (bs [99, 111, 117, 110, 116]), .string (bs [114, 105, 115, 101, 115]), .string (bs [115, 105, 110, 99, 101])], rfl, rfl, ⟨[.string (bs [102, 97, 108, 115, 101])], [.string (bs [115, 116, 101, 97, 100, 121]), .string (bs [112, 104, 97, 115, 101]), .string (bs [114, 117, 108, 101]), .string (bs [110, 111, 116]), .string (bs [102, 111, 114]), .string (bs [119, 105, 116, 104, 105, 110]), .string (bs [99, 111, 117, 110, 116]), .string (bs [114, 105, 115, 101, 115]), .string (bs [115, 105, 110, 99, 101])], rfl, rfl, ⟨[.string (bs [115, 116, 101, 97, 100, 121])], [.string (bs [112, 104, 97, 115, 101]), .string (bs [114, 117, 108, 101]), .string (bs [110, 111, 116]), .string (bs [102, 111, 114]), .string (bs [119, 105, 116, 104, 105, 110]), .string (bs [99, 111, 117, 110, 116]), .string (bs [114, 105, 115, 101, 115]), .string (bs [115, 105, 110, 99, 101])], rfl, rfl, ⟨[.string (bs [112, 104, 97, 115, 101])], [.string (bs [114, 117, 108, 101]), .string (bs [110, 111, 116]), .string (bs [102, 111, 114]), .string (bs [119, 105, 116, 104, 105, 110]), .string (bs [99, 111, 117, 110, 116]), .string (bs [114, 105, 115, 101, 115]), .string (bs [115, 105, 110, 99, 101])], rfl, rfl, ⟨[.string (bs [114, 117, 108, 101])], [.string (bs [110, 111, 116]), .string (bs [102, 111, 114]), .string (bs [119, 105, 116, 104, 105, 110]), .string (bs [99, 111, 117, 110, 116]), .string (bs [114, 105, 115, 101, 115]), .string (bs [115, 105, 110, 99, 101])], rfl, rfl, ⟨[.string (bs [110, 111, 116])], [.string (bs [102, 111, 114]), .string (bs [119, 105, 116, 104, 105, 110]), .string (bs [99, 111, 117, 110, 116]), .string (bs [114, 105, 115, 101, 115]), .string (bs [115, 105, 110, 99, 101])], rfl, rfl, ⟨[.string (bs [102, 111, 114])], [.string (bs [119, 105, 116, 104, 105, 110]), .string (bs [99, 111, 117, 110, 116]), .string (bs [114, 105, 115, 101, 115]), .string (bs [115, 105, 110, 99, 101])], rfl, rfl, ⟨[.string (bs [119, 105, 116, 104, 105, 110])], [.string (bs [99, 111, 117, 110, 116]), .string (bs [114, 105, 115, 101, 115]), .string (bs [115, 105, 110, 99, 101])], rfl, rfl, ⟨[.string (bs [99, 111, 117, 110, 116])], [.string (bs [114, 105, 115, 101, 115]), .string (bs [115, 105, 110, 99, 101])], rfl, rfl, ⟨[.string (bs [114, 105, 115, 101, 115])], [.string (bs [115, 105, 110, 99, 101])], rfl, rfl, ⟨[.string (bs [115, 105, 110, 99, 101])], [], rfl, rfl, rfl⟩⟩⟩⟩⟩⟩⟩⟩⟩⟩⟩) ?_
  rintro v100 w101 H
  refine zN (.pointer v1) ?_
  obtain ⟨x102, e103, hF⟩ := zD hF
  obtain ⟨b104, o105, cs106, q107, h108, h109, h110, h111⟩ := ptf_some ((H.item (i := 0) rfl) : PtF _ _ _ _ _) e103
  obtain ⟨v112, v113, v114, rfl, h115, h116, h117⟩ := rEventReader_open h110
  have H := H.fzs [.at b104 o105 _, .sl Rp.str v112 x102.r.Phases, .sl rMoveT v113 x102.r.Moves, .sl rRule v114 x102.r.Rules] ⟨⟨h108, h109, h111⟩, h115, h116, h117, trivial⟩
  refine zH (yM (ad := ⟨b104, o105, none⟩) (congrArg Value.pointer q107)) ?_
  refine zH (fa88_2 rfl) ?_
  refine zH (fa86_3 rfl) ?_
  refine zH (zM one9 rfl (Cells.get (H.item (i := 6) rfl).2.2 (i := 5) rfl)) ?_
  have H122 := H
  have H := H.freeze (i := 5) rfl
  obtain ⟨x123, e124, hF⟩ := zD hF
  refine zW rfl rfl (zT en65 rfl) (F_slices_Contains___string_string__w ([[116, 114, 117, 101], [102, 97, 108, 115, 101], [115, 116, 101, 97, 100, 121], [112, 104, 97, 115, 101], [114, 117, 108, 101], [110, 111, 116], [102, 111, 114], [119, 105, 116, 104, 105, 110], [99, 111, 117, 110, 116], [114, 105, 115, 101, 115], [115, 105, 110, 99, 101]] : List Str) x102.now.text v100 _ e124 _ _ _ (H.enter [] [5] (by decide) rfl)) ?_
  rintro _ w125 ⟨rfl, G126⟩
  have H := H122.step (G126.only : Only [] _ _)
  refine ⟨_, rfl, ?_⟩
  refine zI (.bool x123) ?_
  refine (zF (zA (hK96 _ _ ?_)))
  obtain rfl := someI hF
  refine (yB (yE (zX (post1 (v1 := .bool x123) rfl rfl ?_))))
  exact ⟨rfl, H.pick [] (by decide)⟩
 have hF := zS c95 hF
 refine (yA (yU (zA (hK65 _ _ ?_))))
 refine zC fun K127 hK127 => ?_
 refine zB ?_
 refine zN (.pointer v1) ?_
 have H128 := H
 obtain ⟨x129, e130, hF⟩ := zD hF
 refine zW rfl rfl (zT en88 rfl) (F_event_reader_is_w p0 [40] v1 _ e130 _ _ _ (H.enter [] [0] (by decide) rfl)) ?_
 rintro _ w131 ⟨rfl, G132⟩
 have H := H128.step (G132.only : Only [] _ _)
 refine ⟨_, rfl, ?_⟩
 refine zI (.bool x129) ?_
 refine (zF (zA (hK127 _ _ ?_)))
 obtain rfl := someI hF
 refine (yB (post1 (v1 := .bool x129) rfl rfl ?_))
 exact ⟨rfl, H.pick [] (by decide)⟩
set_option maxHeartbeats 4000000 in
theorem F_event_reader_number_w (p0 : EventReader) (b1 : Nat) (v2 : Value) (v3 : Value) (v4 : Value) (r : Int × EventReader) (hF : F_event_reader_number p0 = some r) (O S : List Nat) (w : World) (H : Hd O w w S [.own Rp.str v2 9 p0.r.Phases, .own rMoveT v3 102 p0.r.Moves, .own rRule v4 106 p0.r.Rules, .blk b1 [.string (bs p0.text), .int .i64 p0.at_, .int .i64 p0.now.kind, .int .i64 p0.now.at_, .int .i64 p0.now.n, .string (bs p0.now.text), v2, v3, v4] 88, .fz (.gi 4)]) :
  Calls Tryz.prog 181 ([.pointer (some ⟨b1, 0, none⟩)] : List Value).toArray w fun e w' => ∃ u10 u11 u12, e = .returned (.int .i64 r.1) ∧ Hd O w w' S [.own Rp.str u10 9 r.2.r.Phases, .own rMoveT u11 102 r.2.r.Moves, .own rRule u12 106 r.2.r.Rules, .blk b1 [.string (bs r.2.text), .int .i64 r.2.at_, .int .i64 r.2.now.kind, .int .i64 r.2.now.at_, .int .i64 r.2.now.n, .string (bs r.2.now.text), u10, u11, u12] 88] := by
 unfold F_event_reader_number at hF
 refine yC 6 Tryz.func181 rfl rfl rfl ?_
 refine zC fun K13 hK13 => ?_
 refine zB ?_
 refine zI (.int .i64 0) ?_
 refine (zF (zA (hK13 _ _ ?_)))
 refine zC fun K14 hK14 => ?_
 refine zB ?_
 refine zN (.pointer (some ⟨b1, 0, none⟩)) ?_
 obtain ⟨⟨x15, x16⟩, e17, hF⟩ := zD hF
 refine zW rfl rfl (zT en140 rfl) (F_event_reader_take_w p0 3 b1 v2 v3 v4 _ e17 _ _ _ (H.enter [0, 1, 2, 3] [4] (by decide) rfl)) ?_
 rintro _ w24 ⟨v18, v19, v20, rfl, G25⟩
 have H : Hd O _ w24 _ [.fz (.gi 4), .own Rp.str v18 9 x16.r.Phases, .own rMoveT v19 102 x16.r.Moves, .own rRule v20 106 x16.r.Rules, .blk b1 [.string (bs x16.text), .int .i64 x16.at_, .int .i64 x16.now.kind, .int .i64 x16.now.at_, .int .i64 x16.now.n, .string (bs x16.now.text), v18, v19, v20] 88] := H.back [0, 1, 2, 3] [4] rfl G25
 refine ⟨_, rfl, ?_⟩
 refine zH (Do_field1 (v := .int .i64 x15.n) fo86_2 one3 rfl rfl) ?_
 refine zI (.int .i64 x15.n) ?_
 refine (zF (zA (hK14 _ _ ?_)))
 obtain rfl := someI hF
 refine (yB (post1 (v1 := .int .i64 x15.n) rfl rfl ?_))
 exact ⟨v18, v19, v20, rfl, H.pick [1, 2, 3, 4] (by decide)⟩
set_option maxHeartbeats 4000000 in
theorem F_event_reader_comparison_w (p0 : EventReader) (b1 : Nat) (v2 : Value) (v3 : Value) (v4 : Value) (r : Cond × EventReader) (hF : F_event_reader_comparison p0 = some r) (O S : List Nat) (w : World) (H : Hd O w w S [.own Rp.str v2 9 p0.r.Phases, .own rMoveT v3 102 p0.r.Moves, .own rRule v4 106 p0.r.Rules, .blk b1 [.string (bs p0.text), .int .i64 p0.at_, .int .i64 p0.now.kind, .int .i64 p0.now.at_, .int .i64 p0.now.n, .string (bs p0.now.text), v2, v3, v4] 88, .fz (.at 0 0 ((Fl.arr 7 Fl.str).f zK)), .fz (.gi 4)]) :
  Calls Tryz.prog 179 ([.pointer (some ⟨b1, 0, none⟩)] : List Value).toArray w fun e w' => ∃ u11 u12 u13 u14, e = .returned (.agg [.int .i64 r.1.Kind, .string (bs r.1.Name), .string (bs r.1.Other), .int .i64 r.1.Op, .int .i64 r.1.N, .int .i64 r.1.Frames, u11].toArray) ∧ Hd O w w' S [.fz (.sl rCond u11 r.1.Kids), .own Rp.str u12 9 r.2.r.Phases, .own rMoveT u13 102 r.2.r.Moves, .own rRule u14 106 r.2.r.Rules, .blk b1 [.string (bs r.2.text), .int .i64 r.2.at_, .int .i64 r.2.now.kind, .int .i64 r.2.now.at_, .int .i64 r.2.now.n, .string (bs r.2.now.text), u12, u13, u14] 88] := by
 unfold F_event_reader_comparison at hF
 refine yC 45 Tryz.func179 rfl rfl rfl ?_
 refine zC fun K15 hK15 => ?_
 refine zB ?_
 refine yT rfl rfl (xG zero54 H) ?_
 rintro _ w18 ⟨b16, rfl, H⟩
 refine (zF (zA (hK15 _ _ ?_)))
 refine zC fun K19 hK19 => ?_
 refine zB ?_
 refine zN (.pointer (some ⟨b1, 0, none⟩)) ?_
 obtain ⟨⟨x20, x21⟩, e22, hF⟩ := zD hF
 refine zW rfl rfl (zT en89 rfl) (F_event_reader_name_w p0 b1 v2 v3 v4 _ e22 _ _ _ (H.enter [0, 1, 2, 3] [5] (by decide) rfl)) ?_
 rintro _ w29 ⟨v23, v24, v25, rfl, G30⟩
 have H : Hd O _ w29 _ [.fz (.at 0 0 ((Fl.arr 7 Fl.str).f zK)), .fz (.gi 4), .blk b16 [.int .i64 0, .string (bs []), .string (bs []), .int .i64 0, .int .i64 0, .int .i64 0, .slice none 0 0] 54, .own Rp.str v23 9 x21.r.Phases, .own rMoveT v24 102 x21.r.Moves, .own rRule v25 106 x21.r.Rules, .blk b1 [.string (bs x21.text), .int .i64 x21.at_, .int .i64 x21.now.kind, .int .i64 x21.now.at_, .int .i64 x21.now.n, .string (bs x21.now.text), v23, v24, v25] 88] := H.back [0, 1, 2, 3] [5] rfl G30
 refine ⟨_, rfl, ?_⟩
 refine zH (xN (cs := [.int .i64 3, .string (bs x20), .string (bs []), .int .i64 0, .int .i64 0, .int .i64 0, .slice none 0 0]) (bt54_0_1 _ _)) ?_
 refine yT rfl rfl (xG zero54 H) ?_
 rintro _ w33 ⟨b31, rfl, H⟩
 refine yS rfl (yI (vs := [.int .i64 3, .string (bs x20), .string (bs []), .int .i64 0, .int .i64 0, .int .i64 0, .slice none 0 0]) H 7 rfl sz54 rfl rfl rfl ⟨rfl, rfl, rfl, rfl, rfl, rfl, rfl, trivial⟩ rfl) ?_
 rintro w34 H
 refine (zF (zA (hK19 _ _ ?_)))
 refine zC fun K35 hK35 => ?_
 have H36 := H
 have H := H.rebase
 have H37 := H
 refine WP_mix0 H [0, 1, 2, 3, 4, 5, 6, 7, 8] [.pure, .pure, .pure, .pure, .pure, .read, .read, .pure, .eff] mixed (by kernel_rfl) (by kernel_rfl) (by kernel_rfl) rfl ?_
 refine Mx.XL_exP rfl rfl rfl (Lx_sliceAA (e := Fl.str) (X := zK) (r := Rp.str) (fun _ _ _ _ => Iff.rfl) rfl u156 sz9 (H.item (i := 0) rfl).1 (H.item (i := 0) rfl).2.1 (H.item (i := 0) rfl).2.2 rfl (by decide)) ?_
 rintro v38 h39
 have H := H.fz (.sl Rp.str v38 zK.l) h39
 refine Mx.zU rfl rfl rfl (fun w' hw' => xI (v := .pointer (some ⟨b1, 0, none⟩)) rfl) ?_
 refine Mx.zU rfl rfl rfl (fun w' hw' => yM rfl) ?_
 refine Mx.zU rfl rfl rfl (fun w' hw' => fa88_2 rfl) ?_
 refine Mx.zU rfl rfl rfl (fun w' hw' => fa86_3 rfl) ?_
 refine Mx.xC oS rfl rfl rfl (fun w' hw' => zM one9 rfl (Cells.get (Blk.cells ((H.sees hw').item (i := 6) rfl)) (i := 5) rfl)) ?_
 have H41 := H
 obtain ⟨x42, e43, hF⟩ := zD hF
 refine Mx.XL_call oS rfl rfl rfl (v := .int .i64 x42) (fun w' hw' => zT en118 rfl) (fun w' hw' => call_read (F_slices_Index___string_string__w zK.l x21.now.text v38 _ e43 _ _ _ ((H.sees hw').enter [] [8] (by decide) rfl))) ?_
 have H := H41
 refine Mx.zU rfl rfl rfl (fun w' hw' => fa54_3 rfl) ?_
 refine Mx.XL_exU oS rfl rfl (fun w' hw' => xM (H.sees hw') 7 rfl sz3 rfl (v := .int .i64 x42) rfl rfl rfl) ?_
 rintro w' w44 hw' H
 refine ⟨H.only, ?_⟩
 refine Mx.XL_nil fun w45 hS => ?_
 have H := H.sees hS
 have H := H36.rejoin H
 refine (zA (hK35 _ _ ?_))
 obtain ⟨j62, hF, hK61⟩ := zD hF
 refine yO [15, 16, 17, 18, 19, 20, 21, 22, 23, 24, 25, 26, 27] (fun (g : Unit) => []) (fun g wl => Hd O w wl S [.fz (.at 0 0 ((Fl.arr 7 Fl.str).f zK)), .fz (.gi 4), .blk b16 [.int .i64 0, .string (bs []), .string (bs []), .int .i64 0, .int .i64 0, .int .i64 0, .slice none 0 0] 54, .own Rp.str v23 9 x21.r.Phases, .own rMoveT v24 102 x21.r.Moves, .own rRule v25 106 x21.r.Rules, .blk b1 [.string (bs x21.text), .int .i64 x21.at_, .int .i64 x21.now.kind, .int .i64 x21.now.at_, .int .i64 x21.now.n, .string (bs x21.now.text), v23, v24, v25] 88, .blk b31 [.int .i64 3, .string (bs x20), .string (bs []), .int .i64 x42, .int .i64 0, .int .i64 0, .slice none 0 0] 54]) ?_ ?_
 ·skip
  obtain ⟨g68, hF, hK70⟩ := zD hF
  refine yO [15, 16, 17, 18, 19, 20, 21, 22, 23, 24, 25] (fun (g : Unit) => [(25, .bool g68)]) (fun g wl => Hd O w wl S [.fz (.at 0 0 ((Fl.arr 7 Fl.str).f zK)), .fz (.gi 4), .blk b16 [.int .i64 0, .string (bs []), .string (bs []), .int .i64 0, .int .i64 0, .int .i64 0, .slice none 0 0] 54, .own Rp.str v23 9 x21.r.Phases, .own rMoveT v24 102 x21.r.Moves, .own rRule v25 106 x21.r.Rules, .blk b1 [.string (bs x21.text), .int .i64 x21.at_, .int .i64 x21.now.kind, .int .i64 x21.now.at_, .int .i64 x21.now.n, .string (bs x21.now.text), v23, v24, v25] 88, .blk b31 [.int .i64 3, .string (bs x20), .string (bs []), .int .i64 x42, .int .i64 0, .int .i64 0, .slice none 0 0] 54]) ?_ ?_
  ·skip
   refine zB ?_
   refine zN (.pointer (some ⟨b1, 0, none⟩)) ?_
   refine zH (yM rfl) ?_
   refine zH (fa88_2 rfl) ?_
   refine zH (fa86_0 rfl) ?_
   refine zH (zM one3 rfl (Cells.get (Blk.cells (H.item (i := 6) rfl)) (i := 2) rfl)) ?_
   obtain ⟨x71, e72, hF⟩ := zG hF
   refine zH (zV (Do_neq (a := x21.now.kind) (b := 4) rfl rfl) e72) ?_
   refine yQ (b := x71) rfl rfl rfl (fun c73 => ?_) (fun c73 => ?_)
   ·have hF := zQ c73 hF
    refine yG ?_
    refine yG ?_
    refine yG ?_
    refine zH (yP (v := .bool true) rfl rfl) ?_
    obtain rfl := someI hF
    exact (zF (zA (meet ⟨(), (zL rfl zO), H.pick [0, 1, 2, 3, 4, 5, 6, 7] (by decide)⟩)))
   have hF := zS c73 hF
   refine zH (fa54_3 rfl) ?_
   refine zH (zM one3 rfl (Cells.get (Blk.cells (H.item (i := 7) rfl)) (i := 3) rfl)) ?_
   obtain ⟨x74, e75, hF⟩ := zG hF
   refine zH (zV (xQ (a := x42) (b := 1) rfl rfl) e75) ?_
   refine zH (yJ (v := .bool x74) rfl rfl) ?_
   obtain rfl := someI hF
   exact (zF (zA (meet ⟨(), (zL rfl zO), H.pick [0, 1, 2, 3, 4, 5, 6, 7] (by decide)⟩)))
  rintro _ ρ w69 H
  have hF := hK70
  refine zZ (b := g68) rfl (fun c76 => ?_) (fun c76 => ?_)
  ·have hF := zQ c76 hF
   refine zB ?_
   refine zN (.pointer (some ⟨b1, 0, none⟩)) ?_
   have H77 := H
   have H := H.freezeB (i := 6) rfl
   have H := H.freeze (i := 3) rfl
   have H := H.freeze (i := 4) rfl
   have H := H.freeze (i := 5) rfl
   have H := H.fz (.pt rEventReader (some ⟨b1, 0, none⟩) (some x21)) ⟨_, _, _, rfl, (H.item (i := 6) rfl).1, (H.item (i := 6) rfl).2.1, (wB (x := x21) (H.item (i := 3) rfl) (H.item (i := 4) rfl) (H.item (i := 5) rfl)), (H.item (i := 6) rfl).2.2⟩
   obtain ⟨_, e79, hF⟩ := zD hF
   refine zW rfl rfl (zT en92 rfl) (F_event_reader_fail_w (some x21) 6 (some ⟨b1, 0, none⟩) _ e79 _ _ _ (H.enter [] [8] (by decide) rfl)) ?_
   rintro _ w80 ⟨rfl, G81⟩
   have H := H77.step (G81.only : Only [] _ _)
   refine ⟨_, rfl, ?_⟩
   obtain rfl := someI hF
   exact (zF (zA (meet ⟨(), zO, H.pick [0, 1, 2, 3, 4, 5, 6, 7] (by decide)⟩)))
  have hF := zS c76 hF
  obtain rfl := someI hF
  exact (yA (zA (meet ⟨(), zO, H.pick [0, 1, 2, 3, 4, 5, 6, 7] (by decide)⟩)))
 rintro _ ρ w60 H
 have hF := hK61
 refine zC fun K82 hK82 => ?_
 refine zB ?_
 refine zN (.pointer (some ⟨b1, 0, none⟩)) ?_
 obtain ⟨x83, e84, hF⟩ := zD hF
 refine zW rfl rfl (zT en87 rfl) (F_event_reader_advance_w x21 b1 v23 v24 v25 _ e84 _ _ _ (H.enter [3, 4, 5, 6] [1] (by decide) rfl)) ?_
 rintro _ w91 ⟨v85, v86, v87, rfl, G92⟩
 have H : Hd O _ w91 _ [.fz (.at 0 0 ((Fl.arr 7 Fl.str).f zK)), .fz (.gi 4), .blk b16 [.int .i64 0, .string (bs []), .string (bs []), .int .i64 0, .int .i64 0, .int .i64 0, .slice none 0 0] 54, .blk b31 [.int .i64 3, .string (bs x20), .string (bs []), .int .i64 x42, .int .i64 0, .int .i64 0, .slice none 0 0] 54, .own Rp.str v85 9 x83.r.Phases, .own rMoveT v86 102 x83.r.Moves, .own rRule v87 106 x83.r.Rules, .blk b1 [.string (bs x83.text), .int .i64 x83.at_, .int .i64 x83.now.kind, .int .i64 x83.now.at_, .int .i64 x83.now.n, .string (bs x83.now.text), v85, v86, v87] 88] := H.back [3, 4, 5, 6] [1] rfl G92
 refine ⟨_, rfl, ?_⟩
 refine (zF (zA (hK82 _ _ ?_)))
 refine zC fun K113 hK113 => ?_
 refine zC fun K114 hK114 => ?_
 refine zB ?_
 refine zN (.pointer (some ⟨b1, 0, none⟩)) ?_
 refine zH (yM rfl) ?_
 refine zH (fa88_2 rfl) ?_
 refine zH (fa86_0 rfl) ?_
 refine zH (zM one3 rfl (Cells.get (Blk.cells (H.item (i := 7) rfl)) (i := 2) rfl)) ?_
 obtain ⟨x115, e116, hF⟩ := zG hF
 refine zH (zV (xH (a := x83.now.kind) (b := 2) rfl rfl) e116) ?_
 refine (zF (zA (hK114 _ _ ?_)))
 refine zZ (b := x115) rfl (fun c117 => ?_) (fun c117 => ?_)
 ·have hF := zQ c117 hF
  refine zC fun K118 hK118 => ?_
  refine zB ?_
  refine zN (.pointer (some ⟨b1, 0, none⟩)) ?_
  obtain ⟨⟨x119, x120⟩, e121, hF⟩ := zD hF
  refine zW rfl rfl (zT en89 rfl) (F_event_reader_name_w x83 b1 v85 v86 v87 _ e121 _ _ _ (H.enter [4, 5, 6, 7] [1] (by decide) rfl)) ?_
  rintro _ w128 ⟨v122, v123, v124, rfl, G129⟩
  have H : Hd O _ w128 _ [.fz (.at 0 0 ((Fl.arr 7 Fl.str).f zK)), .fz (.gi 4), .blk b16 [.int .i64 0, .string (bs []), .string (bs []), .int .i64 0, .int .i64 0, .int .i64 0, .slice none 0 0] 54, .blk b31 [.int .i64 3, .string (bs x20), .string (bs []), .int .i64 x42, .int .i64 0, .int .i64 0, .slice none 0 0] 54, .own Rp.str v122 9 x120.r.Phases, .own rMoveT v123 102 x120.r.Moves, .own rRule v124 106 x120.r.Rules, .blk b1 [.string (bs x120.text), .int .i64 x120.at_, .int .i64 x120.now.kind, .int .i64 x120.now.at_, .int .i64 x120.now.n, .string (bs x120.now.text), v122, v123, v124] 88] := H.back [4, 5, 6, 7] [1] rfl G129
  refine ⟨_, rfl, ?_⟩
  refine zH (fa54_0 rfl) ?_
  refine yS rfl (xM H 3 rfl sz3 rfl (v := .int .i64 4) rfl rfl rfl) ?_
  rintro w130 H
  refine zH (fa54_2 rfl) ?_
  refine yS rfl (xM H 3 rfl sz9 rfl (v := .string (bs x119)) rfl rfl rfl) ?_
  rintro w131 H
  refine (zF (zA (hK118 _ _ ?_)))
  refine zC fun K132 hK132 => ?_
  refine zB ?_
  refine zH (yL (yH (cs := [.int .i64 4, .string (bs x20), .string (bs x119), .int .i64 x42, .int .i64 0, .int .i64 0, .slice none 0 0]) agg54 rfl sz54 rfl (Blk.cells (H.item (i := 3) rfl))) rfl) ?_
  refine yS rfl (yI (vs := [.int .i64 4, .string (bs x20), .string (bs x119), .int .i64 x42, .int .i64 0, .int .i64 0, .slice none 0 0]) H 2 rfl sz54 rfl rfl rfl ⟨rfl, rfl, rfl, rfl, rfl, rfl, rfl, trivial⟩ rfl) ?_
  rintro w133 H
  refine (zF (zA (hK132 _ _ ?_)))
  have H := H.fz (.sl rCond (.slice none 0 0) []) SlF.nil
  obtain rfl := someI hF
  refine (yB (zX (postc  rfl rfl (yD agg54 sz54 rfl (Blk.cells (H.item (i := 2) rfl))) ?_)))
  exact ⟨.slice none 0 0, v122, v123, v124, rfl, H.pick [8, 4, 5, 6, 7] (by decide)⟩
 have hF := zS c117 hF
 refine (yA (zA (hK113 _ _ ?_)))
 refine zC fun K135 hK135 => ?_
 refine zB ?_
 refine zN (.pointer (some ⟨b1, 0, none⟩)) ?_
 obtain ⟨⟨x136, x137⟩, e138, hF⟩ := zD hF
 refine zW rfl rfl (zT en181 rfl) (F_event_reader_number_w x83 b1 v85 v86 v87 _ e138 _ _ _ (H.enter [4, 5, 6, 7] [1] (by decide) rfl)) ?_
 rintro _ w145 ⟨v139, v140, v141, rfl, G146⟩
 have H : Hd O _ w145 _ [.fz (.at 0 0 ((Fl.arr 7 Fl.str).f zK)), .fz (.gi 4), .blk b16 [.int .i64 0, .string (bs []), .string (bs []), .int .i64 0, .int .i64 0, .int .i64 0, .slice none 0 0] 54, .blk b31 [.int .i64 3, .string (bs x20), .string (bs []), .int .i64 x42, .int .i64 0, .int .i64 0, .slice none 0 0] 54, .own Rp.str v139 9 x137.r.Phases, .own rMoveT v140 102 x137.r.Moves, .own rRule v141 106 x137.r.Rules, .blk b1 [.string (bs x137.text), .int .i64 x137.at_, .int .i64 x137.now.kind, .int .i64 x137.now.at_, .int .i64 x137.now.n, .string (bs x137.now.text), v139, v140, v141] 88] := H.back [4, 5, 6, 7] [1] rfl G146
 refine ⟨_, rfl, ?_⟩
 refine zH (fa54_4 rfl) ?_
 refine yS rfl (xM H 3 rfl sz3 rfl (v := .int .i64 x136) rfl rfl rfl) ?_
 rintro w147 H
 refine (zF (zA (hK135 _ _ ?_)))
 refine zC fun K148 hK148 => ?_
 refine zB ?_
 refine zH (yL (yH (cs := [.int .i64 3, .string (bs x20), .string (bs []), .int .i64 x42, .int .i64 x136, .int .i64 0, .slice none 0 0]) agg54 rfl sz54 rfl (Blk.cells (H.item (i := 3) rfl))) rfl) ?_
 refine yS rfl (yI (vs := [.int .i64 3, .string (bs x20), .string (bs []), .int .i64 x42, .int .i64 x136, .int .i64 0, .slice none 0 0]) H 2 rfl sz54 rfl rfl rfl ⟨rfl, rfl, rfl, rfl, rfl, rfl, rfl, trivial⟩ rfl) ?_
 rintro w149 H
 refine (zF (zA (hK148 _ _ ?_)))
 have H := H.fz (.sl rCond (.slice none 0 0) []) SlF.nil
 obtain rfl := someI hF
 refine (yB (postc  rfl rfl (yD agg54 sz54 rfl (Blk.cells (H.item (i := 2) rfl))) ?_))
 exact ⟨.slice none 0 0, v139, v140, v141, rfl, H.pick [8, 4, 5, 6, 7] (by decide)⟩
abbrev S_event_reader_part (f : EventReader → Int → Option (Cond × EventReader)) : Prop := ∀ (p0 : EventReader) (p1 : Int) (b1 : Nat) (v2 : Value) (v3 : Value) (v4 : Value) (r : Cond × EventReader) (hF : f p0 p1 = some r) (O S : List Nat) (w : World) (H : Hd O w w S [.own Rp.str v2 9 p0.r.Phases, .own rMoveT v3 102 p0.r.Moves, .own rRule v4 106 p0.r.Rules, .blk b1 [.string (bs p0.text), .int .i64 p0.at_, .int .i64 p0.now.kind, .int .i64 p0.now.at_, .int .i64 p0.now.n, .string (bs p0.now.text), v2, v3, v4] 88, .fz (.at 0 0 ((Fl.arr 7 Fl.str).f zK)), .fz (.gi 4)]),
  Calls Tryz.prog 144 ([.pointer (some ⟨b1, 0, none⟩), .int .i64 p1] : List Value).toArray w fun e w' => ∃ u11 u12 u13 u14, e = .returned (.agg [.int .i64 r.1.Kind, .string (bs r.1.Name), .string (bs r.1.Other), .int .i64 r.1.Op, .int .i64 r.1.N, .int .i64 r.1.Frames, u11].toArray) ∧ Hd O w w' S [.fz (.sl rCond u11 r.1.Kids), .own Rp.str u12 9 r.2.r.Phases, .own rMoveT u13 102 r.2.r.Moves, .own rRule u14 106 r.2.r.Rules, .blk b1 [.string (bs r.2.text), .int .i64 r.2.at_, .int .i64 r.2.now.kind, .int .i64 r.2.now.at_, .int .i64 r.2.now.n, .string (bs r.2.now.text), u12, u13, u14] 88]
end Go.Proofs.YtnajnkghilemhaaGreatDoor.L
