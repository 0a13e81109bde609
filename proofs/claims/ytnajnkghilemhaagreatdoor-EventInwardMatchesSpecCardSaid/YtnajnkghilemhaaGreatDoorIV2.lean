/- Walks: what each function computes, for every argument; no condition but those that stand in the statements. -/
import Derived.Test.YtnajnkghilemhaaGreatDoorIV0
import Derived.Test.YtnajnkghilemhaaGreatDoorIV1
namespace Go.Proofs.YtnajnkghilemhaaGreatDoor.L
open Go.RowKit Go.OB Go.Lf
set_option maxHeartbeats 4000000 in
theorem F_event_Inward_w (p0 : Cond) (v1 : Value) (r : Cond × Int) (hF : F_event_Inward p0 = some r) (O S : List Nat) (w : World) (H : Hd O w w S [.fz (.sl rCond v1 p0.Kids)]) :
  Calls Tryz.prog 19 ([.agg [.int .i64 p0.Kind, .string (bs p0.Name), .string (bs p0.Other), .int .i64 p0.Op, .int .i64 p0.N, .int .i64 p0.Frames, v1].toArray] : List Value).toArray w fun e w' => ∃ u3, e = .returned (.tuple #[.agg [.int .i64 r.1.Kind, .string (bs r.1.Name), .string (bs r.1.Other), .int .i64 r.1.Op, .int .i64 r.1.N, .int .i64 r.1.Frames, u3].toArray, .int .i64 r.2]) ∧ Hd O w w' S [.fz (.sl rCond u3 r.1.Kids)] := by
 unfold F_event_Inward at hF
 refine yB 22 Tryz.func19 rfl rfl rfl ?_
 refine zC fun K4 hK4 => ?_
 refine zB ?_
 refine yX rfl rfl (Lx_box (cs := [.int .i64 p0.Kind, .string (bs p0.Name), .string (bs p0.Other), .int .i64 p0.Op, .int .i64 p0.N, .int .i64 p0.Frames, v1]) rfl H) ?_
 rintro _ w7 ⟨b5, rfl, H⟩
 refine yX rfl rfl (xB zero54 H) ?_
 rintro _ w10 ⟨b8, rfl, H⟩
 refine zI (.int .i64 0) ?_
 refine (zF (zA (hK4 _ _ ?_)))
 refine zC fun K23 hK23 => ?_
 refine zC fun K24 hK24 => ?_
 refine zB ?_
 refine zH (yQ (yM (cs := [.int .i64 p0.Kind, .string (bs p0.Name), .string (bs p0.Other), .int .i64 p0.Op, .int .i64 p0.N, .int .i64 p0.Frames, v1]) agg54 rfl sz54 rfl (Blk.cells (H.item (i := 1) rfl))) rfl) ?_
 have H25 := H
 obtain ⟨x26, e27, hF⟩ := zD hF
 refine zV rfl rfl (zU en56 rfl) (F_event_CheckCond_w p0 v1 _ e27 _ _ _ (H.enter [] [0] (by decide) rfl)) ?_
 rintro _ w28 ⟨rfl, G29⟩
 have H := H25.step (G29.only : Only [] _ _)
 refine ⟨_, rfl, ?_⟩
 refine zI (.int .i64 x26) ?_
 refine (zF (zA (hK24 _ _ ?_)))
 refine zC fun K30 hK30 => ?_
 refine zB ?_
 refine zM (.int .i64 x26) ?_
 obtain ⟨x31, e32, hF⟩ := zG hF
 refine zH (zS (Do_neq (a := x26) (b := 0) rfl rfl) e32) ?_
 refine (zF (zA (hK30 _ _ ?_)))
 refine zW (b := x31) rfl (fun c33 => ?_) (fun c33 => ?_)
 ·have hF := zO c33 hF
  refine zC fun K34 hK34 => ?_
  refine zB ?_
  refine zH (xH (cs := [.int .i64 0, .string (bs []), .string (bs []), .int .i64 0, .int .i64 0, .int .i64 0, .slice none 0 0]) bz54) ?_
  refine zM (.int .i64 x26) ?_
  refine yN rfl (yH (vs := [.int .i64 0, .string (bs []), .string (bs []), .int .i64 0, .int .i64 0, .int .i64 0, .slice none 0 0]) H 2 rfl sz54 rfl rfl rfl ⟨rfl, rfl, rfl, rfl, rfl, rfl, rfl, trivial⟩ rfl) ?_
  rintro w35 H
  refine zI (.int .i64 x26) ?_
  refine (zF (zA (hK34 _ _ ?_)))
  have H := H.fz (.sl rCond (.slice none 0 0) []) SlF.nil
  obtain rfl := someI hF
  refine (zZ (zY (postc1 (v1 := .int .i64 x26) rfl rfl (yC agg54 sz54 rfl (Blk.cells (H.item (i := 2) rfl))) rfl ?_)))
  exact ⟨.slice none 0 0, rfl, H.pick [3] (by decide)⟩
 have hF := zN c33 hF
 refine (yA (zA (hK23 _ _ ?_)))
 refine zC fun K37 hK37 => ?_
 refine zB ?_
 refine zH (yQ (yM (cs := [.int .i64 p0.Kind, .string (bs p0.Name), .string (bs p0.Other), .int .i64 p0.Op, .int .i64 p0.N, .int .i64 p0.Frames, v1]) agg54 rfl sz54 rfl (Blk.cells (H.item (i := 1) rfl))) rfl) ?_
 obtain ⟨x38, e39, hF⟩ := zD hF
 refine zV rfl rfl (zU en57 rfl) (F_event_inward_s p0 false v1 _ e39 _ _ _ (H.enter [] [0] (by decide) rfl)) ?_
 rintro _ w42 ⟨v40, rfl, G43⟩
 have H := H.back1 [0] rfl G43
 refine ⟨_, rfl, ?_⟩
 refine yX rfl rfl (xB zero54 H) ?_
 rintro _ w46 ⟨b44, rfl, H⟩
 refine yN rfl (yH (vs := [.int .i64 x38.Kind, .string (bs x38.Name), .string (bs x38.Other), .int .i64 x38.Op, .int .i64 x38.N, .int .i64 x38.Frames, v40]) H 4 rfl sz54 rfl rfl rfl ⟨rfl, rfl, rfl, rfl, rfl, rfl, (wE (H.item (i := 3) rfl)), trivial⟩ rfl) ?_
 rintro w47 H
 refine (zF (zA (hK37 _ _ ?_)))
 refine zC fun K60 hK60 => ?_
 refine zC fun K61 hK61 => ?_
 refine zB ?_
 refine zH (yQ (yM (cs := [.int .i64 x38.Kind, .string (bs x38.Name), .string (bs x38.Other), .int .i64 x38.Op, .int .i64 x38.N, .int .i64 x38.Frames, v40]) agg54 rfl sz54 rfl (Blk.cells (H.item (i := 4) rfl))) rfl) ?_
 have H62 := H
 obtain ⟨x63, e64, hF⟩ := zD hF
 refine zV rfl rfl (zU en56 rfl) (F_event_CheckCond_w x38 v40 _ e64 _ _ _ (H.enter [] [3] (by decide) rfl)) ?_
 rintro _ w65 ⟨rfl, G66⟩
 have H := H62.step (G66.only : Only [] _ _)
 refine ⟨_, rfl, ?_⟩
 refine zI (.int .i64 x63) ?_
 refine (zF (zA (hK61 _ _ ?_)))
 refine zC fun K67 hK67 => ?_
 refine zB ?_
 refine zM (.int .i64 x63) ?_
 obtain ⟨x68, e69, hF⟩ := zG hF
 refine zH (zS (Do_neq (a := x63) (b := 0) rfl rfl) e69) ?_
 refine (zF (zA (hK67 _ _ ?_)))
 refine zW (b := x68) rfl (fun c70 => ?_) (fun c70 => ?_)
 ·have hF := zO c70 hF
  refine zC fun K71 hK71 => ?_
  refine zB ?_
  refine zH (xH (cs := [.int .i64 0, .string (bs []), .string (bs []), .int .i64 0, .int .i64 0, .int .i64 0, .slice none 0 0]) bz54) ?_
  refine zM (.int .i64 x63) ?_
  refine yN rfl (yH (vs := [.int .i64 0, .string (bs []), .string (bs []), .int .i64 0, .int .i64 0, .int .i64 0, .slice none 0 0]) H 2 rfl sz54 rfl rfl rfl ⟨rfl, rfl, rfl, rfl, rfl, rfl, rfl, trivial⟩ rfl) ?_
  rintro w72 H
  refine zI (.int .i64 x63) ?_
  refine (zF (zA (hK71 _ _ ?_)))
  have H := H.fz (.sl rCond (.slice none 0 0) []) SlF.nil
  obtain rfl := someI hF
  refine (zZ (zY (postc1 (v1 := .int .i64 x63) rfl rfl (yC agg54 sz54 rfl (Blk.cells (H.item (i := 2) rfl))) rfl ?_)))
  exact ⟨.slice none 0 0, rfl, H.pick [5] (by decide)⟩
 have hF := zN c70 hF
 refine (yA (zA (hK60 _ _ ?_)))
 refine zC fun K74 hK74 => ?_
 refine zB ?_
 refine zH (yQ (yM (cs := [.int .i64 x38.Kind, .string (bs x38.Name), .string (bs x38.Other), .int .i64 x38.Op, .int .i64 x38.N, .int .i64 x38.Frames, v40]) agg54 rfl sz54 rfl (Blk.cells (H.item (i := 4) rfl))) rfl) ?_
 refine yN rfl (yH (vs := [.int .i64 x38.Kind, .string (bs x38.Name), .string (bs x38.Other), .int .i64 x38.Op, .int .i64 x38.N, .int .i64 x38.Frames, v40]) H 2 rfl sz54 rfl rfl rfl ⟨rfl, rfl, rfl, rfl, rfl, rfl, (wE (H.item (i := 3) rfl)), trivial⟩ rfl) ?_
 rintro w75 H
 refine zI (.int .i64 0) ?_
 refine (zF (zA (hK74 _ _ ?_)))
 obtain rfl := someI hF
 refine (zZ (postc1 (v1 := .int .i64 0) rfl rfl (yC agg54 sz54 rfl (Blk.cells (H.item (i := 2) rfl))) rfl ?_))
 exact ⟨v40, rfl, H.pick [3] (by decide)⟩
set_option maxHeartbeats 4000000 in
theorem F_internal_strconv_AppendInt_w (p0 : List Int) (p1 : Int) (p2 : Int) (v1 : Value) (r : (List Int)) (hF : F_internal_strconv_AppendInt p0 p1 p2 = some r) (O S : List Nat) (w : World) (H : Hd O w w S [.own (Rp.int .u8) v1 5 p0, .fz (.at 3 0 ((Fl.arr 20 (Fl.int .u64)).f zQ))]) :
  Calls Tryz.prog 136 ([v1, .int .i64 p1, .int .i64 p2] : List Value).toArray w fun e w' => ∃ u4, e = .returned (u4) ∧ Hd O w w' S [.own (Rp.int .u8) u4 5 r] := by
 unfold F_internal_strconv_AppendInt at hF
 refine yB 21 Tryz.func136 rfl rfl rfl ?_
 refine zC fun K5 hK5 => ?_
 refine zB ?_
 refine zI (.slice none 0 0) ?_
 refine (zF (zA (hK5 _ _ ?_)))
 refine zC fun K6 hK6 => ?_
 refine zB ?_
 refine zM (.int .i64 p1) ?_
 obtain ⟨x7, e8, hF⟩ := zG hF
 refine zH (Do_conv u2 u251 rfl e8) ?_
 refine zI (.int .u64 x7) ?_
 refine (zF (zA (hK6 _ _ ?_)))
 obtain ⟨j30, hF, hK29⟩ := zD hF
 refine yL [0, 7, 10, 11, 12, 13, 14, 15, 16] (fun (g : Value) => [(0, g), (7, .int .u64 j30.2)]) (fun g wl => Hd O w wl S [.own (Rp.int .u8) g 5 j30.1, .fz (.at 3 0 ((Fl.arr 20 (Fl.int .u64)).f zQ))]) ?_ ?_
 ·skip
  refine zC fun K31 hK31 => ?_
  refine zB ?_
  refine zM (.int .i64 p1) ?_
  obtain ⟨x32, e33, hF⟩ := zG hF
  refine zH (zS (xZ (a := p1) (b := 0) rfl rfl) e33) ?_
  refine (zF (zA (hK31 _ _ ?_)))
  refine zW (b := x32) rfl (fun c34 => ?_) (fun c34 => ?_)
  ·have hF := zO c34 hF
   refine zC fun K35 hK35 => ?_
   refine zB ?_
   refine zM v1 ?_
   obtain ⟨x36, e37, hF⟩ := zG hF
   subst e37
   refine yX rfl rfl (Lx_bs (r := (Rp.int .u8)) (xl := [45]) (cs := [.int .u8 45]) u77 el5 (by decide) (by decide) rfl (xJ (vs := [.int .u8 45]) (by decide) rfl rfl ⟨rfl, trivial⟩ rfl) H ⟨[.int .u8 45], [], rfl, rfl, rfl⟩) ?_
   rintro v39 w40 H
   obtain ⟨x41, e42, hF⟩ := zD hF
   refine yX rfl rfl (Lx_app H (i := 0) rfl u77 el5 rfl rfl (Sr.of_own (H.item (i := 2) rfl)) e42) ?_
   rintro v43 w44 H
   refine zI v43 ?_
   refine (zF (zA (hK35 _ _ ?_)))
   refine zB ?_
   refine zM (.int .u64 x7) ?_
   obtain ⟨x45, e46, hF⟩ := zG hF
   refine zH (Do_neg (a := x7) rfl e46) ?_
   refine zI (.int .u64 x45) ?_
   obtain rfl := someI hF
   exact (zF (zA (meet ⟨v43, (zK rfl (zK rfl zL)), H.pick [0, 1] (by decide)⟩)))
  have hF := zN c34 hF
  obtain rfl := someI hF
  exact (yA (zA (meet ⟨v1, (zK rfl (zK rfl zL)), H.pick [0, 1] (by decide)⟩)))
 rintro v26 ρ w28 H
 have hF := hK29
 obtain ⟨g25, g27⟩ := j30
 refine zC fun K47 hK47 => ?_
 refine zB ?_
 refine zM v26 ?_
 refine zM (.int .u64 g27) ?_
 refine zM (.int .i64 p2) ?_
 obtain ⟨x48, e49, hF⟩ := zD hF
 refine zV rfl rfl (zU en173 rfl) (E.X_AppendUint_w g25 g27 p2 v26 _ e49 _ _ _ (H.enter [0] [1] (by decide) rfl)) ?_
 rintro _ w52 ⟨v50, rfl, G53⟩
 have H : Hd O _ w52 _ [.fz (.at 3 0 ((Fl.arr 20 (Fl.int .u64)).f zQ)), .own (Rp.int .u8) v50 5 x48] := H.back [0] [1] rfl G53
 refine ⟨_, rfl, ?_⟩
 refine zI v50 ?_
 refine (zF (zA (hK47 _ _ ?_)))
 obtain rfl := someI hF
 refine (zZ (post1 (v1 := v50) rfl rfl ?_))
 exact ⟨v50, rfl, H.pick [1] (by decide)⟩
set_option maxHeartbeats 4000000 in
theorem F_strconv_AppendInt_w (p0 : List Int) (p1 : Int) (p2 : Int) (v1 : Value) (r : (List Int)) (hF : F_strconv_AppendInt p0 p1 p2 = some r) (O S : List Nat) (w : World) (H : Hd O w w S [.own (Rp.int .u8) v1 5 p0, .fz (.at 3 0 ((Fl.arr 20 (Fl.int .u64)).f zQ))]) :
  Calls Tryz.prog 85 ([v1, .int .i64 p1, .int .i64 p2] : List Value).toArray w fun e w' => ∃ u4, e = .returned (u4) ∧ Hd O w w' S [.own (Rp.int .u8) u4 5 r] := by
 unfold F_strconv_AppendInt at hF
 refine yB 11 Tryz.func85 rfl rfl rfl ?_
 refine zC fun K5 hK5 => ?_
 refine zB ?_
 refine zI (.slice none 0 0) ?_
 refine (zF (zA (hK5 _ _ ?_)))
 refine zC fun K6 hK6 => ?_
 refine zB ?_
 refine zM v1 ?_
 refine zM (.int .i64 p1) ?_
 refine zM (.int .i64 p2) ?_
 obtain ⟨x7, e8, hF⟩ := zD hF
 refine zV rfl rfl (zU en136 rfl) (F_internal_strconv_AppendInt_w p0 p1 p2 v1 _ e8 _ _ _ (H.enter [0] [1] (by decide) rfl)) ?_
 rintro _ w11 ⟨v9, rfl, G12⟩
 have H : Hd O _ w11 _ [.fz (.at 3 0 ((Fl.arr 20 (Fl.int .u64)).f zQ)), .own (Rp.int .u8) v9 5 x7] := H.back [0] [1] rfl G12
 refine ⟨_, rfl, ?_⟩
 refine zI v9 ?_
 refine (zF (zA (hK6 _ _ ?_)))
 obtain rfl := someI hF
 refine (zZ (post1 (v1 := v9) rfl rfl ?_))
 exact ⟨v9, rfl, H.pick [1] (by decide)⟩
set_option maxHeartbeats 4000000 in
theorem F_ref0_Ink_Int_w (p0 : Orangeboxref0Ink) (p1 : Int) (b1 : Nat) (v2 : Value) (r : Orangeboxref0Ink) (hF : F_ref0_Ink_Int p0 p1 = some r) (O S : List Nat) (w : World) (H : Hd O w w S [.own (Rp.int .u8) v2 5 p0.out, .blk b1 [v2] 79, .fz (.at 3 0 ((Fl.arr 20 (Fl.int .u64)).f zQ))]) :
  Calls Tryz.prog 35 ([.pointer (some ⟨b1, 0, none⟩), .int .i64 p1] : List Value).toArray w fun e w' => ∃ u6, e = .returned (.tuple #[]) ∧ Hd O w w' S [.own (Rp.int .u8) u6 5 r.out, .blk b1 [u6] 79] := by
 unfold F_ref0_Ink_Int at hF
 refine yB 22 Tryz.func35 rfl rfl rfl ?_
 refine zC fun K7 hK7 => ?_
 refine zB ?_
 refine zM (.pointer (some ⟨b1, 0, none⟩)) ?_
 refine zM (.pointer (some ⟨b1, 0, none⟩)) ?_
 refine zH (yG rfl) ?_
 refine zH (fa79_0 rfl) ?_
 refine zH (zT one77 rfl (Cells.get (Blk.cells (H.item (i := 1) rfl)) (i := 0) rfl)) ?_
 refine zM (.int .i64 p1) ?_
 obtain ⟨x8, e9, hF⟩ := zD hF
 refine zV rfl rfl (zU en85 rfl) (F_strconv_AppendInt_w p0.out p1 10 v2 _ e9 _ _ _ (H.enter [0] [2] (by decide) rfl)) ?_
 rintro _ w12 ⟨v10, rfl, G13⟩
 have H : Hd O _ w12 _ [.blk b1 [v2] 79, .fz (.at 3 0 ((Fl.arr 20 (Fl.int .u64)).f zQ)), .own (Rp.int .u8) v10 5 x8] := H.back [0] [2] rfl G13
 refine ⟨_, rfl, ?_⟩
 refine zH (yG rfl) ?_
 refine zH (fa79_0 rfl) ?_
 refine yN rfl (xA H 0 rfl sz77 rfl (v := v10) rfl (own_one (H.item (i := 2) rfl)) rfl) ?_
 rintro w14 H
 refine (zF (zA (hK7 _ _ ?_)))
 refine zB ?_
 refine zM (.pointer (some ⟨b1, 0, none⟩)) ?_
 refine zM (.pointer (some ⟨b1, 0, none⟩)) ?_
 refine zH (yG rfl) ?_
 refine zH (fa79_0 rfl) ?_
 refine zH (zT one77 rfl (Cells.get (Blk.cells (H.item (i := 0) rfl)) (i := 0) rfl)) ?_
 obtain ⟨x15, e16, hF⟩ := zG hF
 subst e16
 refine yX rfl rfl (Lx_bs (r := (Rp.int .u8)) (xl := [32]) (cs := [.int .u8 32]) u77 el5 (by decide) (by decide) rfl (xJ (vs := [.int .u8 32]) (by decide) rfl rfl ⟨rfl, trivial⟩ rfl) H ⟨[.int .u8 32], [], rfl, rfl, rfl⟩) ?_
 rintro v18 w19 H
 obtain ⟨x20, e21, hF⟩ := zD hF
 refine yX rfl rfl (Lx_app H (i := 2) rfl u77 el5 rfl rfl (Sr.of_own (H.item (i := 3) rfl)) e21) ?_
 rintro v22 w23 H
 refine zH (yG rfl) ?_
 refine zH (fa79_0 rfl) ?_
 refine yN rfl (xA H 0 rfl sz77 rfl (v := v22) rfl (own_one (H.item (i := 2) rfl)) rfl) ?_
 rintro w24 H
 obtain rfl := someI hF
 refine (zF (post0n rfl ?_))
 exact ⟨v22, rfl, H.pick [2, 0] (by decide)⟩
set_option maxHeartbeats 4000000 in
theorem F_ref0_Ink_Ints_w (p0 : Orangeboxref0Ink) (p1 : List Int) (b1 : Nat) (v2 : Value) (v5 : Value) (r : Orangeboxref0Ink) (hF : F_ref0_Ink_Ints p0 p1 = some r) (O S : List Nat) (w : World) (H : Hd O w w S [.own (Rp.int .u8) v2 5 p0.out, .blk b1 [v2] 79, .fz (.sl (Rp.int .i64) v5 p1), .fz (.at 3 0 ((Fl.arr 20 (Fl.int .u64)).f zQ))]) :
  Calls Tryz.prog 106 ([.pointer (some ⟨b1, 0, none⟩), v5] : List Value).toArray w fun e w' => ∃ u8, e = .returned (.tuple #[]) ∧ Hd O w w' S [.own (Rp.int .u8) u8 5 r.out, .blk b1 [u8] 79] := by
 unfold F_ref0_Ink_Ints at hF
 refine yB 21 Tryz.func106 rfl rfl rfl ?_
 refine zC fun K9 hK9 => ?_
 refine zB ?_
 refine zM (.pointer (some ⟨b1, 0, none⟩)) ?_
 refine zM v5 ?_
 obtain ⟨x10, e11, hF⟩ := zG hF
 obtain ⟨a12, c13, q14⟩ := SlF.len ((H.item (i := 2) rfl))
 refine zH (yQ (Do_len u38 q14) (congrArg (Value.int .i64) e11)) ?_
 obtain ⟨x15, e16, hF⟩ := zD hF
 refine zV rfl rfl (zU en35 rfl) (F_ref0_Ink_Int_w p0 x10 b1 v2 _ e16 _ _ _ (H.enter [0, 1] [3] (by decide) rfl)) ?_
 rintro _ w19 ⟨v17, rfl, G20⟩
 have H : Hd O _ w19 _ [.fz (.sl (Rp.int .i64) v5 p1), .fz (.at 3 0 ((Fl.arr 20 (Fl.int .u64)).f zQ)), .own (Rp.int .u8) v17 5 x15.out, .blk b1 [v17] 79] := H.back [0, 1] [3] rfl G20
 refine ⟨_, rfl, ?_⟩
 refine (zF (zA (hK9 _ _ ?_)))
 refine zC fun K21 hK21 => ?_
 refine zB ?_
 refine zI (.int .i64 0) ?_
 refine (zF (zA (hK21 _ _ ?_)))
 refine yJ ?_
 unfold F_ref0_Ink_Ints_L1 at hF
 obtain ⟨B146, n147, eB148, hF⟩ := yY hF
 refine xK [4, 9, 10, 11, 12, 13, 14, 15, 16, 17, 18, 19, 20] (fun (g : Nat × Int × (List Int) × Value) => [(4, .int .i64 g.2.1)]) (fun g wl => Hd O w wl S [.fz (.sl (Rp.int .i64) v5 p1), .fz (.at 3 0 ((Fl.arr 20 (Fl.int .u64)).f zQ)), .blk b1 [g.2.2.2] 79, .own (Rp.int .u8) g.2.2.2 5 g.2.2.1] ∧ loopN B146 g.1 (g.2.1, g.2.2.1) = some r) (fun g => g.1) (n147, 0, x15.out, v17) (zK rfl zL) ⟨H.pick [0, 1, 3, 2] (by decide), hF⟩ ?_
 clear H hF
 rintro ⟨n147, g142, g144, v145⟩ ρ w150 ⟨H, hF⟩
 obtain ⟨n151, rfl, hF⟩ := xE hF
 have hF := xC eB148 hF
 refine zC fun K161 hK161 => ?_
 refine zC fun K162 hK162 => ?_
 refine zB ?_
 refine zM (.int .i64 g142) ?_
 refine zM v5 ?_
 obtain ⟨x163, e164, hF⟩ := zG hF
 obtain ⟨a165, c166, q167⟩ := SlF.len ((H.item (i := 0) rfl))
 refine zH (yQ (Do_len u38 q167) (congrArg (Value.int .i64) e164)) ?_
 obtain ⟨x168, e169, hF⟩ := zG hF
 refine zH (zS (xZ (a := g142) (b := x163) rfl rfl) e169) ?_
 refine (zF (zA (hK162 _ _ ?_)))
 refine zW (b := x168) rfl (fun c170 => ?_) (fun c170 => ?_)
 ·have hF := zO c170 hF
  refine (yA (zA (hK161 _ _ ?_)))
  refine zC fun K189 hK189 => ?_
  refine yJ ?_
  refine zB ?_
  refine zM (.pointer (some ⟨b1, 0, none⟩)) ?_
  refine zM v5 ?_
  refine zM (.int .i64 g142) ?_
  obtain ⟨x190, e191, hF⟩ := zD hF
  obtain ⟨b192, o193, c194, cs195, q196, h199, h197, h198, h200⟩ := rd_at (H.item (i := 0) rfl) e191
  obtain rfl : cs195 = [.int .i64 x190] := h199
  have H := H.fz (.at b192 (o193 + g142.toNat * 1) _) ⟨h197, h198, h200⟩
  refine zH (Do_idx u38 sz3 q196 rfl (yU e191).1 (yU e191).2.1 rfl rfl) ?_
  refine zH (zT one3 rfl (Cells.get (H.item (i := 4) rfl).2.2 (i := 0) rfl)) ?_
  obtain ⟨x202, e203, hF⟩ := zD hF
  refine zV rfl rfl (zU en35 rfl) (F_ref0_Ink_Int_w (Orangeboxref0Ink.mk g144) x190 b1 v145 _ e203 _ _ _ (H.enter [3, 2] [1] (by decide) rfl)) ?_
  rintro _ w206 ⟨v204, rfl, G207⟩
  have H : Hd O _ w206 _ [.fz (.sl (Rp.int .i64) v5 p1), .fz (.at 3 0 ((Fl.arr 20 (Fl.int .u64)).f zQ)), .fz (.at b192 (o193 + g142.toNat * 1) [.int .i64 x190]), .own (Rp.int .u8) v204 5 x202.out, .blk b1 [v204] 79] := H.back [3, 2] [1] rfl G207
  refine ⟨_, rfl, ?_⟩
  refine (zF (yR (zA (hK189 _ _ ?_))))
  refine zB ?_
  refine zM (.int .i64 g142) ?_
  obtain ⟨x208, e209, hF⟩ := zG hF
  refine zH (wC (a := g142) (b := 1) rfl rfl e209) ?_
  refine zI (.int .i64 x208) ?_
  exact (zF (zA (meet ⟨(n151, x208, x202.out, v204), (zK rfl zL), ⟨H.pick [0, 1, 4, 3] (by decide), hF⟩, Nat.lt_succ_self _⟩)))
 have hF := zN c170 hF
 obtain rfl := someI hF
 refine (xW (yT (yT (xG (post0n rfl ?_)))))
 exact ⟨v145, rfl, H.pick [3, 2] (by decide)⟩
set_option maxHeartbeats 4000000 in
theorem F_ref0_Ink_Text_w (p0 : Orangeboxref0Ink) (p1 : Str) (b1 : Nat) (v2 : Value) (r : Orangeboxref0Ink) (hF : F_ref0_Ink_Text p0 p1 = some r) (O S : List Nat) (w : World) (H : Hd O w w S [.own (Rp.int .u8) v2 5 p0.out, .blk b1 [v2] 79, .fz (.at 3 0 ((Fl.arr 20 (Fl.int .u64)).f zQ))]) :
  Calls Tryz.prog 84 ([.pointer (some ⟨b1, 0, none⟩), .string (bs p1)] : List Value).toArray w fun e w' => ∃ u6, e = .returned (.tuple #[]) ∧ Hd O w w' S [.own (Rp.int .u8) u6 5 r.out, .blk b1 [u6] 79] := by
 unfold F_ref0_Ink_Text at hF
 refine yB 17 Tryz.func84 rfl rfl rfl ?_
 refine zC fun K7 hK7 => ?_
 refine zB ?_
 refine zM (.pointer (some ⟨b1, 0, none⟩)) ?_
 refine zM (.string (bs p1)) ?_
 obtain ⟨x8, e9, hF⟩ := zG hF
 refine zH (yQ (Do_slen (s1 := p1) u9 rfl) (congrArg (Value.int .i64) e9)) ?_
 obtain ⟨x10, e11, hF⟩ := zD hF
 refine zV rfl rfl (zU en35 rfl) (F_ref0_Ink_Int_w p0 x8 b1 v2 _ e11 _ _ _ (H.enter [0, 1] [2] (by decide) rfl)) ?_
 rintro _ w14 ⟨v12, rfl, G15⟩
 have H : Hd O _ w14 _ [.fz (.at 3 0 ((Fl.arr 20 (Fl.int .u64)).f zQ)), .own (Rp.int .u8) v12 5 x10.out, .blk b1 [v12] 79] := H.back [0, 1] [2] rfl G15
 refine ⟨_, rfl, ?_⟩
 refine (zF (zA (hK7 _ _ ?_)))
 refine zB ?_
 refine zM (.pointer (some ⟨b1, 0, none⟩)) ?_
 refine zM (.pointer (some ⟨b1, 0, none⟩)) ?_
 refine zH (yG rfl) ?_
 refine zH (fa79_0 rfl) ?_
 refine zH (zT one77 rfl (Cells.get (Blk.cells (H.item (i := 2) rfl)) (i := 0) rfl)) ?_
 refine zM (.string (bs p1)) ?_
 obtain ⟨x16, e17, hF⟩ := zD hF
 refine yX rfl rfl (Lx_appstr H (i := 1) rfl u77 u9 z8_5 rfl rfl e17) ?_
 rintro v18 w19 H
 refine zH (yG rfl) ?_
 refine zH (fa79_0 rfl) ?_
 refine yN rfl (xA H 2 rfl sz77 rfl (v := v18) rfl (own_one (H.item (i := 1) rfl)) rfl) ?_
 rintro w20 H
 obtain rfl := someI hF
 refine (zF (post0n rfl ?_))
 exact ⟨v18, rfl, H.pick [1, 2] (by decide)⟩
set_option maxHeartbeats 4000000 in
theorem F_ref0_Ink_Texts_w (p0 : Orangeboxref0Ink) (p1 : List Str) (b1 : Nat) (v2 : Value) (v5 : Value) (r : Orangeboxref0Ink) (hF : F_ref0_Ink_Texts p0 p1 = some r) (O S : List Nat) (w : World) (H : Hd O w w S [.own (Rp.int .u8) v2 5 p0.out, .blk b1 [v2] 79, .fz (.sl Rp.str v5 p1), .fz (.at 3 0 ((Fl.arr 20 (Fl.int .u64)).f zQ))]) :
  Calls Tryz.prog 83 ([.pointer (some ⟨b1, 0, none⟩), v5] : List Value).toArray w fun e w' => ∃ u8, e = .returned (.tuple #[]) ∧ Hd O w w' S [.own (Rp.int .u8) u8 5 r.out, .blk b1 [u8] 79] := by
 unfold F_ref0_Ink_Texts at hF
 refine yB 21 Tryz.func83 rfl rfl rfl ?_
 refine zC fun K9 hK9 => ?_
 refine zB ?_
 refine zM (.pointer (some ⟨b1, 0, none⟩)) ?_
 refine zM v5 ?_
 obtain ⟨x10, e11, hF⟩ := zG hF
 obtain ⟨a12, c13, q14⟩ := SlF.len ((H.item (i := 2) rfl))
 refine zH (yQ (Do_len u22 q14) (congrArg (Value.int .i64) e11)) ?_
 obtain ⟨x15, e16, hF⟩ := zD hF
 refine zV rfl rfl (zU en35 rfl) (F_ref0_Ink_Int_w p0 x10 b1 v2 _ e16 _ _ _ (H.enter [0, 1] [3] (by decide) rfl)) ?_
 rintro _ w19 ⟨v17, rfl, G20⟩
 have H : Hd O _ w19 _ [.fz (.sl Rp.str v5 p1), .fz (.at 3 0 ((Fl.arr 20 (Fl.int .u64)).f zQ)), .own (Rp.int .u8) v17 5 x15.out, .blk b1 [v17] 79] := H.back [0, 1] [3] rfl G20
 refine ⟨_, rfl, ?_⟩
 refine (zF (zA (hK9 _ _ ?_)))
 refine zC fun K21 hK21 => ?_
 refine zB ?_
 refine zI (.int .i64 0) ?_
 refine (zF (zA (hK21 _ _ ?_)))
 refine yJ ?_
 unfold F_ref0_Ink_Texts_L1 at hF
 obtain ⟨B146, n147, eB148, hF⟩ := yY hF
 refine xK [4, 9, 10, 11, 12, 13, 14, 15, 16, 17, 18, 19, 20] (fun (g : Nat × Int × (List Int) × Value) => [(4, .int .i64 g.2.1)]) (fun g wl => Hd O w wl S [.fz (.sl Rp.str v5 p1), .fz (.at 3 0 ((Fl.arr 20 (Fl.int .u64)).f zQ)), .blk b1 [g.2.2.2] 79, .own (Rp.int .u8) g.2.2.2 5 g.2.2.1] ∧ loopN B146 g.1 (g.2.1, g.2.2.1) = some r) (fun g => g.1) (n147, 0, x15.out, v17) (zK rfl zL) ⟨H.pick [0, 1, 3, 2] (by decide), hF⟩ ?_
 clear H hF
 rintro ⟨n147, g142, g144, v145⟩ ρ w150 ⟨H, hF⟩
 obtain ⟨n151, rfl, hF⟩ := xE hF
 have hF := xC eB148 hF
 refine zC fun K161 hK161 => ?_
 refine zC fun K162 hK162 => ?_
 refine zB ?_
 refine zM (.int .i64 g142) ?_
 refine zM v5 ?_
 obtain ⟨x163, e164, hF⟩ := zG hF
 obtain ⟨a165, c166, q167⟩ := SlF.len ((H.item (i := 0) rfl))
 refine zH (yQ (Do_len u22 q167) (congrArg (Value.int .i64) e164)) ?_
 obtain ⟨x168, e169, hF⟩ := zG hF
 refine zH (zS (xZ (a := g142) (b := x163) rfl rfl) e169) ?_
 refine (zF (zA (hK162 _ _ ?_)))
 refine zW (b := x168) rfl (fun c170 => ?_) (fun c170 => ?_)
 ·have hF := zO c170 hF
  refine (yA (zA (hK161 _ _ ?_)))
  refine zC fun K189 hK189 => ?_
  refine yJ ?_
  refine zB ?_
  refine zM (.pointer (some ⟨b1, 0, none⟩)) ?_
  refine zM v5 ?_
  refine zM (.int .i64 g142) ?_
  obtain ⟨x190, e191, hF⟩ := zD hF
  obtain ⟨b192, o193, c194, cs195, q196, h199, h197, h198, h200⟩ := rd_at (H.item (i := 0) rfl) e191
  obtain rfl : cs195 = [.string (bs x190)] := h199
  have H := H.fz (.at b192 (o193 + g142.toNat * 1) _) ⟨h197, h198, h200⟩
  refine zH (Do_idx u22 sz9 q196 rfl (yU e191).1 (yU e191).2.1 rfl rfl) ?_
  refine zH (zT one9 rfl (Cells.get (H.item (i := 4) rfl).2.2 (i := 0) rfl)) ?_
  obtain ⟨x202, e203, hF⟩ := zD hF
  refine zV rfl rfl (zU en84 rfl) (F_ref0_Ink_Text_w (Orangeboxref0Ink.mk g144) x190 b1 v145 _ e203 _ _ _ (H.enter [3, 2] [1] (by decide) rfl)) ?_
  rintro _ w206 ⟨v204, rfl, G207⟩
  have H : Hd O _ w206 _ [.fz (.sl Rp.str v5 p1), .fz (.at 3 0 ((Fl.arr 20 (Fl.int .u64)).f zQ)), .fz (.at b192 (o193 + g142.toNat * 1) [.string (bs x190)]), .own (Rp.int .u8) v204 5 x202.out, .blk b1 [v204] 79] := H.back [3, 2] [1] rfl G207
  refine ⟨_, rfl, ?_⟩
  refine (zF (yR (zA (hK189 _ _ ?_))))
  refine zB ?_
  refine zM (.int .i64 g142) ?_
  obtain ⟨x208, e209, hF⟩ := zG hF
  refine zH (wC (a := g142) (b := 1) rfl rfl e209) ?_
  refine zI (.int .i64 x208) ?_
  exact (zF (zA (meet ⟨(n151, x208, x202.out, v204), (zK rfl zL), ⟨H.pick [0, 1, 4, 3] (by decide), hF⟩, Nat.lt_succ_self _⟩)))
 have hF := zN c170 hF
 obtain rfl := someI hF
 refine (xW (yT (yT (xG (post0n rfl ?_)))))
 exact ⟨v145, rfl, H.pick [3, 2] (by decide)⟩
abbrev S_ref0_Ink_Cond (f : Orangeboxref0Ink → Cond → Option Orangeboxref0Ink) : Prop := ∀ (p0 : Orangeboxref0Ink) (p1 : Cond) (b1 : Nat) (v2 : Value) (v5 : Value) (r : Orangeboxref0Ink) (_ : f p0 p1 = some r) (O S : List Nat) (w : World) (_ : Hd O w w S [.own (Rp.int .u8) v2 5 p0.out, .blk b1 [v2] 79, .fz (.sl rCond v5 p1.Kids), .fz (.at 3 0 ((Fl.arr 20 (Fl.int .u64)).f zQ))]),
  Calls Tryz.prog 55 ([.pointer (some ⟨b1, 0, none⟩), .agg [.int .i64 p1.Kind, .string (bs p1.Name), .string (bs p1.Other), .int .i64 p1.Op, .int .i64 p1.N, .int .i64 p1.Frames, v5].toArray] : List Value).toArray w fun e w' => ∃ u8, e = .returned (.tuple #[]) ∧ Hd O w w' S [.own (Rp.int .u8) u8 5 r.out, .blk b1 [u8] 79]
set_option maxHeartbeats 4000000 in
theorem F_ref0_Ink_Cond_B_w (rfF : Orangeboxref0Ink → Cond → Option Orangeboxref0Ink) (rhF : S_ref0_Ink_Cond rfF) (p0 : Orangeboxref0Ink) (p1 : Cond) (b1 : Nat) (v2 : Value) (v5 : Value) (r : Orangeboxref0Ink) (hF : F_ref0_Ink_Cond_B rfF p0 p1 = some r) (O S : List Nat) (w : World) (H : Hd O w w S [.own (Rp.int .u8) v2 5 p0.out, .blk b1 [v2] 79, .fz (.sl rCond v5 p1.Kids), .fz (.at 3 0 ((Fl.arr 20 (Fl.int .u64)).f zQ))]) :
  Calls Tryz.prog 55 ([.pointer (some ⟨b1, 0, none⟩), .agg [.int .i64 p1.Kind, .string (bs p1.Name), .string (bs p1.Other), .int .i64 p1.Op, .int .i64 p1.N, .int .i64 p1.Frames, v5].toArray] : List Value).toArray w fun e w' => ∃ u8, e = .returned (.tuple #[]) ∧ Hd O w w' S [.own (Rp.int .u8) u8 5 r.out, .blk b1 [u8] 79] := by
 unfold F_ref0_Ink_Cond_B at hF
 refine yB 40 Tryz.func55 rfl rfl rfl ?_
 refine zC fun K9 hK9 => ?_
 refine zB ?_
 refine yX rfl rfl (Lx_box (cs := [.int .i64 p1.Kind, .string (bs p1.Name), .string (bs p1.Other), .int .i64 p1.Op, .int .i64 p1.N, .int .i64 p1.Frames, v5]) rfl H) ?_
 rintro _ w12 ⟨b10, rfl, H⟩
 refine (zF (zA (hK9 _ _ ?_)))
 refine zC fun K13 hK13 => ?_
 refine zB ?_
 refine zM (.pointer (some ⟨b1, 0, none⟩)) ?_
 refine zH (fa54_0 rfl) ?_
 refine zH (zT one3 rfl (Cells.get (Blk.cells (H.item (i := 4) rfl)) (i := 0) rfl)) ?_
 refine zH (fa54_3 rfl) ?_
 refine zH (zT one3 rfl (Cells.get (Blk.cells (H.item (i := 4) rfl)) (i := 3) rfl)) ?_
 refine zH (fa54_4 rfl) ?_
 refine zH (zT one3 rfl (Cells.get (Blk.cells (H.item (i := 4) rfl)) (i := 4) rfl)) ?_
 refine zH (fa54_5 rfl) ?_
 refine zH (zT one3 rfl (Cells.get (Blk.cells (H.item (i := 4) rfl)) (i := 5) rfl)) ?_
 refine zH (fa54_6 rfl) ?_
 refine zH (zT one52 rfl (Cells.get (Blk.cells (H.item (i := 4) rfl)) (i := 6) rfl)) ?_
 obtain ⟨x14, e15, hF⟩ := zG hF
 obtain ⟨a16, c17, q18⟩ := SlF.len ((H.item (i := 2) rfl))
 refine zH (yQ (Do_len u52 q18) (congrArg (Value.int .i64) e15)) ?_
 obtain ⟨x19, e20, hF⟩ := zG hF
 subst e20
 refine yX rfl rfl (Lx_bs (r := (Rp.int .i64)) (xl := [p1.Kind, p1.Op, p1.N, p1.Frames, x14]) (cs := [.int .i64 p1.Kind, .int .i64 p1.Op, .int .i64 p1.N, .int .i64 p1.Frames, .int .i64 x14]) u38 el3 (by decide) (by decide) rfl (xJ (vs := [.int .i64 p1.Kind, .int .i64 p1.Op, .int .i64 p1.N, .int .i64 p1.Frames, .int .i64 x14]) (by decide) rfl rfl ⟨rfl, rfl, rfl, rfl, rfl, trivial⟩ rfl) H ⟨[.int .i64 p1.Kind], [.int .i64 p1.Op, .int .i64 p1.N, .int .i64 p1.Frames, .int .i64 x14], rfl, rfl, ⟨[.int .i64 p1.Op], [.int .i64 p1.N, .int .i64 p1.Frames, .int .i64 x14], rfl, rfl, ⟨[.int .i64 p1.N], [.int .i64 p1.Frames, .int .i64 x14], rfl, rfl, ⟨[.int .i64 p1.Frames], [.int .i64 x14], rfl, rfl, ⟨[.int .i64 x14], [], rfl, rfl, rfl⟩⟩⟩⟩⟩) ?_
 rintro v22 w23 H
 have H := H.freeze (i := 5) rfl
 obtain ⟨x24, e25, hF⟩ := zD hF
 refine zV rfl rfl (zU en106 rfl) (F_ref0_Ink_Ints_w p0 ([p1.Kind, p1.Op, p1.N, p1.Frames, x14] : List Int) b1 v2 v22 _ e25 _ _ _ (H.enter [0, 1] [5, 3] (by decide) rfl)) ?_
 rintro _ w28 ⟨v26, rfl, G29⟩
 have H : Hd O _ w28 _ [.fz (.sl rCond v5 p1.Kids), .fz (.at 3 0 ((Fl.arr 20 (Fl.int .u64)).f zQ)), .blk b10 [.int .i64 p1.Kind, .string (bs p1.Name), .string (bs p1.Other), .int .i64 p1.Op, .int .i64 p1.N, .int .i64 p1.Frames, v5] 54, .fz (.sl (Rp.int .i64) v22 ([p1.Kind, p1.Op, p1.N, p1.Frames, x14] : List Int)), .own (Rp.int .u8) v26 5 x24.out, .blk b1 [v26] 79] := H.back [0, 1] [5, 3] rfl G29
 refine ⟨_, rfl, ?_⟩
 refine (zF (zA (hK13 _ _ ?_)))
 refine zC fun K30 hK30 => ?_
 refine zB ?_
 refine zM (.pointer (some ⟨b1, 0, none⟩)) ?_
 refine zH (fa54_1 rfl) ?_
 refine zH (zT one9 rfl (Cells.get (Blk.cells (H.item (i := 2) rfl)) (i := 1) rfl)) ?_
 refine zH (fa54_2 rfl) ?_
 refine zH (zT one9 rfl (Cells.get (Blk.cells (H.item (i := 2) rfl)) (i := 2) rfl)) ?_
 obtain ⟨x31, e32, hF⟩ := zG hF
 subst e32
 refine yX rfl rfl (Lx_bs (r := Rp.str) (xl := [p1.Name, p1.Other]) (cs := [.string (bs p1.Name), .string (bs p1.Other)]) u22 el9 (by decide) (by decide) rfl (xJ (vs := [.string (bs p1.Name), .string (bs p1.Other)]) (by decide) rfl rfl ⟨rfl, rfl, trivial⟩ rfl) H ⟨[.string (bs p1.Name)], [.string (bs p1.Other)], rfl, rfl, ⟨[.string (bs p1.Other)], [], rfl, rfl, rfl⟩⟩) ?_
 rintro v34 w35 H
 have H := H.freeze (i := 6) rfl
 obtain ⟨x36, e37, hF⟩ := zD hF
 refine zV rfl rfl (zU en83 rfl) (F_ref0_Ink_Texts_w x24 ([p1.Name, p1.Other] : List Str) b1 v26 v34 _ e37 _ _ _ (H.enter [4, 5] [6, 1] (by decide) rfl)) ?_
 rintro _ w40 ⟨v38, rfl, G41⟩
 have H : Hd O _ w40 _ [.fz (.sl rCond v5 p1.Kids), .fz (.at 3 0 ((Fl.arr 20 (Fl.int .u64)).f zQ)), .blk b10 [.int .i64 p1.Kind, .string (bs p1.Name), .string (bs p1.Other), .int .i64 p1.Op, .int .i64 p1.N, .int .i64 p1.Frames, v5] 54, .fz (.sl (Rp.int .i64) v22 ([p1.Kind, p1.Op, p1.N, p1.Frames, x14] : List Int)), .fz (.sl Rp.str v34 ([p1.Name, p1.Other] : List Str)), .own (Rp.int .u8) v38 5 x36.out, .blk b1 [v38] 79] := H.back [4, 5] [6, 1] rfl G41
 refine ⟨_, rfl, ?_⟩
 refine (zF (zA (hK30 _ _ ?_)))
 refine zC fun K42 hK42 => ?_
 refine zB ?_
 refine zI (.int .i64 0) ?_
 refine (zF (zA (hK42 _ _ ?_)))
 refine yJ ?_
 unfold F_ref0_Ink_Cond_B_L1 at hF
 obtain ⟨B179, n180, eB181, hF⟩ := yY hF
 refine xK [4, 26, 27, 28, 29, 30, 31, 32, 33, 34, 35, 36, 37, 38, 39] (fun (g : Nat × Int × (List Int) × Value) => [(4, .int .i64 g.2.1)]) (fun g wl => Hd O w wl S [.fz (.sl rCond v5 p1.Kids), .fz (.at 3 0 ((Fl.arr 20 (Fl.int .u64)).f zQ)), .blk b10 [.int .i64 p1.Kind, .string (bs p1.Name), .string (bs p1.Other), .int .i64 p1.Op, .int .i64 p1.N, .int .i64 p1.Frames, v5] 54, .blk b1 [g.2.2.2] 79, .own (Rp.int .u8) g.2.2.2 5 g.2.2.1] ∧ loopN B179 g.1 (g.2.1, g.2.2.1) = some r) (fun g => g.1) (n180, 0, x36.out, v38) (zK rfl zL) ⟨H.pick [0, 1, 2, 6, 5] (by decide), hF⟩ ?_
 clear H hF
 rintro ⟨n180, g175, g177, v178⟩ ρ w183 ⟨H, hF⟩
 obtain ⟨n184, rfl, hF⟩ := xE hF
 have hF := xC eB181 hF
 refine zC fun K194 hK194 => ?_
 refine zC fun K195 hK195 => ?_
 refine zB ?_
 refine zM (.int .i64 g175) ?_
 refine zH (fa54_6 rfl) ?_
 refine zH (zT one52 rfl (Cells.get (Blk.cells (H.item (i := 2) rfl)) (i := 6) rfl)) ?_
 obtain ⟨x196, e197, hF⟩ := zG hF
 obtain ⟨a198, c199, q200⟩ := SlF.len ((H.item (i := 0) rfl))
 refine zH (yQ (Do_len u52 q200) (congrArg (Value.int .i64) e197)) ?_
 obtain ⟨x201, e202, hF⟩ := zG hF
 refine zH (zS (xZ (a := g175) (b := x196) rfl rfl) e202) ?_
 refine (zF (zA (hK195 _ _ ?_)))
 refine zW (b := x201) rfl (fun c203 => ?_) (fun c203 => ?_)
 ·have hF := zO c203 hF
  refine (yA (zA (hK194 _ _ ?_)))
  refine zC fun K225 hK225 => ?_
  refine yJ ?_
  refine zB ?_
  refine zM (.pointer (some ⟨b1, 0, none⟩)) ?_
  refine zH (fa54_6 rfl) ?_
  refine zH (zT one52 rfl (Cells.get (Blk.cells (H.item (i := 2) rfl)) (i := 6) rfl)) ?_
  refine zM (.int .i64 g175) ?_
  obtain ⟨x226, e227, hF⟩ := zD hF
  obtain ⟨b228, o229, c230, cs231, q232, h235, h233, h234, h236⟩ := rd_at (H.item (i := 0) rfl) e227
  obtain ⟨v237, rfl, h238⟩ := xX h235
  have H := H.fzs [.at b228 (o229 + g175.toNat * 7) _, .sl rCond v237 x226.Kids] ⟨⟨h233, h234, h236⟩, h238, trivial⟩
  refine zH (Do_idx u52 sz54 q232 rfl (yU e227).1 (yU e227).2.1 rfl rfl) ?_
  refine zH (yQ (yM (cs := [.int .i64 x226.Kind, .string (bs x226.Name), .string (bs x226.Other), .int .i64 x226.Op, .int .i64 x226.N, .int .i64 x226.Frames, v237]) agg54 rfl sz54 rfl (H.item (i := 5) rfl).2.2) rfl) ?_
  obtain ⟨x241, e242, hF⟩ := zD hF
  refine zV rfl rfl (zU en55 rfl) (rhF (Orangeboxref0Ink.mk g177) x226 b1 v178 v237 _ e242 _ _ _ (H.enter [4, 3] [6, 1] (by decide) rfl)) ?_
  rintro _ w245 ⟨v243, rfl, G246⟩
  have H : Hd O _ w245 _ [.fz (.sl rCond v5 p1.Kids), .fz (.at 3 0 ((Fl.arr 20 (Fl.int .u64)).f zQ)), .blk b10 [.int .i64 p1.Kind, .string (bs p1.Name), .string (bs p1.Other), .int .i64 p1.Op, .int .i64 p1.N, .int .i64 p1.Frames, v5] 54, .fz (.at b228 (o229 + g175.toNat * 7) [.int .i64 x226.Kind, .string (bs x226.Name), .string (bs x226.Other), .int .i64 x226.Op, .int .i64 x226.N, .int .i64 x226.Frames, v237]), .fz (.sl rCond v237 x226.Kids), .own (Rp.int .u8) v243 5 x241.out, .blk b1 [v243] 79] := H.back [4, 3] [6, 1] rfl G246
  refine ⟨_, rfl, ?_⟩
  refine (zF (yR (zA (hK225 _ _ ?_))))
  refine zB ?_
  refine zM (.int .i64 g175) ?_
  obtain ⟨x247, e248, hF⟩ := zG hF
  refine zH (wC (a := g175) (b := 1) rfl rfl e248) ?_
  refine zI (.int .i64 x247) ?_
  exact (zF (zA (meet ⟨(n184, x247, x241.out, v243), (zK rfl zL), ⟨H.pick [0, 1, 2, 6, 5] (by decide), hF⟩, Nat.lt_succ_self _⟩)))
 have hF := zN c203 hF
 obtain rfl := someI hF
 refine (xW (yT (yT (xG (post0n rfl ?_)))))
 exact ⟨v178, rfl, H.pick [4, 3] (by decide)⟩
theorem F_ref0_Ink_Cond_s : S_ref0_Ink_Cond (F_ref0_Ink_Cond) := by
 have h : ∀ n, S_ref0_Ink_Cond (F_ref0_Ink_Cond_R n) := by
  intro n
  induction n with
  | zero => intro p0 p1 b1 v2 v5 r hF; cases hF
  | succ n ih => intro p0 p1 b1 v2 v5 r hF; exact F_ref0_Ink_Cond_B_w (F_ref0_Ink_Cond_R n) ih p0 p1 b1 v2 v5 r hF
 exact h FU
set_option maxHeartbeats 4000000 in
theorem F_ref0_Ink_Errno_w (p0 : Orangeboxref0Ink) (p1 : Int) (b1 : Nat) (v2 : Value) (r : Orangeboxref0Ink) (hF : F_ref0_Ink_Errno p0 p1 = some r) (O S : List Nat) (w : World) (H : Hd O w w S [.own (Rp.int .u8) v2 5 p0.out, .blk b1 [v2] 79, .fz (.at 3 0 ((Fl.arr 20 (Fl.int .u64)).f zQ))]) :
  Calls Tryz.prog 36 ([.pointer (some ⟨b1, 0, none⟩), .int .i64 p1] : List Value).toArray w fun e w' => ∃ u6, e = .returned (.tuple #[]) ∧ Hd O w w' S [.own (Rp.int .u8) u6 5 r.out, .blk b1 [u6] 79] := by
 unfold F_ref0_Ink_Errno at hF
 refine yB 7 Tryz.func36 rfl rfl rfl ?_
 refine zB ?_
 refine zM (.pointer (some ⟨b1, 0, none⟩)) ?_
 refine zM (.int .i64 p1) ?_
 obtain ⟨x7, e8, hF⟩ := zD hF
 refine zV rfl rfl (zU en35 rfl) (F_ref0_Ink_Int_w p0 p1 b1 v2 _ e8 _ _ _ (H.enter [0, 1] [2] (by decide) rfl)) ?_
 rintro _ w11 ⟨v9, rfl, G12⟩
 have H : Hd O _ w11 _ [.fz (.at 3 0 ((Fl.arr 20 (Fl.int .u64)).f zQ)), .own (Rp.int .u8) v9 5 x7.out, .blk b1 [v9] 79] := H.back [0, 1] [2] rfl G12
 refine ⟨_, rfl, ?_⟩
 obtain rfl := someI hF
 refine (zF (post0n rfl ?_))
 exact ⟨v9, rfl, H.pick [1, 2] (by decide)⟩
set_option maxHeartbeats 4000000 in
theorem F_ref0_Ink_Told_w (p0 : Option Orangeboxref0Ink) (v1 : Option Addr) (r : Str) (hF : F_ref0_Ink_Told p0 = some r) (O S : List Nat) (w : World) (H : Hd O w w S [.fz (.pt rOrangeboxref0Ink v1 p0)]) :
  Calls Tryz.prog 37 ([.pointer v1] : List Value).toArray w fun e w' => e = .returned (.string (bs r)) ∧ Hd O w w' S [] := by
 unfold F_ref0_Ink_Told at hF
 refine yB 8 Tryz.func37 rfl rfl rfl ?_
 refine zC fun K3 hK3 => ?_
 refine zB ?_
 refine zI (.string (bs [])) ?_
 refine (zF (zA (hK3 _ _ ?_)))
 refine zC fun K4 hK4 => ?_
 refine zB ?_
 refine zM (.pointer v1) ?_
 obtain ⟨x5, e6, hF⟩ := zD hF
 obtain ⟨b7, o8, cs9, q10, h11, h12, h13, h14⟩ := ptf_some ((H.item (i := 0) rfl) : PtF _ _ _ _ _) e6
 obtain ⟨v15, rfl, h16⟩ := rOrangeboxref0Ink_open h13
 have H := H.fzs [.at b7 o8 _, .sl (Rp.int .u8) v15 x5.out] ⟨⟨h11, h12, h14⟩, h16, trivial⟩
 refine zH (yG (ad := ⟨b7, o8, none⟩) (congrArg Value.pointer q10)) ?_
 refine zH (fa79_0 rfl) ?_
 refine zH (zT one77 rfl (Cells.get (H.item (i := 1) rfl).2.2 (i := 0) rfl)) ?_
 obtain ⟨x19, e20, hF⟩ := zG hF
 refine zH (yQ (Do_bytestr (xl := x5.out) u77 u5 u9 rfl (Sr.of_rd (H.item (i := 2) rfl))) (congrArg (fun s => Value.string (bs s)) e20)) ?_
 refine zI (.string (bs x19)) ?_
 refine (zF (zA (hK4 _ _ ?_)))
 obtain rfl := someI hF
 refine (zZ (post1 (v1 := .string (bs x19)) rfl rfl ?_))
 exact ⟨rfl, H.pick [] (by decide)⟩
set_option maxHeartbeats 4000000 in
theorem F_law6_cond_w (p0 : Cond) (p1 : Int) (v1 : Value) (r : Str) (hF : F_law6_cond p0 p1 = some r) (O S : List Nat) (w : World) (H : Hd O w w S [.fz (.sl rCond v1 p0.Kids), .fz (.at 3 0 ((Fl.arr 20 (Fl.int .u64)).f zQ))]) :
  Calls Tryz.prog 18 ([.agg [.int .i64 p0.Kind, .string (bs p0.Name), .string (bs p0.Other), .int .i64 p0.Op, .int .i64 p0.N, .int .i64 p0.Frames, v1].toArray, .int .i64 p1] : List Value).toArray w fun e w' => e = .returned (.string (bs r)) ∧ Hd O w w' S [] := by
 unfold F_law6_cond at hF
 refine yB 16 Tryz.func18 rfl rfl rfl ?_
 refine zC fun K4 hK4 => ?_
 refine zB ?_
 refine yX rfl rfl (Lx_box (cs := [.int .i64 p0.Kind, .string (bs p0.Name), .string (bs p0.Other), .int .i64 p0.Op, .int .i64 p0.N, .int .i64 p0.Frames, v1]) rfl H) ?_
 rintro _ w7 ⟨b5, rfl, H⟩
 refine zI (.string (bs [])) ?_
 refine (zF (zA (hK4 _ _ ?_)))
 refine zC fun K8 hK8 => ?_
 refine zB ?_
 refine zH (xH (cs := [.slice none 0 0]) bz79) ?_
 refine yX rfl rfl (Lx_box (cs := [.slice none 0 0]) rfl H) ?_
 rintro _ w11 ⟨b9, rfl, H⟩
 refine zI (.pointer (some ⟨b9, 0, none⟩)) ?_
 refine (zF (zA (hK8 _ _ ?_)))
 refine zC fun K12 hK12 => ?_
 refine zB ?_
 refine zM (.pointer (some ⟨b9, 0, none⟩)) ?_
 refine zH (yQ (yM (cs := [.int .i64 p0.Kind, .string (bs p0.Name), .string (bs p0.Other), .int .i64 p0.Op, .int .i64 p0.N, .int .i64 p0.Frames, v1]) agg54 rfl sz54 rfl (Blk.cells (H.item (i := 2) rfl))) rfl) ?_
 have H := own_nil H (Rp.int .u8) 5
 obtain ⟨x14, e15, hF⟩ := zD hF
 refine zV rfl rfl (zU en55 rfl) (F_ref0_Ink_Cond_s (Orangeboxref0Ink.mk []) p0 b9 (.slice none 0 0) v1 _ e15 _ _ _ (H.enter [4, 3] [0, 1] (by decide) rfl)) ?_
 rintro _ w18 ⟨v16, rfl, G19⟩
 have H : Hd O _ w18 _ [.fz (.sl rCond v1 p0.Kids), .fz (.at 3 0 ((Fl.arr 20 (Fl.int .u64)).f zQ)), .blk b5 [.int .i64 p0.Kind, .string (bs p0.Name), .string (bs p0.Other), .int .i64 p0.Op, .int .i64 p0.N, .int .i64 p0.Frames, v1] 54, .own (Rp.int .u8) v16 5 x14.out, .blk b9 [v16] 79] := H.back [4, 3] [0, 1] rfl G19
 refine ⟨_, rfl, ?_⟩
 refine (zF (zA (hK12 _ _ ?_)))
 refine zC fun K20 hK20 => ?_
 refine zB ?_
 refine zM (.pointer (some ⟨b9, 0, none⟩)) ?_
 refine zM (.int .i64 p1) ?_
 obtain ⟨x21, e22, hF⟩ := zD hF
 refine zV rfl rfl (zU en36 rfl) (F_ref0_Ink_Errno_w x14 p1 b9 v16 _ e22 _ _ _ (H.enter [3, 4] [1] (by decide) rfl)) ?_
 rintro _ w25 ⟨v23, rfl, G26⟩
 have H : Hd O _ w25 _ [.fz (.sl rCond v1 p0.Kids), .fz (.at 3 0 ((Fl.arr 20 (Fl.int .u64)).f zQ)), .blk b5 [.int .i64 p0.Kind, .string (bs p0.Name), .string (bs p0.Other), .int .i64 p0.Op, .int .i64 p0.N, .int .i64 p0.Frames, v1] 54, .own (Rp.int .u8) v23 5 x21.out, .blk b9 [v23] 79] := H.back [3, 4] [1] rfl G26
 refine ⟨_, rfl, ?_⟩
 refine (zF (zA (hK20 _ _ ?_)))
 refine zC fun K27 hK27 => ?_
 refine zB ?_
 refine zM (.pointer (some ⟨b9, 0, none⟩)) ?_
 have H28 := H
 have H := H.freezeB (i := 4) rfl
 have H := H.freeze (i := 3) rfl
 have H := H.fz (.pt rOrangeboxref0Ink (some ⟨b9, 0, none⟩) (some x21)) ⟨_, _, _, rfl, (H.item (i := 4) rfl).1, (H.item (i := 4) rfl).2.1, (rOrangeboxref0Ink_mk (x := x21) (H.item (i := 3) rfl)), (H.item (i := 4) rfl).2.2⟩
 obtain ⟨x30, e31, hF⟩ := zD hF
 refine zV rfl rfl (zU en37 rfl) (F_ref0_Ink_Told_w (some x21) (some ⟨b9, 0, none⟩) _ e31 _ _ _ (H.enter [] [5] (by decide) rfl)) ?_
 rintro _ w32 ⟨rfl, G33⟩
 have H := H28.step (G33.only : Only [] _ _)
 refine ⟨_, rfl, ?_⟩
 refine zI (.string (bs x30)) ?_
 refine (zF (zA (hK27 _ _ ?_)))
 obtain rfl := someI hF
 refine (zZ (post1 (v1 := .string (bs x30)) rfl rfl ?_))
 exact ⟨rfl, H.pick [] (by decide)⟩
abbrev S_ref6_nodes (f : Cond → Int → Option Int) : Prop := ∀ (p0 : Cond) (p1 : Int) (v1 : Value) (r : Int) (_ : f p0 p1 = some r) (O S : List Nat) (w : World) (_ : Hd O w w S [.fz (.sl rCond v1 p0.Kids)]),
  Calls Tryz.prog 112 ([.agg [.int .i64 p0.Kind, .string (bs p0.Name), .string (bs p0.Other), .int .i64 p0.Op, .int .i64 p0.N, .int .i64 p0.Frames, v1].toArray, .int .i64 p1] : List Value).toArray w fun e w' => e = .returned (.int .i64 r) ∧ Hd O w w' S []
set_option maxHeartbeats 4000000 in
theorem F_ref6_nodes_B_w (rfG : Cond → Int → Option Int) (rhG : S_ref6_nodes rfG) (p0 : Cond) (p1 : Int) (v1 : Value) (r : Int) (hF : F_ref6_nodes_B rfG p0 p1 = some r) (O S : List Nat) (w : World) (H : Hd O w w S [.fz (.sl rCond v1 p0.Kids)]) :
  Calls Tryz.prog 112 ([.agg [.int .i64 p0.Kind, .string (bs p0.Name), .string (bs p0.Other), .int .i64 p0.Op, .int .i64 p0.N, .int .i64 p0.Frames, v1].toArray, .int .i64 p1] : List Value).toArray w fun e w' => e = .returned (.int .i64 r) ∧ Hd O w w' S [] := by
 unfold F_ref6_nodes_B at hF
 refine yB 31 Tryz.func112 rfl rfl rfl ?_
 refine zC fun K3 hK3 => ?_
 refine zB ?_
 refine yX rfl rfl (Lx_box (cs := [.int .i64 p0.Kind, .string (bs p0.Name), .string (bs p0.Other), .int .i64 p0.Op, .int .i64 p0.N, .int .i64 p0.Frames, v1]) rfl H) ?_
 rintro _ w6 ⟨b4, rfl, H⟩
 refine zI (.int .i64 0) ?_
 refine (zF (zA (hK3 _ _ ?_)))
 refine zC fun K7 hK7 => ?_
 refine zB ?_
 refine zI (.int .i64 1) ?_
 refine (zF (zA (hK7 _ _ ?_)))
 obtain ⟨g177, hF, hK179⟩ := zD hF
 refine yL [5, 6, 7, 8, 9, 10, 11, 12, 13, 14, 15, 16, 17, 18, 19, 20, 21, 22, 23, 24, 25, 26, 27, 28, 29] (fun (g : Unit) => [(5, .int .i64 g177)]) (fun g wl => Hd O w wl S []) ?_ ?_
 ·skip
  refine zC fun K180 hK180 => ?_
  refine zB ?_
  refine zI (.int .i64 0) ?_
  refine (zF (zA (hK180 _ _ ?_)))
  refine yJ ?_
  unfold F_ref6_nodes_B_L1 at hF
  obtain ⟨B345, n346, eB347, hF⟩ := yY hF
  refine xK [5, 6, 7, 8, 9, 10, 11, 12, 13, 14, 15, 16, 17, 18, 19, 20, 21, 22, 23, 24, 25, 26, 27, 28, 29] (fun (g : Nat × Int × Int) => [(5, .int .i64 g.2.1), (6, .int .i64 g.2.2)]) (fun g wl => Hd O w wl S [.fz (.sl rCond v1 p0.Kids), .blk b4 [.int .i64 p0.Kind, .string (bs p0.Name), .string (bs p0.Other), .int .i64 p0.Op, .int .i64 p0.N, .int .i64 p0.Frames, v1] 54] ∧ loopN B345 g.1 (g.2.1, g.2.2) = some g177) (fun g => g.1) (n346, 1, 0) (zK rfl (zK rfl zL)) ⟨H.pick [0, 1] (by decide), hF⟩ ?_
  clear H hF
  rintro ⟨n346, g343, g344⟩ ρ w349 ⟨H, hF⟩
  obtain ⟨n350, rfl, hF⟩ := xE hF
  have hF := xC eB347 hF
  refine zC fun K365 hK365 => ?_
  obtain ⟨g376, hF, hK378⟩ := zD hF
  refine yL [7, 8, 9, 10, 11, 12, 13, 14, 15, 16] (fun (g : Unit) => [(16, .bool g376)]) (fun g wl => Hd O w wl S [.fz (.sl rCond v1 p0.Kids), .blk b4 [.int .i64 p0.Kind, .string (bs p0.Name), .string (bs p0.Other), .int .i64 p0.Op, .int .i64 p0.N, .int .i64 p0.Frames, v1] 54]) ?_ ?_
  ·skip
   refine zB ?_
   refine zM (.int .i64 g344) ?_
   refine zH (fa54_6 rfl) ?_
   refine zH (zT one52 rfl (Cells.get (Blk.cells (H.item (i := 1) rfl)) (i := 6) rfl)) ?_
   obtain ⟨x379, e380, hF⟩ := zG hF
   obtain ⟨a381, c382, q383⟩ := SlF.len ((H.item (i := 0) rfl))
   refine zH (yQ (Do_len u52 q383) (congrArg (Value.int .i64) e380)) ?_
   obtain ⟨x384, e385, hF⟩ := zG hF
   refine zH (zS (xZ (a := g344) (b := x379) rfl rfl) e385) ?_
   refine yK (b := x384) rfl rfl rfl (fun c386 => ?_) (fun c386 => ?_)
   ·have hF := zO c386 hF
    refine zM (.int .i64 g343) ?_
    refine zM (.int .i64 p1) ?_
    obtain ⟨x387, e388, hF⟩ := zG hF
    refine zH (zS (Do_leq (a := g343) (b := p1) rfl rfl) e388) ?_
    refine zH (yI (v := .bool x387) rfl rfl) ?_
    obtain rfl := someI hF
    exact (zF (zA (meet ⟨(), (zK rfl zL), H.pick [0, 1] (by decide)⟩)))
   have hF := zN c386 hF
   refine yD ?_
   refine yD ?_
   refine yD ?_
   refine zH (yE (v := .bool false) rfl rfl) ?_
   obtain rfl := someI hF
   exact (zF (zA (meet ⟨(), (zK rfl zL), H.pick [0, 1] (by decide)⟩)))
  rintro _ ρ w377 H
  have hF := hK378
  refine zW (b := g376) rfl (fun c389 => ?_) (fun c389 => ?_)
  ·have hF := zO c389 hF
   refine (yA (zA (hK365 _ _ ?_)))
   refine zC fun K414 hK414 => ?_
   refine yJ ?_
   refine zB ?_
   refine zM (.int .i64 g343) ?_
   refine zH (fa54_6 rfl) ?_
   refine zH (zT one52 rfl (Cells.get (Blk.cells (H.item (i := 1) rfl)) (i := 6) rfl)) ?_
   refine zM (.int .i64 g344) ?_
   obtain ⟨x415, e416, hF⟩ := zD hF
   obtain ⟨b417, o418, c419, cs420, q421, h424, h422, h423, h425⟩ := rd_at (H.item (i := 0) rfl) e416
   obtain ⟨v426, rfl, h427⟩ := xX h424
   have H := H.fzs [.at b417 (o418 + g344.toNat * 7) _, .sl rCond v426 x415.Kids] ⟨⟨h422, h423, h425⟩, h427, trivial⟩
   refine zH (Do_idx u52 sz54 q421 rfl (yU e416).1 (yU e416).2.1 rfl rfl) ?_
   refine zH (yQ (yM (cs := [.int .i64 x415.Kind, .string (bs x415.Name), .string (bs x415.Other), .int .i64 x415.Op, .int .i64 x415.N, .int .i64 x415.Frames, v426]) agg54 rfl sz54 rfl (H.item (i := 2) rfl).2.2) rfl) ?_
   refine zM (.int .i64 p1) ?_
   refine zM (.int .i64 g343) ?_
   obtain ⟨x430, e431, hF⟩ := zG hF
   refine zH (Do_sub (a := p1) (b := g343) rfl rfl e431) ?_
   have H432 := H
   obtain ⟨x433, e434, hF⟩ := zD hF
   refine zV rfl rfl (zU en112 rfl) (rhG x415 x430 v426 _ e434 _ _ _ (H.enter [] [3] (by decide) rfl)) ?_
   rintro _ w435 ⟨rfl, G436⟩
   have H := H432.step (G436.only : Only [] _ _)
   refine ⟨_, rfl, ?_⟩
   obtain ⟨x437, e438, hF⟩ := zG hF
   refine zH (wC (a := g343) (b := x433) rfl rfl e438) ?_
   refine zI (.int .i64 x437) ?_
   refine (zF (yR (zA (hK414 _ _ ?_))))
   refine zB ?_
   refine zM (.int .i64 g344) ?_
   obtain ⟨x439, e440, hF⟩ := zG hF
   refine zH (wC (a := g344) (b := 1) rfl rfl e440) ?_
   refine zI (.int .i64 x439) ?_
   exact (zF (zA (meet ⟨(n350, x437, x439), (zK rfl (zK rfl zL)), ⟨H.pick [0, 1] (by decide), hF⟩, Nat.lt_succ_self _⟩)))
  have hF := zN c389 hF
  obtain rfl := someI hF
  exact (xW (yT (yT (xG (zA (meet ⟨(), (zK rfl zL), H.pick [] (by decide)⟩))))))
 rintro _ ρ w178 H
 have hF := hK179
 refine zC fun K441 hK441 => ?_
 refine zB ?_
 refine zM (.int .i64 g177) ?_
 refine zI (.int .i64 g177) ?_
 refine (zF (zA (hK441 _ _ ?_)))
 obtain rfl := someI hF
 refine (zZ (post1 (v1 := .int .i64 g177) rfl rfl ?_))
 exact ⟨rfl, H.pick [] (by decide)⟩
theorem F_ref6_nodes_s : S_ref6_nodes (F_ref6_nodes) := by
 have h : ∀ n, S_ref6_nodes (F_ref6_nodes_R n) := by
  intro n
  induction n with
  | zero => intro p0 p1 v1 r hF; cases hF
  | succ n ih => intro p0 p1 v1 r hF; exact F_ref6_nodes_B_w (F_ref6_nodes_R n) ih p0 p1 v1 r hF
 exact h FU
abbrev S_ref6_deeper (f : Cond → Int → Option Bool) : Prop := ∀ (p0 : Cond) (p1 : Int) (v1 : Value) (r : Bool) (_ : f p0 p1 = some r) (O S : List Nat) (w : World) (_ : Hd O w w S [.fz (.sl rCond v1 p0.Kids)]),
  Calls Tryz.prog 113 ([.agg [.int .i64 p0.Kind, .string (bs p0.Name), .string (bs p0.Other), .int .i64 p0.Op, .int .i64 p0.N, .int .i64 p0.Frames, v1].toArray, .int .i64 p1] : List Value).toArray w fun e w' => e = .returned (.bool r) ∧ Hd O w w' S []
set_option maxHeartbeats 4000000 in
theorem F_ref6_deeper_B_w (rfH : Cond → Int → Option Bool) (rhH : S_ref6_deeper rfH) (p0 : Cond) (p1 : Int) (v1 : Value) (r : Bool) (hF : F_ref6_deeper_B rfH p0 p1 = some r) (O S : List Nat) (w : World) (H : Hd O w w S [.fz (.sl rCond v1 p0.Kids)]) :
  Calls Tryz.prog 113 ([.agg [.int .i64 p0.Kind, .string (bs p0.Name), .string (bs p0.Other), .int .i64 p0.Op, .int .i64 p0.N, .int .i64 p0.Frames, v1].toArray, .int .i64 p1] : List Value).toArray w fun e w' => e = .returned (.bool r) ∧ Hd O w w' S [] := by
 unfold F_ref6_deeper_B at hF
 refine yB 23 Tryz.func113 rfl rfl rfl ?_
 refine zC fun K3 hK3 => ?_
 refine zB ?_
 refine yX rfl rfl (Lx_box (cs := [.int .i64 p0.Kind, .string (bs p0.Name), .string (bs p0.Other), .int .i64 p0.Op, .int .i64 p0.N, .int .i64 p0.Frames, v1]) rfl H) ?_
 rintro _ w6 ⟨b4, rfl, H⟩
 refine zI (.bool false) ?_
 refine (zF (zA (hK3 _ _ ?_)))
 refine zC fun K12 hK12 => ?_
 refine zC fun K13 hK13 => ?_
 refine zB ?_
 refine zM (.int .i64 p1) ?_
 obtain ⟨x14, e15, hF⟩ := zG hF
 refine zH (zS (yP (a := p1) (b := 0) rfl rfl) e15) ?_
 refine (zF (zA (hK13 _ _ ?_)))
 refine zW (b := x14) rfl (fun c16 => ?_) (fun c16 => ?_)
 ·have hF := zO c16 hF
  refine zC fun K17 hK17 => ?_
  refine zB ?_
  refine zI (.bool true) ?_
  refine (zF (zA (hK17 _ _ ?_)))
  obtain rfl := someI hF
  refine (zZ (zY (post1 (v1 := .bool true) rfl rfl ?_)))
  exact ⟨rfl, H.pick [] (by decide)⟩
 have hF := zN c16 hF
 refine (yA (zA (hK12 _ _ ?_)))
 obtain ⟨k171, ek172, hF⟩ := joinO_some hF
 refine yL [4, 5, 8, 9, 10, 11, 12, 13, 14, 15, 16, 17, 18, 19, 20, 21, 22] (fun (g : Unit) => []) (fun g wl => Hd O w wl S [] ∧ k171 () = some r) ?_ ?_
 ·skip
  refine zC fun K173 hK173 => ?_
  refine zB ?_
  refine zI (.int .i64 0) ?_
  refine (zF (zA (hK173 _ _ ?_)))
  refine yJ ?_
  unfold F_ref6_deeper_B_L1 at hF
  obtain ⟨B320, n321, eB322, hF⟩ := yY hF
  refine xK [4, 5, 8, 9, 10, 11, 12, 13, 14, 15, 16, 17, 18, 19, 20, 21, 22] (fun (g : Nat × Int) => [(5, .int .i64 g.2)]) (fun g wl => Hd O w wl S [.fz (.sl rCond v1 p0.Kids), .blk b4 [.int .i64 p0.Kind, .string (bs p0.Name), .string (bs p0.Other), .int .i64 p0.Op, .int .i64 p0.N, .int .i64 p0.Frames, v1] 54] ∧ loopN B320 g.1 g.2 = some r) (fun g => g.1) (n321, 0) (zK rfl zL) ⟨H.pick [0, 1] (by decide), hF⟩ ?_
  clear H hF
  rintro ⟨n321, g319⟩ ρ w324 ⟨H, hF⟩
  obtain ⟨n325, rfl, hF⟩ := xE hF
  have hF := xC eB322 hF
  refine zC fun K335 hK335 => ?_
  refine zC fun K336 hK336 => ?_
  refine zB ?_
  refine zM (.int .i64 g319) ?_
  refine zH (fa54_6 rfl) ?_
  refine zH (zT one52 rfl (Cells.get (Blk.cells (H.item (i := 1) rfl)) (i := 6) rfl)) ?_
  obtain ⟨x337, e338, hF⟩ := zG hF
  obtain ⟨a339, c340, q341⟩ := SlF.len ((H.item (i := 0) rfl))
  refine zH (yQ (Do_len u52 q341) (congrArg (Value.int .i64) e338)) ?_
  obtain ⟨x342, e343, hF⟩ := zG hF
  refine zH (zS (xZ (a := g319) (b := x337) rfl rfl) e343) ?_
  refine (zF (zA (hK336 _ _ ?_)))
  refine zW (b := x342) rfl (fun c344 => ?_) (fun c344 => ?_)
  ·have hF := zO c344 hF
   refine (yA (zA (hK335 _ _ ?_)))
   refine zC fun K370 hK370 => ?_
   refine yJ ?_
   refine zC fun K371 hK371 => ?_
   refine zB ?_
   refine zH (fa54_6 rfl) ?_
   refine zH (zT one52 rfl (Cells.get (Blk.cells (H.item (i := 1) rfl)) (i := 6) rfl)) ?_
   refine zM (.int .i64 g319) ?_
   obtain ⟨x372, e373, hF⟩ := zD hF
   obtain ⟨b374, o375, c376, cs377, q378, h381, h379, h380, h382⟩ := rd_at (H.item (i := 0) rfl) e373
   obtain ⟨v383, rfl, h384⟩ := xX h381
   have H := H.fzs [.at b374 (o375 + g319.toNat * 7) _, .sl rCond v383 x372.Kids] ⟨⟨h379, h380, h382⟩, h384, trivial⟩
   refine zH (Do_idx u52 sz54 q378 rfl (yU e373).1 (yU e373).2.1 rfl rfl) ?_
   refine zH (yQ (yM (cs := [.int .i64 x372.Kind, .string (bs x372.Name), .string (bs x372.Other), .int .i64 x372.Op, .int .i64 x372.N, .int .i64 x372.Frames, v383]) agg54 rfl sz54 rfl (H.item (i := 2) rfl).2.2) rfl) ?_
   refine zM (.int .i64 p1) ?_
   obtain ⟨x387, e388, hF⟩ := zG hF
   refine zH (Do_sub (a := p1) (b := 1) rfl rfl e388) ?_
   have H389 := H
   obtain ⟨x390, e391, hF⟩ := zD hF
   refine zV rfl rfl (zU en113 rfl) (rhH x372 x387 v383 _ e391 _ _ _ (H.enter [] [3] (by decide) rfl)) ?_
   rintro _ w392 ⟨rfl, G393⟩
   have H := H389.step (G393.only : Only [] _ _)
   refine ⟨_, rfl, ?_⟩
   refine (zF (zA (hK371 _ _ ?_)))
   refine zW (b := x390) rfl (fun c394 => ?_) (fun c394 => ?_)
   ·have hF := zO c394 hF
    refine zC fun K395 hK395 => ?_
    refine zB ?_
    refine zI (.bool true) ?_
    refine (zF (zA (hK395 _ _ ?_)))
    obtain rfl := someI hF
    refine (zZ (yF (zY (zY (yF (zY (post1 (v1 := .bool true) rfl rfl ?_)))))))
    exact ⟨rfl, H.pick [] (by decide)⟩
   have hF := zN c394 hF
   refine (yA (yR (zA (hK370 _ _ ?_))))
   refine zB ?_
   refine zM (.int .i64 g319) ?_
   obtain ⟨x396, e397, hF⟩ := zG hF
   refine zH (wC (a := g319) (b := 1) rfl rfl e397) ?_
   refine zI (.int .i64 x396) ?_
   exact (zF (zA (meet ⟨(n325, x396), (zK rfl zL), ⟨H.pick [0, 1] (by decide), hF⟩, Nat.lt_succ_self _⟩)))
  have hF := zN c344 hF
  exact (xW (yT (yT (xG (zA (meet ⟨(), zL, ⟨H.pick [] (by decide), hF⟩⟩))))))
 rintro _ ρ w170 ⟨H, hF⟩
 have hF := join_body ek172 hF
 refine zC fun K398 hK398 => ?_
 refine zB ?_
 refine zI (.bool false) ?_
 refine (zF (zA (hK398 _ _ ?_)))
 obtain rfl := someI hF
 refine (zZ (post1 (v1 := .bool false) rfl rfl ?_))
 exact ⟨rfl, H.pick [] (by decide)⟩
theorem F_ref6_deeper_s : S_ref6_deeper (F_ref6_deeper) := by
 have h : ∀ n, S_ref6_deeper (F_ref6_deeper_R n) := by
  intro n
  induction n with
  | zero => intro p0 p1 v1 r hF; cases hF
  | succ n ih => intro p0 p1 v1 r hF; exact F_ref6_deeper_B_w (F_ref6_deeper_R n) ih p0 p1 v1 r hF
 exact h FU
set_option maxHeartbeats 4000000 in
theorem F_ref6_outside_w (p0 : Int) (p1 : Int) (p2 : Int) (r : Bool) (hF : F_ref6_outside p0 p1 p2 = some r) (O S : List Nat) (w : World) (H : Hd O w w S []) :
  Calls Tryz.prog 63 ([.int .i64 p0, .int .i64 p1, .int .i64 p2] : List Value).toArray w fun e w' => e = .returned (.bool r) ∧ Hd O w w' S [] := by
 unfold F_ref6_outside at hF
 refine yB 15 Tryz.func63 rfl rfl rfl ?_
 refine zC fun K1 hK1 => ?_
 refine zB ?_
 refine zI (.bool false) ?_
 refine (zF (zA (hK1 _ _ ?_)))
 obtain ⟨g7, hF, hK9⟩ := zD hF
 refine yL [6, 7, 8, 9, 10, 11, 12, 13, 14] (fun (g : Unit) => [(6, .bool g7)]) (fun g wl => Hd O w wl S []) ?_ ?_
 ·skip
  refine zB ?_
  refine zM (.int .i64 p0) ?_
  refine zM (.int .i64 p1) ?_
  obtain ⟨x10, e11, hF⟩ := zG hF
  refine zH (zS (xZ (a := p0) (b := p1) rfl rfl) e11) ?_
  refine yK (b := x10) rfl rfl rfl (fun c12 => ?_) (fun c12 => ?_)
  ·have hF := zO c12 hF
   refine yD ?_
   refine yD ?_
   refine yD ?_
   refine zH (yI (v := .bool true) rfl rfl) ?_
   refine zI (.bool true) ?_
   obtain rfl := someI hF
   exact (zF (zA (meet ⟨(), (zK rfl zL), H.pick [] (by decide)⟩)))
  have hF := zN c12 hF
  refine zM (.int .i64 p0) ?_
  refine zM (.int .i64 p2) ?_
  obtain ⟨x13, e14, hF⟩ := zG hF
  refine zH (zS (Do_gtr (a := p0) (b := p2) rfl rfl) e14) ?_
  refine zH (yE (v := .bool x13) rfl rfl) ?_
  refine zI (.bool x13) ?_
  obtain rfl := someI hF
  exact (zF (zA (meet ⟨(), (zK rfl zL), H.pick [] (by decide)⟩)))
 rintro _ ρ w8 H
 have hF := hK9
 obtain rfl := someI hF
 refine (zZ (post1 (v1 := .bool g7) rfl rfl ?_))
 exact ⟨rfl, H.pick [] (by decide)⟩
set_option maxHeartbeats 4000000 in
set_option maxRecDepth 100000 in
theorem F_ref6_fields_w (p0 : Int) (r : Bool × Bool × Bool × Bool × Bool × Int) (hF : F_ref6_fields p0 = some r) (O S : List Nat) (w : World) (H : Hd O w w S []) :
  Calls Tryz.prog 189 ([.int .i64 p0] : List Value).toArray w fun e w' => e = .returned (.tuple #[.bool r.1, .bool r.2.1, .bool r.2.2.1, .bool r.2.2.2.1, .bool r.2.2.2.2.1, .int .i64 r.2.2.2.2.2]) ∧ Hd O w w' S [] := by
 unfold F_ref6_fields at hF
 refine yB 31 Tryz.func189 rfl rfl rfl ?_
 refine zC fun K1 hK1 => ?_
 refine zB ?_
 refine zI (.bool false) ?_
 refine zI (.bool false) ?_
 refine zI (.bool false) ?_
 refine zI (.bool false) ?_
 refine zI (.bool false) ?_
 refine zI (.int .i64 0) ?_
 refine (zF (zA (hK1 _ _ ?_)))
 refine zC fun K72 hK72 => ?_
 refine zC fun K73 hK73 => ?_
 refine zB ?_
 refine zM (.int .i64 p0) ?_
 refine (zF (zA (hK73 _ _ ?_)))
 refine yJ ?_
 refine zC fun K74 hK74 => ?_
 refine zB ?_
 obtain ⟨x75, e76, hF⟩ := zG hF
 refine zH (zS (yP (a := p0) (b := 3) rfl rfl) e76) ?_
 refine zI (.bool x75) ?_
 refine (zF (zA (hK74 _ _ ?_)))
 refine zW (b := x75) rfl (fun c77 => ?_) (fun c77 => ?_)
 ·have hF := zO c77 hF
  refine zC fun K78 hK78 => ?_
  refine zB ?_
  refine zI (.bool true) ?_
  refine zI (.bool false) ?_
  refine zI (.bool true) ?_
  refine zI (.bool true) ?_
  refine zI (.bool false) ?_
  refine zI (.int .i64 0) ?_
  refine (zF (zA (hK78 _ _ ?_)))
  obtain rfl := someI hF
  refine (zZ (yF (zY (post6 (v1 := .bool true) (v2 := .bool false) (v3 := .bool true) (v4 := .bool true) (v5 := .bool false) (v6 := .int .i64 0) rfl rfl rfl rfl rfl rfl rfl ?_))))
  exact ⟨rfl, H.pick [] (by decide)⟩
 have hF := zN c77 hF
 refine zC fun K79 hK79 => ?_
 refine zB ?_
 obtain ⟨x80, e81, hF⟩ := zG hF
 refine zH (zS (yP (a := p0) (b := 4) rfl rfl) e81) ?_
 refine zI (.bool x80) ?_
 refine (zF (zA (hK79 _ _ ?_)))
 refine zW (b := x80) rfl (fun c82 => ?_) (fun c82 => ?_)
 ·have hF := zO c82 hF
  refine zC fun K83 hK83 => ?_
  refine zB ?_
  refine zI (.bool true) ?_
  refine zI (.bool true) ?_
  refine zI (.bool true) ?_
  refine zI (.bool false) ?_
  refine zI (.bool false) ?_
  refine zI (.int .i64 0) ?_
  refine (zF (zA (hK83 _ _ ?_)))
  obtain rfl := someI hF
  refine (zZ (yF (zY (post6 (v1 := .bool true) (v2 := .bool true) (v3 := .bool true) (v4 := .bool false) (v5 := .bool false) (v6 := .int .i64 0) rfl rfl rfl rfl rfl rfl rfl ?_))))
  exact ⟨rfl, H.pick [] (by decide)⟩
 have hF := zN c82 hF
 refine zC fun K84 hK84 => ?_
 refine zB ?_
 obtain ⟨x85, e86, hF⟩ := zG hF
 refine zH (zS (yP (a := p0) (b := 5) rfl rfl) e86) ?_
 refine zI (.bool x85) ?_
 refine (zF (zA (hK84 _ _ ?_)))
 refine zW (b := x85) rfl (fun c87 => ?_) (fun c87 => ?_)
 ·have hF := zO c87 hF
  refine zC fun K88 hK88 => ?_
  refine zB ?_
  refine zI (.bool true) ?_
  refine zI (.bool false) ?_
  refine zI (.bool false) ?_
  refine zI (.bool true) ?_
  refine zI (.bool true) ?_
  refine zI (.int .i64 0) ?_
  refine (zF (zA (hK88 _ _ ?_)))
  obtain rfl := someI hF
  refine (zZ (yF (zY (post6 (v1 := .bool true) (v2 := .bool false) (v3 := .bool false) (v4 := .bool true) (v5 := .bool true) (v6 := .int .i64 0) rfl rfl rfl rfl rfl rfl rfl ?_))))
  exact ⟨rfl, H.pick [] (by decide)⟩
 have hF := zN c87 hF
 obtain ⟨g95, hF, hK97⟩ := zD hF
 refine yL [15, 16, 17] (fun (g : Unit) => [(15, .bool g95)]) (fun g wl => Hd O w wl S []) ?_ ?_
 ·skip
  refine zC fun K98 hK98 => ?_
  refine zB ?_
  obtain ⟨x99, e100, hF⟩ := zG hF
  refine zH (zS (yP (a := p0) (b := 6) rfl rfl) e100) ?_
  refine zI (.bool x99) ?_
  refine (zF (zA (hK98 _ _ ?_)))
  refine zW (b := x99) rfl (fun c101 => ?_) (fun c101 => ?_)
  ·have hF := zO c101 hF
   obtain rfl := someI hF
   exact (yA (zA (meet ⟨(), (zK rfl zL), H.pick [] (by decide)⟩)))
  have hF := zN c101 hF
  refine zB ?_
  obtain ⟨x102, e103, hF⟩ := zG hF
  refine zH (zS (yP (a := p0) (b := 7) rfl rfl) e103) ?_
  refine zI (.bool x102) ?_
  obtain rfl := someI hF
  exact (zF (zA (meet ⟨(), (zK rfl zL), H.pick [] (by decide)⟩)))
 rintro _ ρ w96 H
 have hF := hK97
 refine zW (b := g95) rfl (fun c104 => ?_) (fun c104 => ?_)
 ·have hF := zO c104 hF
  refine zC fun K105 hK105 => ?_
  refine zB ?_
  refine zI (.bool true) ?_
  refine zI (.bool false) ?_
  refine zI (.bool false) ?_
  refine zI (.bool false) ?_
  refine zI (.bool false) ?_
  refine zI (.int .i64 0) ?_
  refine (zF (zA (hK105 _ _ ?_)))
  obtain rfl := someI hF
  refine (zZ (yF (zY (post6 (v1 := .bool true) (v2 := .bool false) (v3 := .bool false) (v4 := .bool false) (v5 := .bool false) (v6 := .int .i64 0) rfl rfl rfl rfl rfl rfl rfl ?_))))
  exact ⟨rfl, H.pick [] (by decide)⟩
 have hF := zN c104 hF
 obtain ⟨g112, hF, hK114⟩ := zD hF
 refine yL [18, 19, 20] (fun (g : Unit) => [(18, .bool g112)]) (fun g wl => Hd O w wl S []) ?_ ?_
 ·skip
  refine zC fun K115 hK115 => ?_
  refine zB ?_
  obtain ⟨x116, e117, hF⟩ := zG hF
  refine zH (zS (yP (a := p0) (b := 8) rfl rfl) e117) ?_
  refine zI (.bool x116) ?_
  refine (zF (zA (hK115 _ _ ?_)))
  refine zW (b := x116) rfl (fun c118 => ?_) (fun c118 => ?_)
  ·have hF := zO c118 hF
   obtain rfl := someI hF
   exact (yA (zA (meet ⟨(), (zK rfl zL), H.pick [] (by decide)⟩)))
  have hF := zN c118 hF
  refine zB ?_
  obtain ⟨x119, e120, hF⟩ := zG hF
  refine zH (zS (yP (a := p0) (b := 15) rfl rfl) e120) ?_
  refine zI (.bool x119) ?_
  obtain rfl := someI hF
  exact (zF (zA (meet ⟨(), (zK rfl zL), H.pick [] (by decide)⟩)))
 rintro _ ρ w113 H
 have hF := hK114
 refine zW (b := g112) rfl (fun c121 => ?_) (fun c121 => ?_)
 ·have hF := zO c121 hF
  refine zC fun K122 hK122 => ?_
  refine zB ?_
  refine zI (.bool false) ?_
  refine zI (.bool false) ?_
  refine zI (.bool false) ?_
  refine zI (.bool false) ?_
  refine zI (.bool false) ?_
  refine zI (.int .i64 1) ?_
  refine (zF (zA (hK122 _ _ ?_)))
  obtain rfl := someI hF
  refine (zZ (yF (zY (post6 (v1 := .bool false) (v2 := .bool false) (v3 := .bool false) (v4 := .bool false) (v5 := .bool false) (v6 := .int .i64 1) rfl rfl rfl rfl rfl rfl rfl ?_))))
  exact ⟨rfl, H.pick [] (by decide)⟩
 have hF := zN c121 hF
 obtain ⟨g129, hF, hK131⟩ := zD hF
 refine yL [21, 22, 23] (fun (g : Unit) => [(21, .bool g129)]) (fun g wl => Hd O w wl S []) ?_ ?_
 ·skip
  refine zC fun K132 hK132 => ?_
  refine zB ?_
  obtain ⟨x133, e134, hF⟩ := zG hF
  refine zH (zS (yP (a := p0) (b := 9) rfl rfl) e134) ?_
  refine zI (.bool x133) ?_
  refine (zF (zA (hK132 _ _ ?_)))
  refine zW (b := x133) rfl (fun c135 => ?_) (fun c135 => ?_)
  ·have hF := zO c135 hF
   obtain rfl := someI hF
   exact (yA (zA (meet ⟨(), (zK rfl zL), H.pick [] (by decide)⟩)))
  have hF := zN c135 hF
  refine zB ?_
  obtain ⟨x136, e137, hF⟩ := zG hF
  refine zH (zS (yP (a := p0) (b := 10) rfl rfl) e137) ?_
  refine zI (.bool x136) ?_
  obtain rfl := someI hF
  exact (zF (zA (meet ⟨(), (zK rfl zL), H.pick [] (by decide)⟩)))
 rintro _ ρ w130 H
 have hF := hK131
 refine zW (b := g129) rfl (fun c138 => ?_) (fun c138 => ?_)
 ·have hF := zO c138 hF
  refine zC fun K139 hK139 => ?_
  refine zB ?_
  refine zI (.bool false) ?_
  refine zI (.bool false) ?_
  refine zI (.bool false) ?_
  refine zI (.bool false) ?_
  refine zI (.bool false) ?_
  refine zI (.int .i64 (-1)) ?_
  refine (zF (zA (hK139 _ _ ?_)))
  obtain rfl := someI hF
  refine (zZ (yF (zY (post6 (v1 := .bool false) (v2 := .bool false) (v3 := .bool false) (v4 := .bool false) (v5 := .bool false) (v6 := .int .i64 (-1)) rfl rfl rfl rfl rfl rfl rfl ?_))))
  exact ⟨rfl, H.pick [] (by decide)⟩
 have hF := zN c138 hF
 obtain ⟨g146, hF, hK148⟩ := zD hF
 refine yL [24, 25, 26] (fun (g : Unit) => [(24, .bool g146)]) (fun g wl => Hd O w wl S []) ?_ ?_
 ·skip
  refine zC fun K149 hK149 => ?_
  refine zB ?_
  obtain ⟨x150, e151, hF⟩ := zG hF
  refine zH (zS (yP (a := p0) (b := 11) rfl rfl) e151) ?_
  refine zI (.bool x150) ?_
  refine (zF (zA (hK149 _ _ ?_)))
  refine zW (b := x150) rfl (fun c152 => ?_) (fun c152 => ?_)
  ·have hF := zO c152 hF
   obtain rfl := someI hF
   exact (yA (zA (meet ⟨(), (zK rfl zL), H.pick [] (by decide)⟩)))
  have hF := zN c152 hF
  refine zB ?_
  obtain ⟨x153, e154, hF⟩ := zG hF
  refine zH (zS (yP (a := p0) (b := 12) rfl rfl) e154) ?_
  refine zI (.bool x153) ?_
  obtain rfl := someI hF
  exact (zF (zA (meet ⟨(), (zK rfl zL), H.pick [] (by decide)⟩)))
 rintro _ ρ w147 H
 have hF := hK148
 refine zW (b := g146) rfl (fun c155 => ?_) (fun c155 => ?_)
 ·have hF := zO c155 hF
  refine zC fun K156 hK156 => ?_
  refine zB ?_
  refine zI (.bool false) ?_
  refine zI (.bool false) ?_
  refine zI (.bool false) ?_
  refine zI (.bool false) ?_
  refine zI (.bool true) ?_
  refine zI (.int .i64 1) ?_
  refine (zF (zA (hK156 _ _ ?_)))
  obtain rfl := someI hF
  refine (zZ (yF (zY (post6 (v1 := .bool false) (v2 := .bool false) (v3 := .bool false) (v4 := .bool false) (v5 := .bool true) (v6 := .int .i64 1) rfl rfl rfl rfl rfl rfl rfl ?_))))
  exact ⟨rfl, H.pick [] (by decide)⟩
 have hF := zN c155 hF
 refine zC fun K157 hK157 => ?_
 refine zB ?_
 obtain ⟨x158, e159, hF⟩ := zG hF
 refine zH (zS (yP (a := p0) (b := 13) rfl rfl) e159) ?_
 refine zI (.bool x158) ?_
 refine (zF (zA (hK157 _ _ ?_)))
 refine zW (b := x158) rfl (fun c160 => ?_) (fun c160 => ?_)
 ·have hF := zO c160 hF
  refine zC fun K161 hK161 => ?_
  refine zB ?_
  refine zI (.bool false) ?_
  refine zI (.bool false) ?_
  refine zI (.bool false) ?_
  refine zI (.bool true) ?_
  refine zI (.bool true) ?_
  refine zI (.int .i64 1) ?_
  refine (zF (zA (hK161 _ _ ?_)))
  obtain rfl := someI hF
  refine (zZ (yF (zY (post6 (v1 := .bool false) (v2 := .bool false) (v3 := .bool false) (v4 := .bool true) (v5 := .bool true) (v6 := .int .i64 1) rfl rfl rfl rfl rfl rfl rfl ?_))))
  exact ⟨rfl, H.pick [] (by decide)⟩
 have hF := zN c160 hF
 refine zC fun K162 hK162 => ?_
 refine zB ?_
 obtain ⟨x163, e164, hF⟩ := zG hF
 refine zH (zS (yP (a := p0) (b := 14) rfl rfl) e164) ?_
 refine zI (.bool x163) ?_
 refine (zF (zA (hK162 _ _ ?_)))
 refine zW (b := x163) rfl (fun c165 => ?_) (fun c165 => ?_)
 ·have hF := zO c165 hF
  refine zC fun K166 hK166 => ?_
  refine zB ?_
  refine zI (.bool false) ?_
  refine zI (.bool false) ?_
  refine zI (.bool false) ?_
  refine zI (.bool false) ?_
  refine zI (.bool false) ?_
  refine zI (.int .i64 2) ?_
  refine (zF (zA (hK166 _ _ ?_)))
  obtain rfl := someI hF
  refine (zZ (yF (zY (post6 (v1 := .bool false) (v2 := .bool false) (v3 := .bool false) (v4 := .bool false) (v5 := .bool false) (v6 := .int .i64 2) rfl rfl rfl rfl rfl rfl rfl ?_))))
  exact ⟨rfl, H.pick [] (by decide)⟩
 have hF := zN c165 hF
 refine (yA (yR (zA (hK72 _ _ ?_))))
 refine zC fun K167 hK167 => ?_
 refine zB ?_
 refine zI (.bool false) ?_
 refine zI (.bool false) ?_
 refine zI (.bool false) ?_
 refine zI (.bool false) ?_
 refine zI (.bool false) ?_
 refine zI (.int .i64 0) ?_
 refine (zF (zA (hK167 _ _ ?_)))
 obtain rfl := someI hF
 refine (zZ (post6 (v1 := .bool false) (v2 := .bool false) (v3 := .bool false) (v4 := .bool false) (v5 := .bool false) (v6 := .int .i64 0) rfl rfl rfl rfl rfl rfl rfl ?_))
 exact ⟨rfl, H.pick [] (by decide)⟩
set_option maxHeartbeats 4000000 in
theorem F_ref6_words_w (r : (List Str)) (hF : F_ref6_words = some r) (O S : List Nat) (w : World) (H : Hd O w w S []) :
  Calls Tryz.prog 160 ([] : List Value).toArray w fun e w' => ∃ u1, e = .returned (u1) ∧ Hd O w w' S [.own Rp.str u1 9 r] := by
 unfold F_ref6_words at hF
 refine yB 2 Tryz.func160 rfl rfl rfl ?_
 refine zC fun K2 hK2 => ?_
 refine zB ?_
 refine zI (.slice none 0 0) ?_
 refine (zF (zA (hK2 _ _ ?_)))
 refine zC fun K3 hK3 => ?_
 refine zB ?_
 obtain ⟨x4, e5, hF⟩ := zG hF
 subst e5
 refine yX rfl rfl (Lx_bs (r := Rp.str) (xl := [[112, 104, 97, 115, 101], [109, 111, 118, 101], [114, 117, 108, 101], [105, 102], [111, 114], [97, 110, 100], [116, 114, 117, 101], [102, 97, 108, 115, 101], [115, 116, 101, 97, 100, 121], [110, 111, 116], [102, 111, 114], [119, 105, 116, 104, 105, 110], [99, 111, 117, 110, 116], [111, 102], [114, 105, 115, 101, 115], [115, 105, 110, 99, 101]]) (cs := [.string (bs [112, 104, 97, 115, 101]), .string (bs [109, 111, 118, 101]), .string (bs [114, 117, 108, 101]), .string (bs [105, 102]), .string (bs [111, 114]), .string (bs [97, 110, 100]), .string (bs [116, 114, 117, 101]), .string (bs [102, 97, 108, 115, 101]), .string (bs [115, 116, 101, 97, 100, 121]), .string (bs [110, 111, 116]), .string (bs [102, 111, 114]), .string (bs [119, 105, 116, 104, 105, 110]), .string (bs [99, 111, 117, 110, 116]), .string (bs [111, 102]), .string (bs [114, 105, 115, 101, 115]), .string (bs [115, 105, 110, 99, 101])]) u22 el9 (by decide) (by decide) rfl (xJ (vs := [.string (bs [112, 104, 97, 115, 101]), .string (bs [109, 111, 118, 101]), .string (bs [114, 117, 108, 101]), .string (bs [105, 102]), .string (bs [111, 114]), .string (bs [97, 110, 100]), .string (bs [116, 114, 117, 101]), .string (bs [102, 97, 108, 115, 101]), .string (bs [115, 116, 101, 97, 100, 121]), .string (bs [110, 111, 116]), .string (bs [102, 111, 114]), .string (bs [119, 105, 116, 104, 105, 110]), .string (bs [99, 111, 117, 110, 116]), .string (bs [111, 102]), .string (bs [114, 105, 115, 101, 115]), .string (bs [115, 105, 110, 99, 101])]) (by decide) rfl rfl ⟨rfl, rfl, rfl, rfl, rfl, rfl, rfl, rfl, rfl, rfl, rfl, rfl, rfl, rfl, rfl, rfl, trivial⟩ rfl) H ⟨[.string (bs [112, 104, 97, 115, 101])], [.string (bs [109, 111, 118, 101]), .string (bs [114, 117, 108, 101]), .string (bs [105, 102]), .string (bs [111, 114]), .string (bs [97, 110, 100]), .string (bs [116, 114, 117, 101]), .string (bs [102, 97, 108, 115, 101]), .string (bs [115, 116, 101, 97, 100, 121]), .string (bs [110, 111, 116]), .string (bs [102, 111, 114]), .string (bs [119, 105, 116, 104, 105, 110]), .string (bs [99, 111, 117, 110, 116]), .string (bs [111, 102]), .string (bs [114, 105, 115, 101, 115]), .string (bs [115, 105, 110, 99, 101])], rfl, rfl, ⟨[.string (bs [109, 111, 118, 101])], [.string (bs [114, 117, 108, 101]), .string (bs [105, 102]), .string (bs [111, 114]), .string (bs [97, 110, 100]), .string (bs [116, 114, 117, 101]), .string (bs [102, 97, 108, 115, 101]), .string (bs [115, 116, 101, 97, 100, 121]), .string (bs [110, 111, 116]), .string (bs [102, 111, 114]), .string (bs [119, 105, 116, 104, 105, 110]), .string (bs [99, 111, 117, 110, 116]), .string (bs [111, 102]), .string (bs [114, 105, 115, 101, 115]), .string (bs [115, 105, 110, 99, 101])], rfl, rfl, ⟨[.string (bs [114, 117, 108, 101])], [.string (bs [105, 102]), .string (bs [111, 114]), .string (bs [97, 110, 100]), .string (bs [116, 114, 117, 101]), .string (bs [102, 97, 108, 115, 101]), .string (bs [115, 116, 101, 97, 100, 121]), .string (bs [110, 111, 116]), .string (bs [102, 111, 114]), .string (bs [119, 105, 116, 104, 105, 110]), .string (bs [99, 111, 117, 110, 116]), .string (bs [111, 102]), .string (bs [114, 105, 115, 101, 115]), .string (bs [115, 105, 110, 99, 101])], rfl, rfl, ⟨[.string (bs [105, 102])], [.string (bs [111, 114]), .string (bs [97, 110, 100]), .string (bs [116, 114, 117, 101]), .string (bs [102, 97, 108, 115, 101]), .string (bs [115, 116, 101, 97, 100, 121]), .string (bs [110, 111, 116]), .string (bs [102, 111, 114]), .string (bs [119, 105, 116, 104, 105, 110]), .string (bs [99, 111, 117, 110, 116]), .string (bs [111, 102]), .string (bs [114, 105, 115, 101, 115]), .string (bs [115, 105, 110, 99, 101])], rfl, rfl, ⟨[.string (bs [111, 114])], [.string (bs [97, 110, 100]), .string (bs [116, 114, 117, 101]), .string (bs [102, 97, 108, 115, 101]), .string (bs [115, 116, 101, 97, 100, 121]), .string (bs [110, 111, 116]), .string (bs [102, 111, 114]), .string (bs [119, 105, 116, 104, 105, 110]), .string (bs [99, 111, 117, 110, 116]), .string (bs [111, 102]), .string (bs [114, 105, 115, 101, 115]), .string (bs [115, 105, 110, 99, 101])], rfl, rfl, ⟨[.string (bs [97, 110, 100])], [.string (bs [116, 114, 117, 101]), .string (bs [102, 97, 108, 115, 101]), .string (bs [115, 116, 101, 97, 100, 121]), .string (bs [110, 111, 116]), .string (bs [102, 111, 114]), .string (bs [119, 105, 116, 104, 105, 110]), .string (bs [99, 111, 117, 110, 116]), .string (bs [111, 102]), .string (bs [114, 105, 115, 101, 115]), .string (bs [115, 105, 110, 99, 101])], rfl, rfl, ⟨[.string (bs [116, 114, 117, 101])], [.string (bs [102, 97, 108, 115, 101]), .string (bs [115, 116, 101, 97, 100, 121]), .string (bs [110, 111, 116]), .string (bs [102, 111, 114]), .string (bs [119, 105, 116, 104, 105, 110]), .string (bs [99, 111, 117, 110, 116]), .string (bs [111, 102]), .string (bs [114, 105, 115, 101, 115]), .string (bs [115, 105, 110, 99, 101])], rfl, rfl, ⟨[.string (bs [102, 97, 108, 115, 101])], [.string (bs [115, 116, 101, 97, 100, 121]), .string (bs [110, 111, 116]), .string (bs [102, 111, 114]), .string (bs [119, 105, 116, 104, 105, 110]), .string (bs [99, 111, 117, 110, 116]), .string (bs [111, 102]), .string (bs [114, 105, 115, 101, 115]), .string (bs [115, 105, 110, 99, 101])], rfl, rfl, ⟨[.string (bs [115, 116, 101, 97, 100, 121])], [.string (bs [110, 111, 116]), .string (bs [102, 111, 114]), .string (bs [119, 105, 116, 104, 105, 110]), .string (bs [99, 111, 117, 110, 116]), .string (bs [111, 102]), .string (bs [114, 105, 115, 101, 115]), .string (bs [115, 105, 110, 99, 101])], rfl, rfl, ⟨[.string (bs [110, 111, 116])], [.string (bs [102, 111, 114]), .string (bs [119, 105, 116, 104, 105, 110]), .string (bs [99, 111, 117, 110, 116]), .string (bs [111, 102]), .string (bs [114, 105, 115, 101, 115]), .string (bs [115, 105, 110, 99, 101])], rfl, rfl, ⟨[.string (bs [102, 111, 114])], [.string (bs [119, 105, 116, 104, 105, 110]), .string (bs [99, 111, 117, 110, 116]), .string (bs [111, 102]), .string (bs [114, 105, 115, 101, 115]), .string (bs [115, 105, 110, 99, 101])], rfl, rfl, ⟨[.string (bs [119, 105, 116, 104, 105, 110])], [.string (bs [99, 111, 117, 110, 116]), .string (bs [111, 102]), .string (bs [114, 105, 115, 101, 115]), .string (bs [115, 105, 110, 99, 101])], rfl, rfl, ⟨[.string (bs [99, 111, 117, 110, 116])], [.string (bs [111, 102]), .string (bs [114, 105, 115, 101, 115]), .string (bs [115, 105, 110, 99, 101])], rfl, rfl, ⟨[.string (bs [111, 102])], [.string (bs [114, 105, 115, 101, 115]), .string (bs [115, 105, 110, 99, 101])], rfl, rfl, ⟨[.string (bs [114, 105, 115, 101, 115])], [.string (bs [115, 105, 110, 99, 101])], rfl, rfl, ⟨[.string (bs [115, 105, 110, 99, 101])], [], rfl, rfl, rfl⟩⟩⟩⟩⟩⟩⟩⟩⟩⟩⟩⟩⟩⟩⟩⟩) ?_
 rintro v7 w8 H
 refine zI v7 ?_
 refine (zF (zA (hK3 _ _ ?_)))
 obtain rfl := someI hF
 refine (zZ (post1 (v1 := v7) rfl rfl ?_))
 exact ⟨v7, rfl, H.pick [0] (by decide)⟩
end Go.Proofs.YtnajnkghilemhaaGreatDoor.L
