/- Walks: what each function computes, for every argument; no condition but those that stand in the statements. -/
import Derived.Test.YtnajnkghilemhaaGreatDoorVV0
import Derived.Test.YtnajnkghilemhaaGreatDoorVV2
namespace Go.Proofs.YtnajnkghilemhaaGreatDoor.L
open Go.RowKit Go.OB Go.Lf
/- (*orangebox/orangeboxref0.Ink).Int -/
set_option maxHeartbeats 4000000 in
theorem F_ref0_Ink_Int_w (p0 : Orangeboxref0Ink) (p1 : Int) (b1 : Nat) (v2 : Value) (r : Orangeboxref0Ink) (hF : F_ref0_Ink_Int p0 p1 = some r) (O S : List Nat) (w : World) (H : Hd O w w S [.own (Rp.int .u8) v2 5 p0.out, .blk b1 [v2] 79, .fz (.at 3 0 ((Fl.arr 20 (Fl.int .u64)).f yF))]) :
  Calls Tryz.prog 35 ([.pointer (some ⟨b1, 0, none⟩), .int .i64 p1] : List Value).toArray w fun e w' => ∃ u6, e = .returned (.tuple #[]) ∧ Hd O w w' S [.own (Rp.int .u8) u6 5 r.out, .blk b1 [u6] 79] := by
 unfold F_ref0_Ink_Int at hF
 refine yD 22 Tryz.func35 rfl rfl rfl ?_
 refine zD fun K7 hK7 => ?_
 refine zC ?_
 refine zA rfl rfl (zK (v := .pointer (some ⟨b1, 0, none⟩)) rfl) ?_
 refine zA rfl rfl (zK (v := .pointer (some ⟨b1, 0, none⟩)) rfl) ?_
 refine zA rfl rfl (yK rfl) ?_
 refine zA rfl rfl (fa79_0 rfl) ?_
 refine zA rfl rfl (zL one77 rfl (Cells.get (Blk.cells (H.item (i := 1) rfl)) (i := 0) rfl)) ?_
 refine zA rfl rfl (zK (v := .int .i64 p1) rfl) ?_
 obtain ⟨x8, e9, hF⟩ := zI hF
 refine yA rfl rfl (zX en85 rfl) (F_strconv_AppendInt_w p0.out p1 10 v2 _ e9 _ _ _ (H.enter [0] [2] (by decide) rfl)) ?_
 rintro _ w12 ⟨v10, rfl, G13⟩
 have H : Hd O _ w12 _ [.blk b1 [v2] 79, .fz (.at 3 0 ((Fl.arr 20 (Fl.int .u64)).f yF)), .own (Rp.int .u8) v10 5 x8] := H.back [0] [2] rfl G13
 refine ⟨_, rfl, ?_⟩
 refine zA rfl rfl (yK rfl) ?_
 refine zA rfl rfl (fa79_0 rfl) ?_
 refine yV rfl (xX H 0 rfl sz77 rfl (v := v10) rfl (own_one (H.item (i := 2) rfl)) rfl) ?_
 rintro w14 H
 refine (zJ (zB (hK7 _ _ ?_)))
 refine zC ?_
 refine zA rfl rfl (zK (v := .pointer (some ⟨b1, 0, none⟩)) rfl) ?_
 refine zA rfl rfl (zK (v := .pointer (some ⟨b1, 0, none⟩)) rfl) ?_
 refine zA rfl rfl (yK rfl) ?_
 refine zA rfl rfl (fa79_0 rfl) ?_
 refine zA rfl rfl (zL one77 rfl (Cells.get (Blk.cells (H.item (i := 0) rfl)) (i := 0) rfl)) ?_
 obtain ⟨x15, e16, hF⟩ := zF hF
 subst e16
 refine yY rfl rfl (Lx_bs (r := (Rp.int .u8)) (xl := [32]) (cs := [.int .u8 32]) u77 el5 (by decide) (by decide) rfl (wF (vs := [.int .u8 32]) (by decide) rfl rfl ⟨rfl, trivial⟩ rfl) H ⟨[.int .u8 32], [], rfl, rfl, rfl⟩) ?_
 rintro v18 w19 H
 obtain ⟨x20, e21, hF⟩ := zI hF
 refine yY rfl rfl (Lx_app H (i := 2) rfl u77 el5 rfl rfl (Sr.of_own (H.item (i := 3) rfl)) e21) ?_
 rintro v22 w23 H
 refine zA rfl rfl (yK rfl) ?_
 refine zA rfl rfl (fa79_0 rfl) ?_
 refine yV rfl (xX H 0 rfl sz77 rfl (v := v22) rfl (own_one (H.item (i := 2) rfl)) rfl) ?_
 rintro w24 H
 have hR := Option.some.inj hF
 subst hR
 refine (zJ (post0n rfl ?_))
 exact ⟨v22, rfl, H.pick [2, 0] (by decide)⟩
end Go.Proofs.YtnajnkghilemhaaGreatDoor.L
namespace Go.Proofs.YtnajnkghilemhaaGreatDoor.L
open Go.RowKit Go.OB Go.Lf
/- internal/strconv.AppendBool -/
set_option maxHeartbeats 4000000 in
theorem F_internal_strconv_AppendBool_w (p0 : List Int) (p1 : Bool) (v1 : Value) (r : (List Int)) (hF : F_internal_strconv_AppendBool p0 p1 = some r) (O S : List Nat) (w : World) (H : Hd O w w S [.own (Rp.int .u8) v1 5 p0]) :
  Calls Tryz.prog 191 ([v1, .bool p1] : List Value).toArray w fun e w' => ∃ u3, e = .returned (u3) ∧ Hd O w w' S [.own (Rp.int .u8) u3 5 r] := by
 unfold F_internal_strconv_AppendBool at hF
 refine yD 10 Tryz.func191 rfl rfl rfl ?_
 refine zD fun K4 hK4 => ?_
 refine zC ?_
 refine zA rfl rfl (zG (v := .slice none 0 0) rfl) ?_
 refine (zJ (zB (hK4 _ _ ?_)))
 refine zD fun K12 hK12 => ?_
 refine zD fun K13 hK13 => ?_
 refine zC ?_
 refine zA rfl rfl (zK (v := .bool p1) rfl) ?_
 refine (zJ (zB (hK13 _ _ ?_)))
 refine yH (b := p1) rfl (fun c14 => ?_) (fun c14 => ?_)
 ·have hF := zV c14 hF
  refine zD fun K15 hK15 => ?_
  refine zC ?_
  refine zA rfl rfl (zK (v := v1) rfl) ?_
  obtain ⟨x16, e17, hF⟩ := zI hF
  refine yY rfl rfl (Lx_appstr H (i := 0) rfl u77 u9 z8_5 rfl rfl e17) ?_
  rintro v18 w19 H
  refine zA rfl rfl (zG (v := v18) rfl) ?_
  refine (zJ (zB (hK15 _ _ ?_)))
  have hR := Option.some.inj hF
  subst hR
  refine (yG (yC (post1 (v1 := v18) rfl rfl ?_)))
  exact ⟨v18, rfl, H.pick [0] (by decide)⟩
 have hF := zW c14 hF
 refine (yI (zB (hK12 _ _ ?_)))
 refine zD fun K20 hK20 => ?_
 refine zC ?_
 refine zA rfl rfl (zK (v := v1) rfl) ?_
 obtain ⟨x21, e22, hF⟩ := zI hF
 refine yY rfl rfl (Lx_appstr H (i := 0) rfl u77 u9 z8_5 rfl rfl e22) ?_
 rintro v23 w24 H
 refine zA rfl rfl (zG (v := v23) rfl) ?_
 refine (zJ (zB (hK20 _ _ ?_)))
 have hR := Option.some.inj hF
 subst hR
 refine (yG (post1 (v1 := v23) rfl rfl ?_))
 exact ⟨v23, rfl, H.pick [0] (by decide)⟩
end Go.Proofs.YtnajnkghilemhaaGreatDoor.L
namespace Go.Proofs.YtnajnkghilemhaaGreatDoor.L
open Go.RowKit Go.OB Go.Lf
/- strconv.AppendBool -/
set_option maxHeartbeats 4000000 in
theorem F_strconv_AppendBool_w (p0 : List Int) (p1 : Bool) (v1 : Value) (r : (List Int)) (hF : F_strconv_AppendBool p0 p1 = some r) (O S : List Nat) (w : World) (H : Hd O w w S [.own (Rp.int .u8) v1 5 p0]) :
  Calls Tryz.prog 163 ([v1, .bool p1] : List Value).toArray w fun e w' => ∃ u3, e = .returned (u3) ∧ Hd O w w' S [.own (Rp.int .u8) u3 5 r] := by
 unfold F_strconv_AppendBool at hF
 refine yD 8 Tryz.func163 rfl rfl rfl ?_
 refine zD fun K4 hK4 => ?_
 refine zC ?_
 refine zA rfl rfl (zG (v := .slice none 0 0) rfl) ?_
 refine (zJ (zB (hK4 _ _ ?_)))
 refine zD fun K5 hK5 => ?_
 refine zC ?_
 refine zA rfl rfl (zK (v := v1) rfl) ?_
 refine zA rfl rfl (zK (v := .bool p1) rfl) ?_
 obtain ⟨x6, e7, hF⟩ := zI hF
 refine yA rfl rfl (zX en191 rfl) (F_internal_strconv_AppendBool_w p0 p1 v1 _ e7 _ _ _ (H.enter [0] [] (by decide) rfl)) ?_
 rintro _ w10 ⟨v8, rfl, G11⟩
 have H : Hd O _ w10 _ [.own (Rp.int .u8) v8 5 x6] := H.back [0] [] rfl G11
 refine ⟨_, rfl, ?_⟩
 refine zA rfl rfl (zG (v := v8) rfl) ?_
 refine (zJ (zB (hK5 _ _ ?_)))
 have hR := Option.some.inj hF
 subst hR
 refine (yG (post1 (v1 := v8) rfl rfl ?_))
 exact ⟨v8, rfl, H.pick [0] (by decide)⟩
end Go.Proofs.YtnajnkghilemhaaGreatDoor.L
namespace Go.Proofs.YtnajnkghilemhaaGreatDoor.L
open Go.RowKit Go.OB Go.Lf
/- (*orangebox/orangeboxref0.Ink).Bool -/
set_option maxHeartbeats 4000000 in
theorem F_ref0_Ink_Bool_w (p0 : Orangeboxref0Ink) (p1 : Bool) (b1 : Nat) (v2 : Value) (r : Orangeboxref0Ink) (hF : F_ref0_Ink_Bool p0 p1 = some r) (O S : List Nat) (w : World) (H : Hd O w w S [.own (Rp.int .u8) v2 5 p0.out, .blk b1 [v2] 79]) :
  Calls Tryz.prog 125 ([.pointer (some ⟨b1, 0, none⟩), .bool p1] : List Value).toArray w fun e w' => ∃ u5, e = .returned (.tuple #[]) ∧ Hd O w w' S [.own (Rp.int .u8) u5 5 r.out, .blk b1 [u5] 79] := by
 unfold F_ref0_Ink_Bool at hF
 refine yD 13 Tryz.func125 rfl rfl rfl ?_
 refine zC ?_
 refine zA rfl rfl (zK (v := .pointer (some ⟨b1, 0, none⟩)) rfl) ?_
 refine zA rfl rfl (zK (v := .pointer (some ⟨b1, 0, none⟩)) rfl) ?_
 refine zA rfl rfl (yK rfl) ?_
 refine zA rfl rfl (fa79_0 rfl) ?_
 refine zA rfl rfl (zL one77 rfl (Cells.get (Blk.cells (H.item (i := 1) rfl)) (i := 0) rfl)) ?_
 refine zA rfl rfl (zK (v := .bool p1) rfl) ?_
 obtain ⟨x6, e7, hF⟩ := zI hF
 refine yA rfl rfl (zX en163 rfl) (F_strconv_AppendBool_w p0.out p1 v2 _ e7 _ _ _ (H.enter [0] [] (by decide) rfl)) ?_
 rintro _ w10 ⟨v8, rfl, G11⟩
 have H : Hd O _ w10 _ [.blk b1 [v2] 79, .own (Rp.int .u8) v8 5 x6] := H.back [0] [] rfl G11
 refine ⟨_, rfl, ?_⟩
 refine zA rfl rfl (yK rfl) ?_
 refine zA rfl rfl (fa79_0 rfl) ?_
 refine yV rfl (xX H 0 rfl sz77 rfl (v := v8) rfl (own_one (H.item (i := 1) rfl)) rfl) ?_
 rintro w12 H
 have hR := Option.some.inj hF
 subst hR
 refine (zJ (post0n rfl ?_))
 exact ⟨v8, rfl, H.pick [1, 0] (by decide)⟩
end Go.Proofs.YtnajnkghilemhaaGreatDoor.L
namespace Go.Proofs.YtnajnkghilemhaaGreatDoor.L
open Go.RowKit Go.OB Go.Lf
/- (*orangebox/orangeboxref0.Ink).Inputs -/
set_option maxHeartbeats 4000000 in
theorem F_ref0_Ink_Inputs_w (p0 : Orangeboxref0Ink) (p1 : List ToldT) (b1 : Nat) (v2 : Value) (v5 : Value) (r : Orangeboxref0Ink) (hF : F_ref0_Ink_Inputs p0 p1 = some r) (O S : List Nat) (w : World) (H : Hd O w w S [.own (Rp.int .u8) v2 5 p0.out, .blk b1 [v2] 79, .fz (.sl rToldT v5 p1), .fz (.at 3 0 ((Fl.arr 20 (Fl.int .u64)).f yF))]) :
  Calls Tryz.prog 74 ([.pointer (some ⟨b1, 0, none⟩), v5] : List Value).toArray w fun e w' => ∃ u8, e = .returned (.tuple #[]) ∧ Hd O w w' S [.own (Rp.int .u8) u8 5 r.out, .blk b1 [u8] 79] := by
 unfold F_ref0_Ink_Inputs at hF
 refine yD 29 Tryz.func74 rfl rfl rfl ?_
 refine zD fun K9 hK9 => ?_
 refine zC ?_
 refine zA rfl rfl (zK (v := .pointer (some ⟨b1, 0, none⟩)) rfl) ?_
 refine zA rfl rfl (zK (v := v5) rfl) ?_
 obtain ⟨x10, e11, hF⟩ := zF hF
 obtain ⟨a12, c13, q14⟩ := SlF.len ((H.item (i := 2) rfl))
 refine zA rfl rfl (zM (xA u65 q14) (congrArg (Value.int .i64) e11)) ?_
 obtain ⟨x15, e16, hF⟩ := zI hF
 refine yA rfl rfl (zX en35 rfl) (F_ref0_Ink_Int_w p0 x10 b1 v2 _ e16 _ _ _ (H.enter [0, 1] [3] (by decide) rfl)) ?_
 rintro _ w19 ⟨v17, rfl, G20⟩
 have H : Hd O _ w19 _ [.fz (.sl rToldT v5 p1), .fz (.at 3 0 ((Fl.arr 20 (Fl.int .u64)).f yF)), .own (Rp.int .u8) v17 5 x15.out, .blk b1 [v17] 79] := H.back [0, 1] [3] rfl G20
 refine ⟨_, rfl, ?_⟩
 refine (zJ (zB (hK9 _ _ ?_)))
 refine zD fun K21 hK21 => ?_
 refine zC ?_
 refine zA rfl rfl (zG (v := .int .i64 0) rfl) ?_
 refine (zJ (zB (hK21 _ _ ?_)))
 refine yM ?_
 unfold F_ref0_Ink_Inputs_L1 at hF
 obtain ⟨B222, n223, eB224, hF⟩ := yZ hF
 refine xN [4, 9, 10, 11, 12, 13, 14, 15, 16, 17, 18, 19, 20, 21, 22, 23, 24, 25, 26, 27, 28] (fun (g : Nat × Int × (List Int) × Value) => [(4, .int .i64 g.2.1)]) (fun g wl => Hd O w wl S [.fz (.sl rToldT v5 p1), .fz (.at 3 0 ((Fl.arr 20 (Fl.int .u64)).f yF)), .blk b1 [g.2.2.2] 79, .own (Rp.int .u8) g.2.2.2 5 g.2.2.1] ∧ loopN B222 g.1 (g.2.1, g.2.2.1) = some r) (fun g => g.1) (n223, 0, x15.out, v17) (zQ rfl zU) ⟨H.pick [0, 1, 3, 2] (by decide), hF⟩ ?_
 clear H hF
 rintro ⟨n223, g218, g220, v221⟩ ρ w226 ⟨H, hF⟩
 obtain ⟨n227, rfl, hF⟩ := xH hF
 have hF := xG eB224 hF
 refine zD fun K237 hK237 => ?_
 refine zD fun K238 hK238 => ?_
 refine zC ?_
 refine zA rfl rfl (zK (v := .int .i64 g218) rfl) ?_
 refine zA rfl rfl (zK (v := v5) rfl) ?_
 obtain ⟨x239, e240, hF⟩ := zF hF
 obtain ⟨a241, c242, q243⟩ := SlF.len ((H.item (i := 0) rfl))
 refine zA rfl rfl (zM (xA u65 q243) (congrArg (Value.int .i64) e240)) ?_
 obtain ⟨x244, e245, hF⟩ := zF hF
 refine zA rfl rfl (zM (xZ (a := g218) (b := x239) rfl rfl) (congrArg Value.bool e245)) ?_
 refine (zJ (zB (hK238 _ _ ?_)))
 refine yH (b := x244) rfl (fun c246 => ?_) (fun c246 => ?_)
 ·have hF := zV c246 hF
  refine (yI (zB (hK237 _ _ ?_)))
  refine zD fun K284 hK284 => ?_
  refine yM ?_
  refine zD fun K285 hK285 => ?_
  refine zC ?_
  refine zA rfl rfl (zK (v := .pointer (some ⟨b1, 0, none⟩)) rfl) ?_
  refine zA rfl rfl (zK (v := v5) rfl) ?_
  refine zA rfl rfl (zK (v := .int .i64 g218) rfl) ?_
  obtain ⟨x286, e287, hF⟩ := zI hF
  obtain ⟨b288, o289, c290, cs291, q292, h295, h293, h294, h296⟩ := rd_at (H.item (i := 0) rfl) e287
  obtain rfl := rToldT_open h295
  have H := H.fz (.at b288 (o289 + g218.toNat * 2) _) ⟨h293, h294, h296⟩
  refine zA rfl rfl (xY u65 sz173 q292 rfl (yP e287).1 (yP e287).2.1 rfl rfl) ?_
  refine zA rfl rfl (fa173_0 rfl) ?_
  refine zA rfl rfl (zL one3 rfl (Cells.get (H.item (i := 4) rfl).2.2 (i := 0) rfl)) ?_
  obtain ⟨x298, e299, hF⟩ := zI hF
  refine yA rfl rfl (zX en35 rfl) (F_ref0_Ink_Int_w (Orangeboxref0Ink.mk g220) x286.N b1 v221 _ e299 _ _ _ (H.enter [3, 2] [1] (by decide) rfl)) ?_
  rintro _ w302 ⟨v300, rfl, G303⟩
  have H : Hd O _ w302 _ [.fz (.sl rToldT v5 p1), .fz (.at 3 0 ((Fl.arr 20 (Fl.int .u64)).f yF)), .fz (.at b288 (o289 + g218.toNat * 2) [.int .i64 x286.N, .bool x286.Known]), .own (Rp.int .u8) v300 5 x298.out, .blk b1 [v300] 79] := H.back [3, 2] [1] rfl G303
  refine ⟨_, rfl, ?_⟩
  refine (zJ (zB (hK285 _ _ ?_)))
  refine zC ?_
  refine zA rfl rfl (zK (v := .pointer (some ⟨b1, 0, none⟩)) rfl) ?_
  refine zA rfl rfl (zK (v := v5) rfl) ?_
  refine zA rfl rfl (zK (v := .int .i64 g218) rfl) ?_
  obtain ⟨x304, e305, hF⟩ := zI hF
  obtain ⟨b306, o307, c308, cs309, q310, h313, h311, h312, h314⟩ := rd_at (H.item (i := 0) rfl) e305
  obtain rfl := rToldT_open h313
  have H := H.fz (.at b306 (o307 + g218.toNat * 2) _) ⟨h311, h312, h314⟩
  refine zA rfl rfl (xY u65 sz173 q310 rfl (yP e305).1 (yP e305).2.1 rfl rfl) ?_
  refine zA rfl rfl (fa173_1 rfl) ?_
  refine zA rfl rfl (zL one4 rfl (Cells.get (H.item (i := 5) rfl).2.2 (i := 1) rfl)) ?_
  obtain ⟨x316, e317, hF⟩ := zI hF
  refine yA rfl rfl (zX en125 rfl) (F_ref0_Ink_Bool_w x298 x304.Known b1 v300 _ e317 _ _ _ (H.enter [3, 4] [] (by decide) rfl)) ?_
  rintro _ w320 ⟨v318, rfl, G321⟩
  have H : Hd O _ w320 _ [.fz (.sl rToldT v5 p1), .fz (.at 3 0 ((Fl.arr 20 (Fl.int .u64)).f yF)), .fz (.at b288 (o289 + g218.toNat * 2) [.int .i64 x286.N, .bool x286.Known]), .fz (.at b306 (o307 + g218.toNat * 2) [.int .i64 x304.N, .bool x304.Known]), .own (Rp.int .u8) v318 5 x316.out, .blk b1 [v318] 79] := H.back [3, 4] [] rfl G321
  refine ⟨_, rfl, ?_⟩
  refine (zJ (yX (zB (hK284 _ _ ?_))))
  refine zC ?_
  refine zA rfl rfl (zK (v := .int .i64 g218) rfl) ?_
  obtain ⟨x322, e323, hF⟩ := zF hF
  refine zA rfl rfl (wE (a := g218) (b := 1) rfl rfl e323) ?_
  refine zA rfl rfl (zG (v := .int .i64 x322) rfl) ?_
  refine (zJ (zB (And.intro ?_ ?_)))
  ·repeat' (first | with_reducible exact zS | refine zZ rfl ?_ | refine zT rfl rfl ?_)
  exact ⟨(n227, x322, x316.out, v318), (zQ rfl zU), ⟨H.pick [0, 1, 5, 4] (by decide), hF⟩, Nat.lt_succ_self _⟩
 have hF := zW c246 hF
 have hR := Option.some.inj hF
 subst hR
 refine (xW (yU (yU (xE (post0n rfl ?_)))))
 exact ⟨v221, rfl, H.pick [3, 2] (by decide)⟩
end Go.Proofs.YtnajnkghilemhaaGreatDoor.L
namespace Go.Proofs.YtnajnkghilemhaaGreatDoor.L
open Go.RowKit Go.OB Go.Lf
/- (*orangebox/orangeboxref0.Ink).Errno -/
set_option maxHeartbeats 4000000 in
theorem F_ref0_Ink_Errno_w (p0 : Orangeboxref0Ink) (p1 : Int) (b1 : Nat) (v2 : Value) (r : Orangeboxref0Ink) (hF : F_ref0_Ink_Errno p0 p1 = some r) (O S : List Nat) (w : World) (H : Hd O w w S [.own (Rp.int .u8) v2 5 p0.out, .blk b1 [v2] 79, .fz (.at 3 0 ((Fl.arr 20 (Fl.int .u64)).f yF))]) :
  Calls Tryz.prog 36 ([.pointer (some ⟨b1, 0, none⟩), .int .i64 p1] : List Value).toArray w fun e w' => ∃ u6, e = .returned (.tuple #[]) ∧ Hd O w w' S [.own (Rp.int .u8) u6 5 r.out, .blk b1 [u6] 79] := by
 unfold F_ref0_Ink_Errno at hF
 refine yD 7 Tryz.func36 rfl rfl rfl ?_
 refine zC ?_
 refine zA rfl rfl (zK (v := .pointer (some ⟨b1, 0, none⟩)) rfl) ?_
 refine zA rfl rfl (zK (v := .int .i64 p1) rfl) ?_
 obtain ⟨x7, e8, hF⟩ := zI hF
 refine yA rfl rfl (zX en35 rfl) (F_ref0_Ink_Int_w p0 p1 b1 v2 _ e8 _ _ _ (H.enter [0, 1] [2] (by decide) rfl)) ?_
 rintro _ w11 ⟨v9, rfl, G12⟩
 have H : Hd O _ w11 _ [.fz (.at 3 0 ((Fl.arr 20 (Fl.int .u64)).f yF)), .own (Rp.int .u8) v9 5 x7.out, .blk b1 [v9] 79] := H.back [0, 1] [2] rfl G12
 refine ⟨_, rfl, ?_⟩
 have hR := Option.some.inj hF
 subst hR
 refine (zJ (post0n rfl ?_))
 exact ⟨v9, rfl, H.pick [1, 2] (by decide)⟩
end Go.Proofs.YtnajnkghilemhaaGreatDoor.L
namespace Go.Proofs.YtnajnkghilemhaaGreatDoor.L
open Go.RowKit Go.OB Go.Lf
/- (*orangebox/orangeboxref0.Ink).Told -/
set_option maxHeartbeats 4000000 in
theorem F_ref0_Ink_Told_w (p0 : Option Orangeboxref0Ink) (v1 : Option Addr) (r : Str) (hF : F_ref0_Ink_Told p0 = some r) (O S : List Nat) (w : World) (H : Hd O w w S [.fz (.pt rOrangeboxref0Ink v1 p0)]) :
  Calls Tryz.prog 37 ([.pointer v1] : List Value).toArray w fun e w' => e = .returned (.string (bs r)) ∧ Hd O w w' S [] := by
 unfold F_ref0_Ink_Told at hF
 refine yD 8 Tryz.func37 rfl rfl rfl ?_
 refine zD fun K3 hK3 => ?_
 refine zC ?_
 refine zA rfl rfl (zG (v := .string (bs [])) rfl) ?_
 refine (zJ (zB (hK3 _ _ ?_)))
 refine zD fun K4 hK4 => ?_
 refine zC ?_
 refine zA rfl rfl (zK (v := .pointer v1) rfl) ?_
 obtain ⟨x5, e6, hF⟩ := zI hF
 obtain ⟨b7, o8, cs9, q10, h11, h12, h13, h14⟩ := ptf_some ((H.item (i := 0) rfl) : PtF _ _ _ _ _) e6
 obtain ⟨v15, rfl, h16⟩ := rOrangeboxref0Ink_open h13
 have H := H.fzs [.at b7 o8 _, .sl (Rp.int .u8) v15 x5.out] ⟨⟨h11, h12, h14⟩, h16, trivial⟩
 refine zA rfl rfl (yK (ad := ⟨b7, o8, none⟩) (congrArg Value.pointer q10)) ?_
 refine zA rfl rfl (fa79_0 rfl) ?_
 refine zA rfl rfl (zL one77 rfl (Cells.get (H.item (i := 1) rfl).2.2 (i := 0) rfl)) ?_
 obtain ⟨x19, e20, hF⟩ := zF hF
 refine zA rfl rfl (zM (Do_bytestr (xl := x5.out) u77 u5 u9 rfl (Sr.of_rd (H.item (i := 2) rfl))) (congrArg (fun s => Value.string (bs s)) e20)) ?_
 refine zA rfl rfl (zG (v := .string (bs x19)) rfl) ?_
 refine (zJ (zB (hK4 _ _ ?_)))
 have hR := Option.some.inj hF
 subst hR
 refine (yG (post1 (v1 := .string (bs x19)) rfl rfl ?_))
 exact ⟨rfl, H.pick [] (by decide)⟩
end Go.Proofs.YtnajnkghilemhaaGreatDoor.L
namespace Go.Proofs.YtnajnkghilemhaaGreatDoor.L
open Go.RowKit Go.OB Go.Lf
/- orangebox/orangeboxlaw6.inputs -/
set_option maxHeartbeats 4000000 in
theorem F_law6_inputs_w (p0 : List ToldT) (p1 : Int) (v1 : Value) (r : Str) (hF : F_law6_inputs p0 p1 = some r) (O S : List Nat) (w : World) (H : Hd O w w S [.fz (.sl rToldT v1 p0), .fz (.at 3 0 ((Fl.arr 20 (Fl.int .u64)).f yF))]) :
  Calls Tryz.prog 27 ([v1, .int .i64 p1] : List Value).toArray w fun e w' => e = .returned (.string (bs r)) ∧ Hd O w w' S [] := by
 unfold F_law6_inputs at hF
 refine yD 16 Tryz.func27 rfl rfl rfl ?_
 refine zD fun K4 hK4 => ?_
 refine zC ?_
 refine zA rfl rfl (zG (v := .string (bs [])) rfl) ?_
 refine (zJ (zB (hK4 _ _ ?_)))
 refine zD fun K5 hK5 => ?_
 refine zC ?_
 refine zA rfl rfl (xM (cs := [.slice none 0 0]) bz79) ?_
 refine yY rfl rfl (Lx_box (cs := [.slice none 0 0]) rfl H) ?_
 rintro _ w8 ⟨b6, rfl, H⟩
 refine zA rfl rfl (zG (v := .pointer (some ⟨b6, 0, none⟩)) rfl) ?_
 refine (zJ (zB (hK5 _ _ ?_)))
 refine zD fun K9 hK9 => ?_
 refine zC ?_
 refine zA rfl rfl (zK (v := .pointer (some ⟨b6, 0, none⟩)) rfl) ?_
 refine zA rfl rfl (zK (v := v1) rfl) ?_
 have H := own_nil H (Rp.int .u8) 5
 obtain ⟨x11, e12, hF⟩ := zI hF
 refine yA rfl rfl (zX en74 rfl) (F_ref0_Ink_Inputs_w (Orangeboxref0Ink.mk []) p0 b6 (.slice none 0 0) v1 _ e12 _ _ _ (H.enter [3, 2] [0, 1] (by decide) rfl)) ?_
 rintro _ w15 ⟨v13, rfl, G16⟩
 have H : Hd O _ w15 _ [.fz (.sl rToldT v1 p0), .fz (.at 3 0 ((Fl.arr 20 (Fl.int .u64)).f yF)), .own (Rp.int .u8) v13 5 x11.out, .blk b6 [v13] 79] := H.back [3, 2] [0, 1] rfl G16
 refine ⟨_, rfl, ?_⟩
 refine (zJ (zB (hK9 _ _ ?_)))
 refine zD fun K17 hK17 => ?_
 refine zC ?_
 refine zA rfl rfl (zK (v := .pointer (some ⟨b6, 0, none⟩)) rfl) ?_
 refine zA rfl rfl (zK (v := .int .i64 p1) rfl) ?_
 obtain ⟨x18, e19, hF⟩ := zI hF
 refine yA rfl rfl (zX en36 rfl) (F_ref0_Ink_Errno_w x11 p1 b6 v13 _ e19 _ _ _ (H.enter [2, 3] [1] (by decide) rfl)) ?_
 rintro _ w22 ⟨v20, rfl, G23⟩
 have H : Hd O _ w22 _ [.fz (.sl rToldT v1 p0), .fz (.at 3 0 ((Fl.arr 20 (Fl.int .u64)).f yF)), .own (Rp.int .u8) v20 5 x18.out, .blk b6 [v20] 79] := H.back [2, 3] [1] rfl G23
 refine ⟨_, rfl, ?_⟩
 refine (zJ (zB (hK17 _ _ ?_)))
 refine zD fun K24 hK24 => ?_
 refine zC ?_
 refine zA rfl rfl (zK (v := .pointer (some ⟨b6, 0, none⟩)) rfl) ?_
 have H25 := H
 have H := H.freezeB (i := 3) rfl
 have H := H.freeze (i := 2) rfl
 have H := H.fz (.pt rOrangeboxref0Ink (some ⟨b6, 0, none⟩) (some x18)) ⟨_, _, _, rfl, (H.item (i := 3) rfl).1, (H.item (i := 3) rfl).2.1, (rOrangeboxref0Ink_mk (x := x18) (H.item (i := 2) rfl)), (H.item (i := 3) rfl).2.2⟩
 obtain ⟨x27, e28, hF⟩ := zI hF
 refine yA rfl rfl (zX en37 rfl) (F_ref0_Ink_Told_w (some x18) (some ⟨b6, 0, none⟩) _ e28 _ _ _ (H.enter [] [4] (by decide) rfl)) ?_
 rintro _ w29 ⟨rfl, G30⟩
 have H := H25.step (G30.only : Only [] _ _)
 refine ⟨_, rfl, ?_⟩
 refine zA rfl rfl (zG (v := .string (bs x27)) rfl) ?_
 refine (zJ (zB (hK24 _ _ ?_)))
 have hR := Option.some.inj hF
 subst hR
 refine (yG (post1 (v1 := .string (bs x27)) rfl rfl ?_))
 exact ⟨rfl, H.pick [] (by decide)⟩
end Go.Proofs.YtnajnkghilemhaaGreatDoor.L
namespace Go.Proofs.YtnajnkghilemhaaGreatDoor.L
open Go.RowKit Go.OB Go.Lf
/- orangebox/orangeboxref5.solid -/
set_option maxHeartbeats 4000000 in
theorem F_ref5_solid_w (p0 : Int) (r : Bool) (hF : F_ref5_solid p0 = some r) (O S : List Nat) (w : World) (H : Hd O w w S []) :
  Calls Tryz.prog 165 ([.int .i64 p0] : List Value).toArray w fun e w' => e = .returned (.bool r) ∧ Hd O w w' S [] := by
 unfold F_ref5_solid at hF
 refine yD 5 Tryz.func165 rfl rfl rfl ?_
 refine zD fun K1 hK1 => ?_
 refine zC ?_
 refine zA rfl rfl (zG (v := .bool false) rfl) ?_
 refine (zJ (zB (hK1 _ _ ?_)))
 refine zD fun K2 hK2 => ?_
 refine zC ?_
 refine zA rfl rfl (zK (v := .int .i64 p0) rfl) ?_
 obtain ⟨x3, e4, hF⟩ := zF hF
 refine zA rfl rfl (zM (Do_geq (a := p0) (b := 3) rfl rfl) (congrArg Value.bool e4)) ?_
 refine zA rfl rfl (zG (v := .bool x3) rfl) ?_
 refine (zJ (zB (hK2 _ _ ?_)))
 have hR := Option.some.inj hF
 subst hR
 refine (yG (post1 (v1 := .bool x3) rfl rfl ?_))
 exact ⟨rfl, H.pick [] (by decide)⟩
end Go.Proofs.YtnajnkghilemhaaGreatDoor.L
namespace Go.Proofs.YtnajnkghilemhaaGreatDoor.L
open Go.RowKit Go.OB Go.Lf
/- orangebox/orangeboxref5.Held -/
set_option maxHeartbeats 4000000 in
theorem F_ref5_Held_w (p0 : Series) (p1 : Int) (p2 : Int) (v1 : Value) (r : Sample × Bool) (hF : F_ref5_Held p0 p1 p2 = some r) (O S : List Nat) (w : World) (H : Hd O w w S [.fz (.sl rSample v1 p0.Samples)]) :
  Calls Tryz.prog 127 ([.agg [.int .i64 p0.Den, v1].toArray, .int .i64 p1, .int .i64 p2] : List Value).toArray w fun e w' => e = .returned (.tuple #[.agg [.int .i64 r.1.At, .int .i64 r.1.N, .int .i64 r.1.Mark].toArray, .bool r.2]) ∧ Hd O w w' S [] := by
 unfold F_ref5_Held at hF
 refine yD 56 Tryz.func127 rfl rfl rfl ?_
 refine zD fun K3 hK3 => ?_
 refine zC ?_
 refine yY rfl rfl (Lx_box (cs := [.int .i64 p0.Den, v1]) rfl H) ?_
 rintro _ w6 ⟨b4, rfl, H⟩
 refine yY rfl rfl (xJ zero40 H) ?_
 rintro _ w9 ⟨b7, rfl, H⟩
 refine zA rfl rfl (zG (v := .bool false) rfl) ?_
 refine (zJ (zB (hK3 _ _ ?_)))
 refine zD fun K10 hK10 => ?_
 have H11 := H
 have H := H.rebase
 have H12 := H
 refine WP_mix0 H [0, 1, 2, 3, 4] [.pure, .read, .pure, .pure, .pure] mixed (by kernel_rfl) (by kernel_rfl) (by kernel_rfl) rfl ?_
 refine Mx.yB rfl rfl rfl (fun w' hw' => fa35_1 rfl) ?_
 refine Mx.xK oS rfl rfl rfl (fun w' hw' => zL one33 rfl (Cells.get (Blk.cells ((H.sees hw').item (i := 1) rfl)) (i := 1) rfl)) ?_
 obtain ⟨x13, e14, hF⟩ := zF hF
 obtain ⟨a15, c16, q17⟩ := SlF.len ((H.item (i := 0) rfl))
 refine Mx.yB rfl rfl rfl (fun w' hw' => zM (xA u33 q17) (congrArg (Value.int .i64) e14)) ?_
 refine Mx.yB rfl rfl rfl (fun w' hw' => zG (v := .int .i64 0) rfl) ?_
 refine Mx.yB rfl rfl rfl (fun w' hw' => zG (v := .int .i64 x13) rfl) ?_
 refine Mx.XL_nil fun w18 hS => ?_
 have H := H.sees hS
 have H := H11.rejoin H
 refine (zB (hK10 _ _ ?_))
 obtain ⟨g91, hF, hK93⟩ := zI hF
 refine yQ [8, 9, 10, 15, 16, 17, 18, 19, 20, 21, 22, 23, 24, 25, 26, 27, 28, 29, 30, 31, 32] (fun (g : Unit) => [(8, .int .i64 g91)]) (fun g wl => Hd O w wl S [.fz (.sl rSample v1 p0.Samples), .blk b4 [.int .i64 p0.Den, v1] 35, .blk b7 [.int .i64 0, .int .i64 0, .int .i64 0] 40]) ?_ ?_
 ·skip
  refine yM ?_
  unfold F_ref5_Held_L1 at hF
  obtain ⟨B162, n163, eB164, hF⟩ := yZ hF
  refine xN [8, 9, 10, 15, 16, 17, 18, 19, 20, 21, 22, 23, 24, 25, 26, 27, 28, 29, 30, 31, 32] (fun (g : Nat × Int × Int) => [(8, .int .i64 g.2.1), (9, .int .i64 g.2.2)]) (fun g wl => Hd O w wl S [.fz (.sl rSample v1 p0.Samples), .blk b4 [.int .i64 p0.Den, v1] 35, .blk b7 [.int .i64 0, .int .i64 0, .int .i64 0] 40] ∧ loopN B162 g.1 (g.2.1, g.2.2) = some g91) (fun g => g.1) (n163, 0, x13) (zQ rfl (zQ rfl zU)) ⟨H.pick [0, 1, 2] (by decide), hF⟩ ?_
  clear H hF
  rintro ⟨n163, g160, g161⟩ ρ w166 ⟨H, hF⟩
  obtain ⟨n167, rfl, hF⟩ := xH hF
  have hF := xG eB164 hF
  refine zD fun K172 hK172 => ?_
  refine zD fun K173 hK173 => ?_
  refine zC ?_
  refine zA rfl rfl (zK (v := .int .i64 g160) rfl) ?_
  refine zA rfl rfl (zK (v := .int .i64 g161) rfl) ?_
  obtain ⟨x174, e175, hF⟩ := zF hF
  refine zA rfl rfl (zM (xZ (a := g160) (b := g161) rfl rfl) (congrArg Value.bool e175)) ?_
  refine (zJ (zB (hK173 _ _ ?_)))
  refine yH (b := x174) rfl (fun c176 => ?_) (fun c176 => ?_)
  ·have hF := zV c176 hF
   refine (yI (zB (hK172 _ _ ?_)))
   refine yM ?_
   refine zD fun K177 hK177 => ?_
   refine zC ?_
   refine zA rfl rfl (zK (v := .int .i64 g160) rfl) ?_
   refine zA rfl rfl (zK (v := .int .i64 g161) rfl) ?_
   obtain ⟨x178, e179, hF⟩ := zF hF
   refine zA rfl rfl (wE (a := g160) (b := g161) rfl rfl e179) ?_
   obtain ⟨x180, e181, hF⟩ := zI hF
   refine zA rfl rfl (Do_quo' (j := x178) (q := 2) rfl rfl e181) ?_
   refine zA rfl rfl (zG (v := .int .i64 x180) rfl) ?_
   refine (zJ (zB (hK177 _ _ ?_)))
   refine zD fun K182 hK182 => ?_
   refine zC ?_
   refine zA rfl rfl (fa35_1 rfl) ?_
   refine zA rfl rfl (zL one33 rfl (Cells.get (Blk.cells (H.item (i := 1) rfl)) (i := 1) rfl)) ?_
   refine zA rfl rfl (zK (v := .int .i64 x180) rfl) ?_
   obtain ⟨x183, e184, hF⟩ := zI hF
   obtain ⟨b185, o186, c187, cs188, q189, h192, h190, h191, h193⟩ := rd_at (H.item (i := 0) rfl) e184
   obtain rfl := rSample_open h192
   have H := H.fz (.at b185 (o186 + x180.toNat * 3) _) ⟨h190, h191, h193⟩
   refine zA rfl rfl (xY u33 sz40 q189 rfl (yP e184).1 (yP e184).2.1 rfl rfl) ?_
   refine zA rfl rfl (fa40_0 rfl) ?_
   refine zA rfl rfl (zL one3 rfl (Cells.get (H.item (i := 3) rfl).2.2 (i := 0) rfl)) ?_
   refine zA rfl rfl (zK (v := .int .i64 p1) rfl) ?_
   obtain ⟨x195, e196, hF⟩ := zF hF
   refine zA rfl rfl (zM (Do_leq (a := x183.At) (b := p1) rfl rfl) (congrArg Value.bool e196)) ?_
   refine (zJ (zB (hK182 _ _ ?_)))
   refine yH (b := x195) rfl (fun c197 => ?_) (fun c197 => ?_)
   ·have hF := zV c197 hF
    refine zC ?_
    refine zA rfl rfl (zK (v := .int .i64 x180) rfl) ?_
    obtain ⟨x198, e199, hF⟩ := zF hF
    refine zA rfl rfl (wE (a := x180) (b := 1) rfl rfl e199) ?_
    refine zA rfl rfl (zG (v := .int .i64 x198) rfl) ?_
    refine (zJ (yX (zB (And.intro ?_ ?_))))
    ·repeat' (first | with_reducible exact zS | refine zZ rfl ?_ | refine zT rfl rfl ?_)
    exact ⟨(n167, x198, g161), (zQ rfl (zQ rfl zU)), ⟨H.pick [0, 1, 2] (by decide), hF⟩, Nat.lt_succ_self _⟩
   have hF := zW c197 hF
   refine zC ?_
   refine zA rfl rfl (zK (v := .int .i64 x180) rfl) ?_
   refine zA rfl rfl (zG (v := .int .i64 x180) rfl) ?_
   refine (zJ (yX (zB (And.intro ?_ ?_))))
   ·repeat' (first | with_reducible exact zS | refine zZ rfl ?_ | refine zT rfl rfl ?_)
   exact ⟨(n167, g160, x180), (zQ rfl (zQ rfl zU)), ⟨H.pick [0, 1, 2] (by decide), hF⟩, Nat.lt_succ_self _⟩
  have hF := zW c176 hF
  have hR := Option.some.inj hF
  subst hR
  refine (xW (yU (yU (xE (zB (And.intro ?_ ?_))))))
  ·repeat' (first | with_reducible exact zS | refine zZ rfl ?_ | refine zT rfl rfl ?_)
  exact ⟨(), (zQ rfl zU), H.pick [0, 1, 2] (by decide)⟩
 rintro _ ρ w92 H
 have hF := hK93
 refine zD fun K206 hK206 => ?_
 refine zD fun K207 hK207 => ?_
 refine zC ?_
 refine zA rfl rfl (zK (v := .int .i64 g91) rfl) ?_
 obtain ⟨x208, e209, hF⟩ := zF hF
 refine zA rfl rfl (zM (xC (a := g91) (b := 0) rfl rfl) (congrArg Value.bool e209)) ?_
 refine (zJ (zB (hK207 _ _ ?_)))
 refine yH (b := x208) rfl (fun c210 => ?_) (fun c210 => ?_)
 ·have hF := zV c210 hF
  refine zD fun K211 hK211 => ?_
  refine zC ?_
  refine zA rfl rfl (xM (cs := [.int .i64 0, .int .i64 0, .int .i64 0]) bz40) ?_
  refine yV rfl (yN (vs := [.int .i64 0, .int .i64 0, .int .i64 0]) H 2 rfl sz40 rfl rfl rfl ⟨rfl, rfl, rfl, trivial⟩ rfl) ?_
  rintro w212 H
  refine zA rfl rfl (zG (v := .bool false) rfl) ?_
  refine (zJ (zB (hK211 _ _ ?_)))
  have hR := Option.some.inj hF
  subst hR
  refine (yG (yC (postc1 (v1 := .bool false) rfl rfl (yL agg40 sz40 rfl (Blk.cells (H.item (i := 2) rfl))) rfl ?_)))
  exact ⟨rfl, H.pick [] (by decide)⟩
 have hF := zW c210 hF
 refine (yI (zB (hK206 _ _ ?_)))
 refine zD fun K213 hK213 => ?_
 refine zC ?_
 refine zA rfl rfl (fa35_1 rfl) ?_
 refine zA rfl rfl (zL one33 rfl (Cells.get (Blk.cells (H.item (i := 1) rfl)) (i := 1) rfl)) ?_
 refine zA rfl rfl (zK (v := .int .i64 g91) rfl) ?_
 obtain ⟨x214, e215, hF⟩ := zF hF
 refine zA rfl rfl (Do_sub (a := g91) (b := 1) rfl rfl e215) ?_
 obtain ⟨x216, e217, hF⟩ := zI hF
 obtain ⟨b218, o219, c220, cs221, q222, h225, h223, h224, h226⟩ := rd_at (H.item (i := 0) rfl) e217
 obtain rfl := rSample_open h225
 have H := H.fz (.at b218 (o219 + x214.toNat * 3) _) ⟨h223, h224, h226⟩
 refine zA rfl rfl (xY u33 sz40 q222 rfl (yP e217).1 (yP e217).2.1 rfl rfl) ?_
 refine zA rfl rfl (zM (yT (cs := [.int .i64 x216.At, .int .i64 x216.N, .int .i64 x216.Mark]) agg40 rfl sz40 rfl (H.item (i := 3) rfl).2.2) rfl) ?_
 refine yY rfl rfl (xJ zero40 H) ?_
 rintro _ w230 ⟨b228, rfl, H⟩
 refine yV rfl (yN (vs := [.int .i64 x216.At, .int .i64 x216.N, .int .i64 x216.Mark]) H 4 rfl sz40 rfl rfl rfl ⟨rfl, rfl, rfl, trivial⟩ rfl) ?_
 rintro w231 H
 refine (zJ (zB (hK213 _ _ ?_)))
 refine zD fun K250 hK250 => ?_
 obtain ⟨g263, hF, hK265⟩ := zI hF
 refine yQ [42, 43, 44, 45, 46, 47, 48, 49, 50, 51, 52, 53] (fun (g : Unit) => [(53, .bool g263)]) (fun g wl => Hd O w wl S [.blk b7 [.int .i64 0, .int .i64 0, .int .i64 0] 40, .blk b228 [.int .i64 x216.At, .int .i64 x216.N, .int .i64 x216.Mark] 40]) ?_ ?_
 ·skip
  refine zC ?_
  refine zA rfl rfl (fa40_2 rfl) ?_
  refine zA rfl rfl (zL one3 rfl (Cells.get (Blk.cells (H.item (i := 4) rfl)) (i := 2) rfl)) ?_
  have H266 := H
  obtain ⟨x267, e268, hF⟩ := zI hF
  refine yA rfl rfl (zX en165 rfl) (F_ref5_solid_w x216.Mark _ e268 _ _ _ (H.enter [] [] (by decide) rfl)) ?_
  rintro _ w269 ⟨rfl, G270⟩
  have H := H266.step (G270.only : Only [] _ _)
  refine ⟨_, rfl, ?_⟩
  obtain ⟨x271, e272, hF⟩ := zF hF
  refine zA rfl rfl (zM (yS (p := x267) rfl) (congrArg Value.bool e272)) ?_
  refine yE (b := x271) rfl rfl rfl (fun c273 => ?_) (fun c273 => ?_)
  ·have hF := zV c273 hF
   refine zH rfl rfl ?_
   refine zH rfl rfl ?_
   refine zH rfl rfl ?_
   refine zH rfl rfl ?_
   refine zH rfl rfl ?_
   refine zH rfl rfl ?_
   refine zA rfl rfl (zY (v := .bool true) rfl rfl) ?_
   have hR := Option.some.inj hF
   subst hR
   refine (zJ (zB (And.intro ?_ ?_)))
   ·repeat' (first | with_reducible exact zS | refine zZ rfl ?_ | refine zT rfl rfl ?_)
   exact ⟨(), (zQ rfl zU), H.pick [2, 4] (by decide)⟩
  have hF := zW c273 hF
  refine zA rfl rfl (zK (v := .int .i64 p1) rfl) ?_
  refine zA rfl rfl (fa40_0 rfl) ?_
  refine zA rfl rfl (zL one3 rfl (Cells.get (Blk.cells (H.item (i := 4) rfl)) (i := 0) rfl)) ?_
  obtain ⟨x274, e275, hF⟩ := zF hF
  refine zA rfl rfl (Do_sub (a := p1) (b := x216.At) rfl rfl e275) ?_
  refine zA rfl rfl (zK (v := .int .i64 p2) rfl) ?_
  obtain ⟨x276, e277, hF⟩ := zF hF
  refine zA rfl rfl (zM (Do_gtr (a := x274) (b := p2) rfl rfl) (congrArg Value.bool e277)) ?_
  refine zA rfl rfl (zN (v := .bool x276) rfl rfl) ?_
  have hR := Option.some.inj hF
  subst hR
  refine (zJ (zB (And.intro ?_ ?_)))
  ·repeat' (first | with_reducible exact zS | refine zZ rfl ?_ | refine zT rfl rfl ?_)
  exact ⟨(), (zQ rfl zU), H.pick [2, 4] (by decide)⟩
 rintro _ ρ w264 H
 have hF := hK265
 refine yH (b := g263) rfl (fun c278 => ?_) (fun c278 => ?_)
 ·have hF := zV c278 hF
  refine zD fun K279 hK279 => ?_
  refine zC ?_
  refine zA rfl rfl (xM (cs := [.int .i64 0, .int .i64 0, .int .i64 0]) bz40) ?_
  refine yV rfl (yN (vs := [.int .i64 0, .int .i64 0, .int .i64 0]) H 0 rfl sz40 rfl rfl rfl ⟨rfl, rfl, rfl, trivial⟩ rfl) ?_
  rintro w280 H
  refine zA rfl rfl (zG (v := .bool false) rfl) ?_
  refine (zJ (zB (hK279 _ _ ?_)))
  have hR := Option.some.inj hF
  subst hR
  refine (yG (yC (postc1 (v1 := .bool false) rfl rfl (yL agg40 sz40 rfl (Blk.cells (H.item (i := 0) rfl))) rfl ?_)))
  exact ⟨rfl, H.pick [] (by decide)⟩
 have hF := zW c278 hF
 refine (yI (zB (hK250 _ _ ?_)))
 refine zD fun K281 hK281 => ?_
 refine zC ?_
 refine zA rfl rfl (zM (yT (cs := [.int .i64 x216.At, .int .i64 x216.N, .int .i64 x216.Mark]) agg40 rfl sz40 rfl (Blk.cells (H.item (i := 1) rfl))) rfl) ?_
 refine yV rfl (yN (vs := [.int .i64 x216.At, .int .i64 x216.N, .int .i64 x216.Mark]) H 0 rfl sz40 rfl rfl rfl ⟨rfl, rfl, rfl, trivial⟩ rfl) ?_
 rintro w282 H
 refine zA rfl rfl (zG (v := .bool true) rfl) ?_
 refine (zJ (zB (hK281 _ _ ?_)))
 have hR := Option.some.inj hF
 subst hR
 refine (yG (postc1 (v1 := .bool true) rfl rfl (yL agg40 sz40 rfl (Blk.cells (H.item (i := 0) rfl))) rfl ?_))
 exact ⟨rfl, H.pick [] (by decide)⟩
end Go.Proofs.YtnajnkghilemhaaGreatDoor.L
namespace Go.Proofs.YtnajnkghilemhaaGreatDoor.L
open Go.RowKit Go.OB Go.Lf
/- orangebox/orangeboxref6.inputs -/
set_option maxHeartbeats 4000000 in
theorem F_ref6_inputs_w (p0 : List Track) (p1 : Int) (v1 : Value) (r : (List ToldT)) (hF : F_ref6_inputs p0 p1 = some r) (O S : List Nat) (w : World) (H : Hd O w w S [.fz (.sl rTrack v1 p0)]) :
  Calls Tryz.prog 76 ([v1, .int .i64 p1] : List Value).toArray w fun e w' => ∃ u3, e = .returned (u3) ∧ Hd O w w' S [.own rToldT u3 173 r] := by
 unfold F_ref6_inputs at hF
 refine yD 41 Tryz.func76 rfl rfl rfl ?_
 refine zD fun K4 hK4 => ?_
 refine zC ?_
 refine zA rfl rfl (zG (v := .slice none 0 0) rfl) ?_
 refine (zJ (zB (hK4 _ _ ?_)))
 refine zD fun K5 hK5 => ?_
 refine zC ?_
 refine zA rfl rfl (zG (v := .slice none 0 0) rfl) ?_
 refine (zJ (zB (hK5 _ _ ?_)))
 obtain ⟨g293, hF, hK296⟩ := zI hF
 refine yQ [5, 6, 7, 8, 9, 10, 11, 12, 13, 14, 15, 16, 17, 18, 19, 20, 21, 22, 23, 24, 25, 26, 27, 28, 29, 30, 31, 32, 33, 34, 35, 36, 37, 38, 39] (fun (g : Value) => [(5, g)]) (fun g wl => Hd O w wl S [.own rToldT g 173 g293]) ?_ ?_
 ·skip
  refine zD fun K297 hK297 => ?_
  refine zC ?_
  refine zA rfl rfl (zG (v := .int .i64 0) rfl) ?_
  refine (zJ (zB (hK297 _ _ ?_)))
  refine yM ?_
  have H := own_nil H rToldT 173
  unfold F_ref6_inputs_L1 at hF
  obtain ⟨B581, n582, eB583, hF⟩ := yZ hF
  refine xN [5, 6, 7, 8, 9, 10, 11, 12, 13, 14, 15, 16, 17, 18, 19, 20, 21, 22, 23, 24, 25, 26, 27, 28, 29, 30, 31, 32, 33, 34, 35, 36, 37, 38, 39] (fun (g : Nat × (List ToldT) × Int × Value) => [(5, g.2.2.2), (6, .int .i64 g.2.2.1)]) (fun g wl => Hd O w wl S [.own rToldT g.2.2.2 173 g.2.1, .fz (.sl rTrack v1 p0)] ∧ loopN B581 g.1 (g.2.1, g.2.2.1) = some g293) (fun g => g.1) (n582, [], 0, .slice none 0 0) (zQ rfl (zQ rfl zU)) ⟨H.pick [1, 0] (by decide), hF⟩ ?_
  clear H hF
  rintro ⟨n582, g577, g579, v578⟩ ρ w585 ⟨H, hF⟩
  obtain ⟨n586, rfl, hF⟩ := xH hF
  have hF := xG eB583 hF
  refine zD fun K596 hK596 => ?_
  refine zD fun K597 hK597 => ?_
  refine zC ?_
  refine zA rfl rfl (zK (v := .int .i64 g579) rfl) ?_
  refine zA rfl rfl (zK (v := v1) rfl) ?_
  obtain ⟨x598, e599, hF⟩ := zF hF
  obtain ⟨a600, c601, q602⟩ := SlF.len ((H.item (i := 1) rfl))
  refine zA rfl rfl (zM (xA u27 q602) (congrArg (Value.int .i64) e599)) ?_
  obtain ⟨x603, e604, hF⟩ := zF hF
  refine zA rfl rfl (zM (xZ (a := g579) (b := x598) rfl rfl) (congrArg Value.bool e604)) ?_
  refine (zJ (zB (hK597 _ _ ?_)))
  refine yH (b := x603) rfl (fun c605 => ?_) (fun c605 => ?_)
  ·have hF := zV c605 hF
   refine (yI (zB (hK596 _ _ ?_)))
   refine zD fun K663 hK663 => ?_
   refine yM ?_
   refine zD fun K664 hK664 => ?_
   have H665 := H
   have H := H.rebase
   have H666 := H
   refine WP_mix0 H [0, 1, 2, 3, 4, 5, 6, 7, 8, 9, 10, 11, 12, 13, 14, 15, 16, 17, 18, 19, 20] [.pure, .pure, .pure, .pure, .read, .pure, .pure, .pure, .pure, .pure, .pure, .pure, .pure, .read, .read, .pure, .pure, .pure, .new, .eff, .pure] mixed (by kernel_rfl) (by kernel_rfl) (by kernel_rfl) rfl ?_
   refine Mx.yB rfl rfl rfl (fun w' hw' => zK (v := v1) rfl) ?_
   refine Mx.yB rfl rfl rfl (fun w' hw' => zK (v := .int .i64 g579) rfl) ?_
   obtain ⟨x667, e668, hF⟩ := zI hF
   obtain ⟨b669, o670, c671, cs672, q673, h676, h674, h675, h677⟩ := rd_at (H.item (i := 1) rfl) e668
   obtain ⟨v678, rfl, h679⟩ := rTrack_open h676
   have H := H.fzs [.at b669 (o670 + g579.toNat * 4) _, .sl rSample v678 x667.Series.Samples] ⟨⟨h674, h675, h677⟩, h679, trivial⟩
   refine Mx.yB rfl rfl rfl (fun w' hw' => xY u27 sz37 q673 rfl (yP e668).1 (yP e668).2.1 rfl rfl) ?_
   refine Mx.yB rfl rfl rfl (fun w' hw' => fa37_1 rfl) ?_
   refine Mx.xK oS rfl rfl rfl (fun w' hw' => zM (yT (cs := [.int .i64 x667.Series.Den, v678]) agg35 rfl sz35 rfl (Cells.drop ((H.sees hw').item (i := 2) rfl).2.2 1 2)) rfl) ?_
   refine Mx.yB rfl rfl rfl (fun w' hw' => zK (v := .int .i64 p1) rfl) ?_
   obtain ⟨x682, e683, hF⟩ := zF hF
   refine Mx.yB rfl rfl rfl (fun w' hw' => Do_mul (a := 64) (b := p1) rfl rfl e683) ?_
   obtain ⟨x684, e685, hF⟩ := zF hF
   refine Mx.yB rfl rfl rfl (fun w' hw' => wE (a := x682) (b := 64) rfl rfl e685) ?_
   obtain ⟨x686, e687, hF⟩ := zF hF
   refine Mx.yB rfl rfl rfl (fun w' hw' => Do_sub (a := x684) (b := 1) rfl rfl e687) ?_
   refine Mx.yB rfl rfl rfl (fun w' hw' => zK (v := v1) rfl) ?_
   refine Mx.yB rfl rfl rfl (fun w' hw' => zK (v := .int .i64 g579) rfl) ?_
   obtain ⟨x688, e689, hF⟩ := zI hF
   obtain ⟨b690, o691, c692, cs693, q694, h697, h695, h696, h698⟩ := rd_at (H.item (i := 1) rfl) e689
   obtain ⟨v699, rfl, h700⟩ := rTrack_open h697
   have H := H.fzs [.at b690 (o691 + g579.toNat * 4) _, .sl rSample v699 x688.Series.Samples] ⟨⟨h695, h696, h698⟩, h700, trivial⟩
   refine Mx.yB rfl rfl rfl (fun w' hw' => xY u27 sz37 q694 rfl (yP e689).1 (yP e689).2.1 rfl rfl) ?_
   refine Mx.yB rfl rfl rfl (fun w' hw' => fa37_2 rfl) ?_
   refine Mx.xK oS rfl rfl rfl (fun w' hw' => zL one3 rfl (Cells.get ((H.sees hw').item (i := 4) rfl).2.2 (i := 3) rfl)) ?_
   have H703 := H
   obtain ⟨⟨x704, x705⟩, e706, hF⟩ := zI hF
   refine Mx.XL_call oS rfl rfl rfl (v := .tuple #[.agg [.int .i64 x704.At, .int .i64 x704.N, .int .i64 x704.Mark].toArray, .bool x705]) (fun w' hw' => zX en127 rfl) (fun w' hw' => by have q := call_read (F_ref5_Held_w x667.Series x686 x688.Long v678 _ e706 _ _ _ ((H.sees hw').enter [] [3] (by decide) rfl)); exact q) ?_
   have H := H703
   refine Mx.yB rfl rfl rfl (fun w' hw' => zK (v := .tuple #[.agg [.int .i64 x704.At, .int .i64 x704.N, .int .i64 x704.Mark].toArray, .bool x705]) rfl) ?_
   refine Mx.yB rfl rfl rfl (fun w' hw' => xQ (v := .agg [.int .i64 x704.At, .int .i64 x704.N, .int .i64 x704.Mark].toArray) rfl rfl) ?_
   refine Mx.yB rfl rfl rfl (fun w' hw' => xQ (v := .bool x705) rfl rfl) ?_
   refine Mx.XL_exN oS rfl rfl rfl (fun w' hw' => Ls_of (xJ zero40 (H.sees hw')) (Ys_alloc zero40)) ?_
   rintro w' _ w709 hw' ⟨b707, rfl, H⟩
   refine Mx.XL_exU oS rfl rfl (fun w' hw' => yN (vs := [.int .i64 x704.At, .int .i64 x704.N, .int .i64 x704.Mark]) (H.sees hw') 6 rfl sz40 rfl rfl rfl ⟨rfl, rfl, rfl, trivial⟩ rfl) ?_
   rintro w' w710 hw' H
   refine ⟨H.only, ?_⟩
   refine Mx.yB rfl rfl rfl (fun w' hw' => zG (v := .bool x705) rfl) ?_
   refine Mx.XL_nil fun w711 hS => ?_
   have H := H.sees hS
   have H := H665.rejoin H
   refine (zB (hK664 _ _ ?_))
   refine zC ?_
   refine zA rfl rfl (zK (v := v578) rfl) ?_
   refine zA rfl rfl (fa40_1 rfl) ?_
   refine zA rfl rfl (zL one3 rfl (Cells.get (Blk.cells (H.item (i := 6) rfl)) (i := 1) rfl)) ?_
   refine zA rfl rfl (zK (v := .bool x705) rfl) ?_
   refine zA rfl rfl (xM (cs := [.int .i64 x704.N, .bool x705]) (bt173_0_1 _ _)) ?_
   obtain ⟨x712, e713, hF⟩ := zF hF
   subst e713
   refine yY rfl rfl (Lx_bs (r := rToldT) (xl := [ToldT.mk x704.N x705]) (cs := [.int .i64 x704.N, .bool x705]) u65 el173 (by decide) (by decide) rfl (wF (vs := [.agg [.int .i64 x704.N, .bool x705].toArray]) (by decide) rfl rfl ⟨rfl, trivial⟩ rfl) H ⟨[.int .i64 x704.N, .bool x705], [], rfl, (rToldT_mk (x := ToldT.mk x704.N x705)), rfl⟩) ?_
   rintro v715 w716 H
   obtain ⟨x717, e718, hF⟩ := zI hF
   refine yY rfl rfl (Lx_app H (i := 0) rfl u65 el173 rfl rfl (Sr.of_own (H.item (i := 7) rfl)) e718) ?_
   rintro v719 w720 H
   refine zA rfl rfl (zG (v := v719) rfl) ?_
   refine (zJ (yX (zB (hK663 _ _ ?_))))
   refine zC ?_
   refine zA rfl rfl (zK (v := .int .i64 g579) rfl) ?_
   obtain ⟨x721, e722, hF⟩ := zF hF
   refine zA rfl rfl (wE (a := g579) (b := 1) rfl rfl e722) ?_
   refine zA rfl rfl (zG (v := .int .i64 x721) rfl) ?_
   refine (zJ (zB (And.intro ?_ ?_)))
   ·repeat' (first | with_reducible exact zS | refine zZ rfl ?_ | refine zT rfl rfl ?_)
   exact ⟨(n586, x717, x721, v719), (zQ rfl (zQ rfl zU)), ⟨H.pick [0, 1] (by decide), hF⟩, Nat.lt_succ_self _⟩
  have hF := zW c605 hF
  have hR := Option.some.inj hF
  subst hR
  refine (xW (yU (yU (xE (zB (And.intro ?_ ?_))))))
  ·repeat' (first | with_reducible exact zS | refine zZ rfl ?_ | refine zT rfl rfl ?_)
  exact ⟨v578, (zQ rfl zU), H.pick [0] (by decide)⟩
 rintro v294 ρ w295 H
 have hF := hK296
 refine zD fun K723 hK723 => ?_
 refine zC ?_
 refine zA rfl rfl (zK (v := v294) rfl) ?_
 refine zA rfl rfl (zG (v := v294) rfl) ?_
 refine (zJ (zB (hK723 _ _ ?_)))
 have hR := Option.some.inj hF
 subst hR
 refine (yG (post1 (v1 := v294) rfl rfl ?_))
 exact ⟨v294, rfl, H.pick [0] (by decide)⟩
end Go.Proofs.YtnajnkghilemhaaGreatDoor.L
namespace Go.Proofs.YtnajnkghilemhaaGreatDoor.L
open Go.RowKit Go.OB Go.Lf
/- orangebox/orangeboxref6.Inputs -/
set_option maxHeartbeats 4000000 in
theorem F_ref6_Inputs_w (p0 : List Track) (p1 : Int) (v1 : Value) (r : (List ToldT) × Int) (hF : F_ref6_Inputs p0 p1 = some r) (O S : List Nat) (w : World) (H : Hd O w w S [.fz (.sl rTrack v1 p0)]) :
  Calls Tryz.prog 29 ([v1, .int .i64 p1] : List Value).toArray w fun e w' => ∃ u3, e = .returned (.tuple #[u3, .int .i64 r.2]) ∧ Hd O w w' S [.own rToldT u3 173 r.1] := by
 unfold F_ref6_Inputs at hF
 refine yD 17 Tryz.func29 rfl rfl rfl ?_
 refine zD fun K4 hK4 => ?_
 refine zC ?_
 refine zA rfl rfl (zG (v := .slice none 0 0) rfl) ?_
 refine zA rfl rfl (zG (v := .int .i64 0) rfl) ?_
 refine (zJ (zB (hK4 _ _ ?_)))
 refine zD fun K16 hK16 => ?_
 refine zD fun K17 hK17 => ?_
 refine zC ?_
 refine zA rfl rfl (zK (v := v1) rfl) ?_
 have H18 := H
 obtain ⟨x19, e20, hF⟩ := zI hF
 refine yA rfl rfl (zX en26 rfl) (F_ref6_CheckTracks_w p0 v1 _ e20 _ _ _ (H.enter [] [0] (by decide) rfl)) ?_
 rintro _ w21 ⟨rfl, G22⟩
 have H := H18.step (G22.only : Only [] _ _)
 refine ⟨_, rfl, ?_⟩
 refine zA rfl rfl (zG (v := .int .i64 x19) rfl) ?_
 refine (zJ (zB (hK17 _ _ ?_)))
 refine zD fun K23 hK23 => ?_
 refine zC ?_
 refine zA rfl rfl (zK (v := .int .i64 x19) rfl) ?_
 obtain ⟨x24, e25, hF⟩ := zF hF
 refine zA rfl rfl (zM (xO (a := x19) (b := 0) rfl rfl) (congrArg Value.bool e25)) ?_
 refine (zJ (zB (hK23 _ _ ?_)))
 refine yH (b := x24) rfl (fun c26 => ?_) (fun c26 => ?_)
 ·have hF := zV c26 hF
  refine zD fun K27 hK27 => ?_
  refine zC ?_
  refine zA rfl rfl (zK (v := .int .i64 x19) rfl) ?_
  refine zA rfl rfl (zG (v := .slice none 0 0) rfl) ?_
  refine zA rfl rfl (zG (v := .int .i64 x19) rfl) ?_
  refine (zJ (zB (hK27 _ _ ?_)))
  have H := own_nil H rToldT 173
  have hR := Option.some.inj hF
  subst hR
  refine (yG (yC (post2 (v1 := .slice none 0 0) (v2 := .int .i64 x19) rfl rfl rfl ?_)))
  exact ⟨.slice none 0 0, rfl, H.pick [1] (by decide)⟩
 have hF := zW c26 hF
 refine (yI (zB (hK16 _ _ ?_)))
 refine zD fun K37 hK37 => ?_
 refine zD fun K38 hK38 => ?_
 refine zC ?_
 refine zA rfl rfl (zK (v := .int .i64 p1) rfl) ?_
 have H39 := H
 obtain ⟨x40, e41, hF⟩ := zI hF
 refine yA rfl rfl (zX en63 rfl) (F_ref6_outside_w p1 0 4194303 _ e41 _ _ _ (H.enter [] [] (by decide) rfl)) ?_
 rintro _ w42 ⟨rfl, G43⟩
 have H := H39.step (G43.only : Only [] _ _)
 refine ⟨_, rfl, ?_⟩
 refine (zJ (zB (hK38 _ _ ?_)))
 refine yH (b := x40) rfl (fun c44 => ?_) (fun c44 => ?_)
 ·have hF := zV c44 hF
  refine zD fun K45 hK45 => ?_
  refine zC ?_
  refine zA rfl rfl (zG (v := .slice none 0 0) rfl) ?_
  refine zA rfl rfl (zG (v := .int .i64 9) rfl) ?_
  refine (zJ (zB (hK45 _ _ ?_)))
  have H := own_nil H rToldT 173
  have hR := Option.some.inj hF
  subst hR
  refine (yG (yC (post2 (v1 := .slice none 0 0) (v2 := .int .i64 9) rfl rfl rfl ?_)))
  exact ⟨.slice none 0 0, rfl, H.pick [1] (by decide)⟩
 have hF := zW c44 hF
 refine (yI (zB (hK37 _ _ ?_)))
 refine zD fun K47 hK47 => ?_
 refine zC ?_
 refine zA rfl rfl (zK (v := v1) rfl) ?_
 refine zA rfl rfl (zK (v := .int .i64 p1) rfl) ?_
 obtain ⟨x48, e49, hF⟩ := zI hF
 refine yA rfl rfl (zX en76 rfl) (F_ref6_inputs_w p0 p1 v1 _ e49 _ _ _ (H.enter [] [0] (by decide) rfl)) ?_
 rintro _ w52 ⟨v50, rfl, G53⟩
 have H := H.back1 [0] rfl G53
 refine ⟨_, rfl, ?_⟩
 refine zA rfl rfl (zG (v := v50) rfl) ?_
 refine zA rfl rfl (zG (v := .int .i64 0) rfl) ?_
 refine (zJ (zB (hK47 _ _ ?_)))
 have hR := Option.some.inj hF
 subst hR
 refine (yG (post2 (v1 := v50) (v2 := .int .i64 0) rfl rfl rfl ?_))
 exact ⟨v50, rfl, H.pick [1] (by decide)⟩
end Go.Proofs.YtnajnkghilemhaaGreatDoor.L
namespace Go.Proofs.YtnajnkghilemhaaGreatDoor.L
open Go.RowKit Go.OB Go.Lf
/- (*orangebox/event.reader).fail -/
set_option maxHeartbeats 4000000 in
theorem F_event_reader_fail_w (p0 : Option EventReader) (p1 : Int) (v1 : Option Addr) (r : Unit) (hF : F_event_reader_fail p0 p1 = some r) (O S : List Nat) (w : World) (H : Hd O w w S [.fz (.pt rEventReader v1 p0)]) :
  Calls Tryz.prog 92 ([.pointer v1, .int .i64 p1] : List Value).toArray w fun e w' => e = .returned (.tuple #[]) ∧ Hd O w w' S [] := by
 unfold F_event_reader_fail at hF
 refine yD 12 Tryz.func92 rfl rfl rfl ?_
 cases hF
end Go.Proofs.YtnajnkghilemhaaGreatDoor.L
namespace Go.Proofs.YtnajnkghilemhaaGreatDoor.L
open Go.RowKit Go.OB Go.Lf
/- internal/stringslite.IndexByte -/
set_option maxHeartbeats 4000000 in
theorem F_internal_stringslite_IndexByte_w (p0 : Str) (p1 : Int) (r : Int) (hF : F_internal_stringslite_IndexByte p0 p1 = some r) (O S : List Nat) (w : World) (H : Hd O w w S []) :
  Calls Tryz.prog 202 ([.string (bs p0), .int .u8 p1] : List Value).toArray w fun e w' => e = .returned (.int .i64 r) ∧ Hd O w w' S [] := by
 unfold F_internal_stringslite_IndexByte at hF
 refine yD 8 Tryz.func202 rfl rfl rfl ?_
 refine zD fun K1 hK1 => ?_
 refine zC ?_
 refine zA rfl rfl (zG (v := .int .i64 0) rfl) ?_
 refine (zJ (zB (hK1 _ _ ?_)))
 refine zD fun K2 hK2 => ?_
 refine zC ?_
 refine zA rfl rfl (zK (v := .string (bs p0)) rfl) ?_
 refine zA rfl rfl (zK (v := .int .u8 p1) rfl) ?_
 obtain ⟨x3, e4, hF⟩ := zI hF
 refine zA rfl rfl (E.X_IndexByte_do e4 rfl) ?_
 refine zA rfl rfl (zG (v := .int .i64 x3) rfl) ?_
 refine (zJ (zB (hK2 _ _ ?_)))
 have hR := Option.some.inj hF
 subst hR
 refine (yG (post1 (v1 := .int .i64 x3) rfl rfl ?_))
 exact ⟨rfl, H.pick [] (by decide)⟩
end Go.Proofs.YtnajnkghilemhaaGreatDoor.L
namespace Go.Proofs.YtnajnkghilemhaaGreatDoor.L
open Go.RowKit Go.OB Go.Lf
/- strings.IndexByte -/
set_option maxHeartbeats 4000000 in
theorem F_strings_IndexByte_w (p0 : Str) (p1 : Int) (r : Int) (hF : F_strings_IndexByte p0 p1 = some r) (O S : List Nat) (w : World) (H : Hd O w w S []) :
  Calls Tryz.prog 174 ([.string (bs p0), .int .u8 p1] : List Value).toArray w fun e w' => e = .returned (.int .i64 r) ∧ Hd O w w' S [] := by
 unfold F_strings_IndexByte at hF
 refine yD 8 Tryz.func174 rfl rfl rfl ?_
 refine zD fun K1 hK1 => ?_
 refine zC ?_
 refine zA rfl rfl (zG (v := .int .i64 0) rfl) ?_
 refine (zJ (zB (hK1 _ _ ?_)))
 refine zD fun K2 hK2 => ?_
 refine zC ?_
 refine zA rfl rfl (zK (v := .string (bs p0)) rfl) ?_
 refine zA rfl rfl (zK (v := .int .u8 p1) rfl) ?_
 have H3 := H
 obtain ⟨x4, e5, hF⟩ := zI hF
 refine yA rfl rfl (zX en202 rfl) (F_internal_stringslite_IndexByte_w p0 p1 _ e5 _ _ _ (H.enter [] [] (by decide) rfl)) ?_
 rintro _ w6 ⟨rfl, G7⟩
 have H := H3.step (G7.only : Only [] _ _)
 refine ⟨_, rfl, ?_⟩
 refine zA rfl rfl (zG (v := .int .i64 x4) rfl) ?_
 refine (zJ (zB (hK2 _ _ ?_)))
 have hR := Option.some.inj hF
 subst hR
 refine (yG (post1 (v1 := .int .i64 x4) rfl rfl ?_))
 exact ⟨rfl, H.pick [] (by decide)⟩
end Go.Proofs.YtnajnkghilemhaaGreatDoor.L
namespace Go.Proofs.YtnajnkghilemhaaGreatDoor.L
open Go.RowKit Go.OB Go.Lf
/- (*orangebox/event.reader).blanks -/
set_option maxHeartbeats 4000000 in
set_option maxRecDepth 100000 in
theorem F_event_reader_blanks_w (p0 : EventReader) (b1 : Nat) (v2 : Value) (v3 : Value) (v4 : Value) (r : EventReader) (hF : F_event_reader_blanks p0 = some r) (O S : List Nat) (w : World) (H : Hd O w w S [.own Rp.str v2 9 p0.r.Phases, .own rMoveT v3 102 p0.r.Moves, .own rRule v4 106 p0.r.Rules, .blk b1 [.string (bs p0.text), .int .i64 p0.at_, .int .i64 p0.now.kind, .int .i64 p0.now.at_, .int .i64 p0.now.n, .string (bs p0.now.text), v2, v3, v4] 88]) :
  Calls Tryz.prog 137 ([.pointer (some ⟨b1, 0, none⟩)] : List Value).toArray w fun e w' => ∃ u9 u10 u11, e = .returned (.tuple #[]) ∧ Hd O w w' S [.own Rp.str u9 9 r.r.Phases, .own rMoveT u10 102 r.r.Moves, .own rRule u11 106 r.r.Rules, .blk b1 [.string (bs r.text), .int .i64 r.at_, .int .i64 r.now.kind, .int .i64 r.now.at_, .int .i64 r.now.n, .string (bs r.now.text), u9, u10, u11] 88] := by
 unfold F_event_reader_blanks at hF
 refine yD 66 Tryz.func137 rfl rfl rfl ?_
 refine yM ?_
 unfold F_event_reader_blanks_L1 at hF
 obtain ⟨B166, n167, eB168, hF⟩ := yZ hF
 refine xN [2, 3, 4, 5, 6, 7, 8, 9, 10, 11, 12, 13, 14, 15, 16, 17, 18, 19, 20, 21, 22, 23, 24, 25, 26, 27, 28, 29, 30, 31, 32, 33, 34, 35, 36, 37, 38, 39, 40, 41, 42, 43, 44, 45, 46, 47, 48, 49, 50, 51, 52, 53, 54, 55, 56, 57, 58, 59, 60, 61, 62, 63, 64, 65] (fun (g : Nat × Int) => []) (fun g wl => Hd O w wl S [.own Rp.str v2 9 p0.r.Phases, .own rMoveT v3 102 p0.r.Moves, .own rRule v4 106 p0.r.Rules, .blk b1 [.string (bs p0.text), .int .i64 g.2, .int .i64 p0.now.kind, .int .i64 p0.now.at_, .int .i64 p0.now.n, .string (bs p0.now.text), v2, v3, v4] 88] ∧ loopN B166 g.1 g.2 = some r) (fun g => g.1) (n167, p0.at_) zU ⟨H.pick [0, 1, 2, 3] (by decide), hF⟩ ?_
 clear H hF
 rintro ⟨n167, g165⟩ ρ w170 ⟨H, hF⟩
 obtain ⟨n171, rfl, hF⟩ := xH hF
 have hF := xG eB168 hF
 refine zD fun K181 hK181 => ?_
 refine zD fun K182 hK182 => ?_
 have H183 := H
 have H := H.rebase
 have H184 := H
 refine WP_mix0 H [0, 1, 2, 3, 4, 5, 6, 7, 8, 9] [.pure, .pure, .pure, .read, .pure, .pure, .pure, .read, .pure, .pure] mixed (by kernel_rfl) (by kernel_rfl) (by kernel_rfl) rfl ?_
 refine Mx.yB rfl rfl rfl (fun w' hw' => zK (v := .pointer (some ⟨b1, 0, none⟩)) rfl) ?_
 refine Mx.yB rfl rfl rfl (fun w' hw' => yK rfl) ?_
 refine Mx.yB rfl rfl rfl (fun w' hw' => fa88_1 rfl) ?_
 refine Mx.xK oS rfl rfl rfl (fun w' hw' => zL one3 rfl (Cells.get (Blk.cells ((H.sees hw').item (i := 3) rfl)) (i := 1) rfl)) ?_
 refine Mx.yB rfl rfl rfl (fun w' hw' => zK (v := .pointer (some ⟨b1, 0, none⟩)) rfl) ?_
 refine Mx.yB rfl rfl rfl (fun w' hw' => yK rfl) ?_
 refine Mx.yB rfl rfl rfl (fun w' hw' => fa88_0 rfl) ?_
 refine Mx.xK oS rfl rfl rfl (fun w' hw' => zL one9 rfl (Cells.get (Blk.cells ((H.sees hw').item (i := 3) rfl)) (i := 0) rfl)) ?_
 obtain ⟨x185, e186, hF⟩ := zF hF
 refine Mx.yB rfl rfl rfl (fun w' hw' => zM (Do_slen (s1 := p0.text) u9 rfl) (congrArg (Value.int .i64) e186)) ?_
 obtain ⟨x187, e188, hF⟩ := zF hF
 refine Mx.yB rfl rfl rfl (fun w' hw' => zM (xZ (a := g165) (b := x185) rfl rfl) (congrArg Value.bool e188)) ?_
 refine Mx.XL_nil fun w189 hS => ?_
 have H := H.sees hS
 have H := H183.rejoin H
 refine (zB (hK182 _ _ ?_))
 refine yH (b := x187) rfl (fun c190 => ?_) (fun c190 => ?_)
 ·have hF := zV c190 hF
  refine (yI (zB (hK181 _ _ ?_)))
  refine yM ?_
  refine zD fun K191 hK191 => ?_
  have H192 := H
  have H := H.rebase
  have H193 := H
  refine WP_mix0 H [0, 1, 2, 3, 4, 5, 6, 7, 8] [.pure, .pure, .pure, .read, .pure, .pure, .pure, .read, .pure] mixed (by kernel_rfl) (by kernel_rfl) (by kernel_rfl) rfl ?_
  refine Mx.yB rfl rfl rfl (fun w' hw' => zK (v := .pointer (some ⟨b1, 0, none⟩)) rfl) ?_
  refine Mx.yB rfl rfl rfl (fun w' hw' => yK rfl) ?_
  refine Mx.yB rfl rfl rfl (fun w' hw' => fa88_0 rfl) ?_
  refine Mx.xK oS rfl rfl rfl (fun w' hw' => zL one9 rfl (Cells.get (Blk.cells ((H.sees hw').item (i := 3) rfl)) (i := 0) rfl)) ?_
  refine Mx.yB rfl rfl rfl (fun w' hw' => zK (v := .pointer (some ⟨b1, 0, none⟩)) rfl) ?_
  refine Mx.yB rfl rfl rfl (fun w' hw' => yK rfl) ?_
  refine Mx.yB rfl rfl rfl (fun w' hw' => fa88_1 rfl) ?_
  refine Mx.xK oS rfl rfl rfl (fun w' hw' => zL one3 rfl (Cells.get (Blk.cells ((H.sees hw').item (i := 3) rfl)) (i := 1) rfl)) ?_
  obtain ⟨x194, e195, hF⟩ := zI hF
  refine Mx.yB rfl rfl rfl (fun w' hw' => Do_sidx (s1 := p0.text) (q := g165) u9 rfl rfl e195) ?_
  refine Mx.XL_nil fun w196 hS => ?_
  have H := H.sees hS
  have H := H192.rejoin H
  refine (zB (hK191 _ _ ?_))
  refine yM ?_
  obtain ⟨g211, hF, hK213⟩ := zI hF
  refine yQ [22, 23, 24, 25, 26] (fun (g : Unit) => [(22, .bool g211)]) (fun g wl => Hd O w wl S [.own Rp.str v2 9 p0.r.Phases, .own rMoveT v3 102 p0.r.Moves, .own rRule v4 106 p0.r.Rules, .blk b1 [.string (bs p0.text), .int .i64 g165, .int .i64 p0.now.kind, .int .i64 p0.now.at_, .int .i64 p0.now.n, .string (bs p0.now.text), v2, v3, v4] 88]) ?_ ?_
  ·skip
   refine zD fun K214 hK214 => ?_
   refine zC ?_
   obtain ⟨x215, e216, hF⟩ := zF hF
   refine zA rfl rfl (zM (xC (a := x194) (b := 32) rfl rfl) (congrArg Value.bool e216)) ?_
   refine zA rfl rfl (zG (v := .bool x215) rfl) ?_
   refine (zJ (zB (hK214 _ _ ?_)))
   refine yH (b := x215) rfl (fun c217 => ?_) (fun c217 => ?_)
   ·have hF := zV c217 hF
    have hR := Option.some.inj hF
    subst hR
    refine (yI (zB (And.intro ?_ ?_)))
    ·repeat' (first | with_reducible exact zS | refine zZ rfl ?_ | refine zT rfl rfl ?_)
    exact ⟨(), (zQ rfl zU), H.pick [0, 1, 2, 3] (by decide)⟩
   have hF := zW c217 hF
   refine zD fun K218 hK218 => ?_
   refine zC ?_
   obtain ⟨x219, e220, hF⟩ := zF hF
   refine zA rfl rfl (zM (xC (a := x194) (b := 9) rfl rfl) (congrArg Value.bool e220)) ?_
   refine zA rfl rfl (zG (v := .bool x219) rfl) ?_
   refine (zJ (zB (hK218 _ _ ?_)))
   refine yH (b := x219) rfl (fun c221 => ?_) (fun c221 => ?_)
   ·have hF := zV c221 hF
    have hR := Option.some.inj hF
    subst hR
    refine (yI (zB (And.intro ?_ ?_)))
    ·repeat' (first | with_reducible exact zS | refine zZ rfl ?_ | refine zT rfl rfl ?_)
    exact ⟨(), (zQ rfl zU), H.pick [0, 1, 2, 3] (by decide)⟩
   have hF := zW c221 hF
   refine zD fun K222 hK222 => ?_
   refine zC ?_
   obtain ⟨x223, e224, hF⟩ := zF hF
   refine zA rfl rfl (zM (xC (a := x194) (b := 10) rfl rfl) (congrArg Value.bool e224)) ?_
   refine zA rfl rfl (zG (v := .bool x223) rfl) ?_
   refine (zJ (zB (hK222 _ _ ?_)))
   refine yH (b := x223) rfl (fun c225 => ?_) (fun c225 => ?_)
   ·have hF := zV c225 hF
    have hR := Option.some.inj hF
    subst hR
    refine (yI (zB (And.intro ?_ ?_)))
    ·repeat' (first | with_reducible exact zS | refine zZ rfl ?_ | refine zT rfl rfl ?_)
    exact ⟨(), (zQ rfl zU), H.pick [0, 1, 2, 3] (by decide)⟩
   have hF := zW c225 hF
   refine zC ?_
   obtain ⟨x226, e227, hF⟩ := zF hF
   refine zA rfl rfl (zM (xC (a := x194) (b := 13) rfl rfl) (congrArg Value.bool e227)) ?_
   refine zA rfl rfl (zG (v := .bool x226) rfl) ?_
   have hR := Option.some.inj hF
   subst hR
   refine (zJ (zB (And.intro ?_ ?_)))
   ·repeat' (first | with_reducible exact zS | refine zZ rfl ?_ | refine zT rfl rfl ?_)
   exact ⟨(), (zQ rfl zU), H.pick [0, 1, 2, 3] (by decide)⟩
  rintro _ ρ w212 H
  have hF := hK213
  refine yH (b := g211) rfl (fun c228 => ?_) (fun c228 => ?_)
  ·have hF := zV c228 hF
   refine zC ?_
   refine zA rfl rfl (zK (v := .pointer (some ⟨b1, 0, none⟩)) rfl) ?_
   refine zA rfl rfl (yK rfl) ?_
   refine zA rfl rfl (fa88_1 rfl) ?_
   refine zA rfl rfl (zL one3 rfl (Cells.get (Blk.cells (H.item (i := 3) rfl)) (i := 1) rfl)) ?_
   obtain ⟨x229, e230, hF⟩ := zF hF
   refine zA rfl rfl (wE (a := g165) (b := 1) rfl rfl e230) ?_
   refine zA rfl rfl (yK rfl) ?_
   refine zA rfl rfl (fa88_1 rfl) ?_
   refine yV rfl (xX H 3 rfl sz3 rfl (v := .int .i64 x229) rfl rfl rfl) ?_
   rintro w231 H
   refine (zJ (yX (yX (zB (And.intro ?_ ?_)))))
   ·repeat' (first | with_reducible exact zS | refine zZ rfl ?_ | refine zT rfl rfl ?_)
   exact ⟨(n171, x229), zU, ⟨H.pick [0, 1, 2, 3] (by decide), hF⟩, Nat.lt_succ_self _⟩
  have hF := zW c228 hF
  refine zD fun K232 hK232 => ?_
  refine zC ?_
  obtain ⟨x233, e234, hF⟩ := zF hF
  refine zA rfl rfl (zM (xC (a := x194) (b := 35) rfl rfl) (congrArg Value.bool e234)) ?_
  refine zA rfl rfl (zG (v := .bool x233) rfl) ?_
  refine (zJ (zB (hK232 _ _ ?_)))
  refine yH (b := x233) rfl (fun c235 => ?_) (fun c235 => ?_)
  ·have hF := zV c235 hF
   refine zD fun K236 hK236 => ?_
   have H237 := H
   have H := H.rebase
   have H238 := H
   refine WP_mix0 H [0, 1, 2, 3, 4, 5, 6, 7, 8, 9, 10] [.pure, .pure, .pure, .read, .pure, .pure, .pure, .read, .pure, .fcall, .pure] mixed (by kernel_rfl) (by kernel_rfl) (by kernel_rfl) rfl ?_
   refine Mx.yB rfl rfl rfl (fun w' hw' => zK (v := .pointer (some ⟨b1, 0, none⟩)) rfl) ?_
   refine Mx.yB rfl rfl rfl (fun w' hw' => yK rfl) ?_
   refine Mx.yB rfl rfl rfl (fun w' hw' => fa88_0 rfl) ?_
   refine Mx.xK oS rfl rfl rfl (fun w' hw' => zL one9 rfl (Cells.get (Blk.cells ((H.sees hw').item (i := 3) rfl)) (i := 0) rfl)) ?_
   refine Mx.yB rfl rfl rfl (fun w' hw' => zK (v := .pointer (some ⟨b1, 0, none⟩)) rfl) ?_
   refine Mx.yB rfl rfl rfl (fun w' hw' => yK rfl) ?_
   refine Mx.yB rfl rfl rfl (fun w' hw' => fa88_1 rfl) ?_
   refine Mx.xK oS rfl rfl rfl (fun w' hw' => zL one3 rfl (Cells.get (Blk.cells ((H.sees hw').item (i := 3) rfl)) (i := 1) rfl)) ?_
   obtain ⟨x239, e240, hF⟩ := zI hF
   refine Mx.yB rfl rfl rfl (fun w' hw' => Do_cut_l (s1 := p0.text) u9 rfl rfl e240) ?_
   have H241 := H
   obtain ⟨x242, e243, hF⟩ := zI hF
   refine Mx.XL_fcall oS rfl rfl rfl (v := .int .i64 x242) (fun w' hw' => zX en174 rfl) (fun w' hw' => call_read (F_strings_IndexByte_w x239 10 _ e243 _ _ _ (Hd.fresh0 w'))) ?_
   have H := H241
   refine Mx.yB rfl rfl rfl (fun w' hw' => zG (v := .int .i64 x242) rfl) ?_
   refine Mx.XL_nil fun w244 hS => ?_
   have H := H.sees hS
   have H := H237.rejoin H
   refine (zB (hK236 _ _ ?_))
   obtain ⟨g256, hF, hK258⟩ := zI hF
   refine yQ [2, 46, 47, 48, 49, 50, 51, 52, 53, 54, 55, 56, 57] (fun (g : Unit) => [(2, .int .i64 g256)]) (fun g wl => Hd O w wl S [.own Rp.str v2 9 p0.r.Phases, .own rMoveT v3 102 p0.r.Moves, .own rRule v4 106 p0.r.Rules, .blk b1 [.string (bs p0.text), .int .i64 g165, .int .i64 p0.now.kind, .int .i64 p0.now.at_, .int .i64 p0.now.n, .string (bs p0.now.text), v2, v3, v4] 88]) ?_ ?_
   ·skip
    refine zD fun K259 hK259 => ?_
    refine zC ?_
    refine zA rfl rfl (zK (v := .int .i64 x242) rfl) ?_
    obtain ⟨x260, e261, hF⟩ := zF hF
    refine zA rfl rfl (zM (xZ (a := x242) (b := 0) rfl rfl) (congrArg Value.bool e261)) ?_
    refine (zJ (zB (hK259 _ _ ?_)))
    refine yH (b := x260) rfl (fun c262 => ?_) (fun c262 => ?_)
    ·have hF := zV c262 hF
     have H263 := H
     have H := H.rebase
     have H264 := H
     refine WP_mix0 H [0, 1, 2, 3, 4, 5, 6, 7, 8, 9, 10] [.pure, .pure, .pure, .read, .pure, .pure, .pure, .pure, .read, .pure, .pure] mixed (by kernel_rfl) (by kernel_rfl) (by kernel_rfl) rfl ?_
     refine Mx.yB rfl rfl rfl (fun w' hw' => zK (v := .pointer (some ⟨b1, 0, none⟩)) rfl) ?_
     refine Mx.yB rfl rfl rfl (fun w' hw' => yK rfl) ?_
     refine Mx.yB rfl rfl rfl (fun w' hw' => fa88_0 rfl) ?_
     refine Mx.xK oS rfl rfl rfl (fun w' hw' => zL one9 rfl (Cells.get (Blk.cells ((H.sees hw').item (i := 3) rfl)) (i := 0) rfl)) ?_
     obtain ⟨x265, e266, hF⟩ := zF hF
     refine Mx.yB rfl rfl rfl (fun w' hw' => zM (Do_slen (s1 := p0.text) u9 rfl) (congrArg (Value.int .i64) e266)) ?_
     refine Mx.yB rfl rfl rfl (fun w' hw' => zK (v := .pointer (some ⟨b1, 0, none⟩)) rfl) ?_
     refine Mx.yB rfl rfl rfl (fun w' hw' => yK rfl) ?_
     refine Mx.yB rfl rfl rfl (fun w' hw' => fa88_1 rfl) ?_
     refine Mx.xK oS rfl rfl rfl (fun w' hw' => zL one3 rfl (Cells.get (Blk.cells ((H.sees hw').item (i := 3) rfl)) (i := 1) rfl)) ?_
     obtain ⟨x267, e268, hF⟩ := zF hF
     refine Mx.yB rfl rfl rfl (fun w' hw' => Do_sub (a := x265) (b := g165) rfl rfl e268) ?_
     refine Mx.yB rfl rfl rfl (fun w' hw' => zG (v := .int .i64 x267) rfl) ?_
     refine Mx.XL_nil fun w269 hS => ?_
     have H := H.sees hS
     have H := H263.rejoin H
     have hR := Option.some.inj hF
     subst hR
     refine (zB (And.intro ?_ ?_))
     ·repeat' (first | with_reducible exact zS | refine zZ rfl ?_ | refine zT rfl rfl ?_)
     exact ⟨(), (zQ rfl zU), H.pick [0, 1, 2, 3] (by decide)⟩
    have hF := zW c262 hF
    have hR := Option.some.inj hF
    subst hR
    refine (yI (zB (And.intro ?_ ?_)))
    ·repeat' (first | with_reducible exact zS | refine zZ rfl ?_ | refine zT rfl rfl ?_)
    exact ⟨(), (zQ rfl zU), H.pick [0, 1, 2, 3] (by decide)⟩
   rintro _ ρ w257 H
   have hF := hK258
   refine zC ?_
   refine zA rfl rfl (zK (v := .pointer (some ⟨b1, 0, none⟩)) rfl) ?_
   refine zA rfl rfl (yK rfl) ?_
   refine zA rfl rfl (fa88_1 rfl) ?_
   refine zA rfl rfl (zL one3 rfl (Cells.get (Blk.cells (H.item (i := 3) rfl)) (i := 1) rfl)) ?_
   refine zA rfl rfl (zK (v := .int .i64 g256) rfl) ?_
   obtain ⟨x270, e271, hF⟩ := zF hF
   refine zA rfl rfl (wE (a := g165) (b := g256) rfl rfl e271) ?_
   refine zA rfl rfl (yK rfl) ?_
   refine zA rfl rfl (fa88_1 rfl) ?_
   refine yV rfl (xX H 3 rfl sz3 rfl (v := .int .i64 x270) rfl rfl rfl) ?_
   rintro w272 H
   refine (zJ (yX (yX (zB (And.intro ?_ ?_)))))
   ·repeat' (first | with_reducible exact zS | refine zZ rfl ?_ | refine zT rfl rfl ?_)
   exact ⟨(n171, x270), zU, ⟨H.pick [0, 1, 2, 3] (by decide), hF⟩, Nat.lt_succ_self _⟩
  have hF := zW c235 hF
  have hR := Option.some.inj hF
  subst hR
  refine (yG (yJ (yJ (yC (yJ (post0 rfl ?_))))))
  exact ⟨v2, v3, v4, rfl, H.pick [0, 1, 2, 3] (by decide)⟩
 have hF := zW c190 hF
 have hR := Option.some.inj hF
 subst hR
 refine (xW (yU (yU (xE (post0n rfl ?_)))))
 exact ⟨v2, v3, v4, rfl, H.pick [0, 1, 2, 3] (by decide)⟩
end Go.Proofs.YtnajnkghilemhaaGreatDoor.L
namespace Go.Proofs.YtnajnkghilemhaaGreatDoor.L
open Go.RowKit Go.OB Go.Lf
/- internal/stringslite.HasPrefix -/
set_option maxHeartbeats 4000000 in
theorem F_internal_stringslite_HasPrefix_w (p0 : Str) (p1 : Str) (r : Bool) (hF : F_internal_stringslite_HasPrefix p0 p1 = some r) (O S : List Nat) (w : World) (H : Hd O w w S []) :
  Calls Tryz.prog 177 ([.string (bs p0), .string (bs p1)] : List Value).toArray w fun e w' => e = .returned (.bool r) ∧ Hd O w w' S [] := by
 unfold F_internal_stringslite_HasPrefix at hF
 refine yD 18 Tryz.func177 rfl rfl rfl ?_
 refine zD fun K1 hK1 => ?_
 refine zC ?_
 refine zA rfl rfl (zG (v := .bool false) rfl) ?_
 refine (zJ (zB (hK1 _ _ ?_)))
 obtain ⟨g15, hF, hK17⟩ := zI hF
 refine yQ [4, 5, 6, 7, 8, 9, 10, 11, 12, 13, 14, 15, 16, 17] (fun (g : Unit) => [(4, .bool g15)]) (fun g wl => Hd O w wl S []) ?_ ?_
 ·skip
  refine zC ?_
  refine zA rfl rfl (zK (v := .string (bs p0)) rfl) ?_
  obtain ⟨x18, e19, hF⟩ := zF hF
  refine zA rfl rfl (zM (Do_slen (s1 := p0) u9 rfl) (congrArg (Value.int .i64) e19)) ?_
  refine zA rfl rfl (zK (v := .string (bs p1)) rfl) ?_
  obtain ⟨x20, e21, hF⟩ := zF hF
  refine zA rfl rfl (zM (Do_slen (s1 := p1) u9 rfl) (congrArg (Value.int .i64) e21)) ?_
  obtain ⟨x22, e23, hF⟩ := zF hF
  refine zA rfl rfl (zM (Do_geq (a := x18) (b := x20) rfl rfl) (congrArg Value.bool e23)) ?_
  refine yE (b := x22) rfl rfl rfl (fun c24 => ?_) (fun c24 => ?_)
  ·have hF := zV c24 hF
   refine zA rfl rfl (zK (v := .string (bs p0)) rfl) ?_
   refine zA rfl rfl (zK (v := .string (bs p1)) rfl) ?_
   obtain ⟨x25, e26, hF⟩ := zF hF
   refine zA rfl rfl (zM (Do_slen (s1 := p1) u9 rfl) (congrArg (Value.int .i64) e26)) ?_
   obtain ⟨x27, e28, hF⟩ := zI hF
   refine zA rfl rfl (Do_cut_h (s1 := p0) u9 rfl rfl e28) ?_
   refine zA rfl rfl (zK (v := .string (bs p1)) rfl) ?_
   obtain ⟨x29, e30, hF⟩ := zF hF
   refine zA rfl rfl (zM (xU (s1 := x27) (s2 := p1) rfl rfl) (congrArg Value.bool e30)) ?_
   refine zA rfl rfl (zY (v := .bool x29) rfl rfl) ?_
   refine zA rfl rfl (zG (v := .bool x29) rfl) ?_
   have hR := Option.some.inj hF
   subst hR
   refine (zJ (zB (And.intro ?_ ?_)))
   ·repeat' (first | with_reducible exact zS | refine zZ rfl ?_ | refine zT rfl rfl ?_)
   exact ⟨(), (zQ rfl zU), H.pick [] (by decide)⟩
  have hF := zW c24 hF
  refine zH rfl rfl ?_
  refine zH rfl rfl ?_
  refine zH rfl rfl ?_
  refine zH rfl rfl ?_
  refine zH rfl rfl ?_
  refine zH rfl rfl ?_
  refine zA rfl rfl (zN (v := .bool false) rfl rfl) ?_
  refine zA rfl rfl (zG (v := .bool false) rfl) ?_
  have hR := Option.some.inj hF
  subst hR
  refine (zJ (zB (And.intro ?_ ?_)))
  ·repeat' (first | with_reducible exact zS | refine zZ rfl ?_ | refine zT rfl rfl ?_)
  exact ⟨(), (zQ rfl zU), H.pick [] (by decide)⟩
 rintro _ ρ w16 H
 have hF := hK17
 have hR := Option.some.inj hF
 subst hR
 refine (yG (post1 (v1 := .bool g15) rfl rfl ?_))
 exact ⟨rfl, H.pick [] (by decide)⟩
end Go.Proofs.YtnajnkghilemhaaGreatDoor.L
namespace Go.Proofs.YtnajnkghilemhaaGreatDoor.L
open Go.RowKit Go.OB Go.Lf
/- internal/stringslite.TrimPrefix -/
set_option maxHeartbeats 4000000 in
theorem F_internal_stringslite_TrimPrefix_w (p0 : Str) (p1 : Str) (r : Str) (hF : F_internal_stringslite_TrimPrefix p0 p1 = some r) (O S : List Nat) (w : World) (H : Hd O w w S []) :
  Calls Tryz.prog 205 ([.string (bs p0), .string (bs p1)] : List Value).toArray w fun e w' => e = .returned (.string (bs r)) ∧ Hd O w w' S [] := by
 unfold F_internal_stringslite_TrimPrefix at hF
 refine yD 13 Tryz.func205 rfl rfl rfl ?_
 refine zD fun K1 hK1 => ?_
 refine zC ?_
 refine zA rfl rfl (zG (v := .string (bs [])) rfl) ?_
 refine (zJ (zB (hK1 _ _ ?_)))
 refine zD fun K14 hK14 => ?_
 refine zD fun K15 hK15 => ?_
 refine zC ?_
 refine zA rfl rfl (zK (v := .string (bs p0)) rfl) ?_
 refine zA rfl rfl (zK (v := .string (bs p1)) rfl) ?_
 have H16 := H
 obtain ⟨x17, e18, hF⟩ := zI hF
 refine yA rfl rfl (zX en177 rfl) (F_internal_stringslite_HasPrefix_w p0 p1 _ e18 _ _ _ (H.enter [] [] (by decide) rfl)) ?_
 rintro _ w19 ⟨rfl, G20⟩
 have H := H16.step (G20.only : Only [] _ _)
 refine ⟨_, rfl, ?_⟩
 refine (zJ (zB (hK15 _ _ ?_)))
 refine yH (b := x17) rfl (fun c21 => ?_) (fun c21 => ?_)
 ·have hF := zV c21 hF
  refine zD fun K22 hK22 => ?_
  refine zC ?_
  refine zA rfl rfl (zK (v := .string (bs p0)) rfl) ?_
  refine zA rfl rfl (zK (v := .string (bs p1)) rfl) ?_
  obtain ⟨x23, e24, hF⟩ := zF hF
  refine zA rfl rfl (zM (Do_slen (s1 := p1) u9 rfl) (congrArg (Value.int .i64) e24)) ?_
  obtain ⟨x25, e26, hF⟩ := zI hF
  refine zA rfl rfl (Do_cut_l (s1 := p0) u9 rfl rfl e26) ?_
  refine zA rfl rfl (zG (v := .string (bs x25)) rfl) ?_
  refine (zJ (zB (hK22 _ _ ?_)))
  have hR := Option.some.inj hF
  subst hR
  refine (yG (yC (post1 (v1 := .string (bs x25)) rfl rfl ?_)))
  exact ⟨rfl, H.pick [] (by decide)⟩
 have hF := zW c21 hF
 refine (yI (zB (hK14 _ _ ?_)))
 refine zD fun K27 hK27 => ?_
 refine zC ?_
 refine zA rfl rfl (zK (v := .string (bs p0)) rfl) ?_
 refine zA rfl rfl (zG (v := .string (bs p0)) rfl) ?_
 refine (zJ (zB (hK27 _ _ ?_)))
 have hR := Option.some.inj hF
 subst hR
 refine (yG (post1 (v1 := .string (bs p0)) rfl rfl ?_))
 exact ⟨rfl, H.pick [] (by decide)⟩
end Go.Proofs.YtnajnkghilemhaaGreatDoor.L
namespace Go.Proofs.YtnajnkghilemhaaGreatDoor.L
open Go.RowKit Go.OB Go.Lf
/- strings.TrimPrefix -/
set_option maxHeartbeats 4000000 in
theorem F_strings_TrimPrefix_w (p0 : Str) (p1 : Str) (r : Str) (hF : F_strings_TrimPrefix p0 p1 = some r) (O S : List Nat) (w : World) (H : Hd O w w S []) :
  Calls Tryz.prog 176 ([.string (bs p0), .string (bs p1)] : List Value).toArray w fun e w' => e = .returned (.string (bs r)) ∧ Hd O w w' S [] := by
 unfold F_strings_TrimPrefix at hF
 refine yD 8 Tryz.func176 rfl rfl rfl ?_
 refine zD fun K1 hK1 => ?_
 refine zC ?_
 refine zA rfl rfl (zG (v := .string (bs [])) rfl) ?_
 refine (zJ (zB (hK1 _ _ ?_)))
 refine zD fun K2 hK2 => ?_
 refine zC ?_
 refine zA rfl rfl (zK (v := .string (bs p0)) rfl) ?_
 refine zA rfl rfl (zK (v := .string (bs p1)) rfl) ?_
 have H3 := H
 obtain ⟨x4, e5, hF⟩ := zI hF
 refine yA rfl rfl (zX en205 rfl) (F_internal_stringslite_TrimPrefix_w p0 p1 _ e5 _ _ _ (H.enter [] [] (by decide) rfl)) ?_
 rintro _ w6 ⟨rfl, G7⟩
 have H := H3.step (G7.only : Only [] _ _)
 refine ⟨_, rfl, ?_⟩
 refine zA rfl rfl (zG (v := .string (bs x4)) rfl) ?_
 refine (zJ (zB (hK2 _ _ ?_)))
 have hR := Option.some.inj hF
 subst hR
 refine (yG (post1 (v1 := .string (bs x4)) rfl rfl ?_))
 exact ⟨rfl, H.pick [] (by decide)⟩
end Go.Proofs.YtnajnkghilemhaaGreatDoor.L
