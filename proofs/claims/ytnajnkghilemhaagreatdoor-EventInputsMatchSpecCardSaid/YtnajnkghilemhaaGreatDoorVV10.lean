/- Walks: what each function computes, for every argument; no condition but those that stand in the statements. -/
import Derived.Test.YtnajnkghilemhaaGreatDoorVV0
import Derived.Test.YtnajnkghilemhaaGreatDoorVV4
import Derived.Test.YtnajnkghilemhaaGreatDoorVV9
import Derived.Test.YtnajnkghilemhaaGreatDoorVV6
namespace Go.Proofs.YtnajnkghilemhaaGreatDoor.L
open Go.RowKit Go.OB Go.Lf
/- orangebox/event.Check -/
set_option maxHeartbeats 4000000 in
set_option maxRecDepth 100000 in
theorem F_event_Check_w (p0 : Rules) (v1 : Value) (v2 : Value) (v3 : Value) (r : Int) (hF : F_event_Check p0 = some r) (O S : List Nat) (w : World) (H : Hd O w w S [.fz (.sl Rp.str v1 p0.Phases), .fz (.sl rMoveT v2 p0.Moves), .fz (.sl rRule v3 p0.Rules)]) :
  Calls Tryz.prog 40 ([.agg [v1, v2, v3].toArray] : List Value).toArray w fun e w' => e = .returned (.int .i64 r) ∧ Hd O w w' S [] := by
 unfold F_event_Check at hF
 refine yD 71 Tryz.func40 rfl rfl rfl ?_
 refine zD fun K7 hK7 => ?_
 refine zC ?_
 refine yY rfl rfl (Lx_box (cs := [v1, v2, v3]) rfl H) ?_
 rintro _ w10 ⟨b8, rfl, H⟩
 refine zA rfl rfl (zG (v := .int .i64 0) rfl) ?_
 refine (zJ (zB (hK7 _ _ ?_)))
 refine zD fun K39 hK39 => ?_
 obtain ⟨g63, hF, hK65⟩ := zI hF
 refine yQ [10, 11, 12, 13, 14, 15, 16, 17, 18, 19, 20, 21, 22, 23, 24, 25] (fun (g : Unit) => [(25, .bool g63)]) (fun g wl => Hd O w wl S [.fz (.sl Rp.str v1 p0.Phases), .fz (.sl rMoveT v2 p0.Moves), .fz (.sl rRule v3 p0.Rules), .blk b8 [v1, v2, v3] 26]) ?_ ?_
 ·skip
  refine zC ?_
  refine zA rfl rfl (fa26_0 rfl) ?_
  refine zA rfl rfl (zL one22 rfl (Cells.get (Blk.cells (H.item (i := 3) rfl)) (i := 0) rfl)) ?_
  obtain ⟨x66, e67, hF⟩ := zF hF
  obtain ⟨a68, c69, q70⟩ := SlF.len ((H.item (i := 0) rfl))
  refine zA rfl rfl (zM (xA u22 q70) (congrArg (Value.int .i64) e67)) ?_
  obtain ⟨x71, e72, hF⟩ := zF hF
  refine zA rfl rfl (zM (Do_gtr (a := x66) (b := 20) rfl rfl) (congrArg Value.bool e72)) ?_
  refine yE (b := x71) rfl rfl rfl (fun c73 => ?_) (fun c73 => ?_)
  ·have hF := zV c73 hF
   refine zH rfl rfl ?_
   refine zH rfl rfl ?_
   refine zH rfl rfl ?_
   refine zH rfl rfl ?_
   refine zA rfl rfl (zY (v := .bool true) rfl rfl) ?_
   refine zA rfl rfl (zK (v := .bool true) rfl) ?_
   refine zH rfl rfl ?_
   refine zH rfl rfl ?_
   refine zH rfl rfl ?_
   refine zH rfl rfl ?_
   refine zA rfl rfl (zY (v := .bool true) rfl rfl) ?_
   have hR := Option.some.inj hF
   subst hR
   refine (zJ (zB (And.intro ?_ ?_)))
   ·repeat' (first | with_reducible exact zS | refine zZ rfl ?_ | refine zT rfl rfl ?_)
   exact ⟨(), (zQ rfl zU), H.pick [0, 1, 2, 3] (by decide)⟩
  have hF := zW c73 hF
  refine zA rfl rfl (fa26_1 rfl) ?_
  refine zA rfl rfl (zL one23 rfl (Cells.get (Blk.cells (H.item (i := 3) rfl)) (i := 1) rfl)) ?_
  obtain ⟨x74, e75, hF⟩ := zF hF
  obtain ⟨a76, c77, q78⟩ := SlF.len ((H.item (i := 1) rfl))
  refine zA rfl rfl (zM (xA u23 q78) (congrArg (Value.int .i64) e75)) ?_
  obtain ⟨x79, e80, hF⟩ := zF hF
  refine zA rfl rfl (zM (Do_gtr (a := x74) (b := 60) rfl rfl) (congrArg Value.bool e80)) ?_
  refine zA rfl rfl (zN (v := .bool x79) rfl rfl) ?_
  refine yE (b := x79) rfl rfl rfl (fun c81 => ?_) (fun c81 => ?_)
  ·have hF := zV c81 hF
   refine zH rfl rfl ?_
   refine zH rfl rfl ?_
   refine zH rfl rfl ?_
   refine zH rfl rfl ?_
   refine zA rfl rfl (zY (v := .bool true) rfl rfl) ?_
   have hR := Option.some.inj hF
   subst hR
   refine (zJ (zB (And.intro ?_ ?_)))
   ·repeat' (first | with_reducible exact zS | refine zZ rfl ?_ | refine zT rfl rfl ?_)
   exact ⟨(), (zQ rfl zU), H.pick [0, 1, 2, 3] (by decide)⟩
  have hF := zW c81 hF
  refine zA rfl rfl (fa26_2 rfl) ?_
  refine zA rfl rfl (zL one24 rfl (Cells.get (Blk.cells (H.item (i := 3) rfl)) (i := 2) rfl)) ?_
  obtain ⟨x82, e83, hF⟩ := zF hF
  obtain ⟨a84, c85, q86⟩ := SlF.len ((H.item (i := 2) rfl))
  refine zA rfl rfl (zM (xA u24 q86) (congrArg (Value.int .i64) e83)) ?_
  obtain ⟨x87, e88, hF⟩ := zF hF
  refine zA rfl rfl (zM (Do_gtr (a := x82) (b := 60) rfl rfl) (congrArg Value.bool e88)) ?_
  refine zA rfl rfl (zN (v := .bool x87) rfl rfl) ?_
  have hR := Option.some.inj hF
  subst hR
  refine (zJ (zB (And.intro ?_ ?_)))
  ·repeat' (first | with_reducible exact zS | refine zZ rfl ?_ | refine zT rfl rfl ?_)
  exact ⟨(), (zQ rfl zU), H.pick [0, 1, 2, 3] (by decide)⟩
 rintro _ ρ w64 H
 have hF := hK65
 refine yH (b := g63) rfl (fun c89 => ?_) (fun c89 => ?_)
 ·have hF := zV c89 hF
  refine zD fun K90 hK90 => ?_
  refine zC ?_
  refine zA rfl rfl (zG (v := .int .i64 3) rfl) ?_
  refine (zJ (zB (hK90 _ _ ?_)))
  have hR := Option.some.inj hF
  subst hR
  refine (yG (yC (post1 (v1 := .int .i64 3) rfl rfl ?_)))
  exact ⟨rfl, H.pick [] (by decide)⟩
 have hF := zW c89 hF
 refine (yI (zB (hK39 _ _ ?_)))
 obtain ⟨k311, ek312, hF⟩ := wC hF
 refine yQ [2, 3, 4, 26, 27, 28, 29, 30, 31, 32, 33, 34, 35, 36, 37, 38, 39, 40, 41, 42, 43] (fun (g : Unit) => []) (fun g wl => Hd O w wl S [.fz (.sl Rp.str v1 p0.Phases), .fz (.sl rMoveT v2 p0.Moves), .fz (.sl rRule v3 p0.Rules), .blk b8 [v1, v2, v3] 26] ∧ k311 () = some r) ?_ ?_
 ·skip
  refine zD fun K313 hK313 => ?_
  refine zC ?_
  refine zA rfl rfl (fa26_0 rfl) ?_
  refine zA rfl rfl (zL one22 rfl (Cells.get (Blk.cells (H.item (i := 3) rfl)) (i := 0) rfl)) ?_
  obtain ⟨x314, e315, hF⟩ := zF hF
  obtain ⟨a316, c317, q318⟩ := SlF.len ((H.item (i := 0) rfl))
  refine zA rfl rfl (zM (xA u22 q318) (congrArg (Value.int .i64) e315)) ?_
  refine zA rfl rfl (zK (v := .int .i64 0) rfl) ?_
  refine (zJ (zB (hK313 _ _ ?_)))
  refine yM ?_
  unfold F_event_Check_L1 at hF
  obtain ⟨B527, n528, eB529, hF⟩ := yZ hF
  refine xN [2, 3, 4, 29, 30, 31, 32, 33, 34, 35, 36, 37, 38, 39, 40, 41, 42, 43] (fun (g : Nat × Int) => [(29, .int .i64 g.2)]) (fun g wl => Hd O w wl S [.fz (.sl Rp.str v1 p0.Phases), .fz (.sl rMoveT v2 p0.Moves), .fz (.sl rRule v3 p0.Rules), .blk b8 [v1, v2, v3] 26] ∧ loopN B527 g.1 g.2 = some r) (fun g => g.1) (n528, 0) (zQ rfl zU) ⟨H.pick [0, 1, 2, 3] (by decide), hF⟩ ?_
  clear H hF
  rintro ⟨n528, g526⟩ ρ w531 ⟨H, hF⟩
  obtain ⟨n532, rfl, hF⟩ := xH hF
  have hF := xG eB529 hF
  refine zD fun K533 hK533 => ?_
  refine zC ?_
  obtain ⟨x534, e535, hF⟩ := zF hF
  refine zA rfl rfl (zM (xZ (a := g526) (b := x314) rfl rfl) (congrArg Value.bool e535)) ?_
  refine (zJ (zB (hK533 _ _ ?_)))
  refine zD fun K537 hK537 => ?_
  refine yH (b := x534) rfl (fun c538 => ?_) (fun c538 => ?_)
  ·have hF := zV c538 hF
   refine (yI (zB (hK537 _ _ ?_)))
   refine zD fun K586 hK586 => ?_
   refine yM ?_
   refine zD fun K587 hK587 => ?_
   refine zC ?_
   refine zA rfl rfl (zK (v := .int .i64 g526) rfl) ?_
   obtain ⟨x588, e589, hF⟩ := zI hF
   obtain ⟨b590, o591, c592, cs593, q594, h597, h595, h596, h598⟩ := rd_at (H.item (i := 0) rfl) e589
   obtain rfl : cs593 = [.string (bs x588)] := h597
   have H := H.fz (.at b590 (o591 + g526.toNat * 1) _) ⟨h595, h596, h598⟩
   refine zA rfl rfl (xY u22 sz9 q594 rfl (yP e589).1 (yP e589).2.1 rfl rfl) ?_
   refine zA rfl rfl (zL one9 rfl (Cells.get (H.item (i := 4) rfl).2.2 (i := 0) rfl)) ?_
   refine zA rfl rfl (zG (v := .int .i64 g526) rfl) ?_
   refine zA rfl rfl (zG (v := .string (bs x588)) rfl) ?_
   refine (zJ (zB (hK587 _ _ ?_)))
   refine zD fun K610 hK610 => ?_
   refine zD fun K611 hK611 => ?_
   refine zC ?_
   refine zA rfl rfl (zK (v := .string (bs x588)) rfl) ?_
   have H612 := H
   obtain ⟨x613, e614, hF⟩ := zI hF
   refine yA rfl rfl (zX en68 rfl) (F_event_isName_w x588 _ e614 _ _ _ (H.enter [] [] (by decide) rfl)) ?_
   rintro _ w615 ⟨rfl, G616⟩
   have H := H612.step (G616.only : Only [] _ _)
   refine ⟨_, rfl, ?_⟩
   obtain ⟨x617, e618, hF⟩ := zF hF
   refine zA rfl rfl (zM (yS (p := x613) rfl) (congrArg Value.bool e618)) ?_
   refine (zJ (zB (hK611 _ _ ?_)))
   refine yH (b := x617) rfl (fun c619 => ?_) (fun c619 => ?_)
   ·have hF := zV c619 hF
    refine zD fun K620 hK620 => ?_
    refine zC ?_
    refine zA rfl rfl (zG (v := .int .i64 8) rfl) ?_
    refine (zJ (zB (hK620 _ _ ?_)))
    have hR := Option.some.inj hF
    subst hR
    refine (yG (yC (yJ (yC (yC (yJ (yC (post1 (v1 := .int .i64 8) rfl rfl ?_))))))))
    exact ⟨rfl, H.pick [] (by decide)⟩
   have hF := zW c619 hF
   refine (yI (zB (hK610 _ _ ?_)))
   refine zD fun K621 hK621 => ?_
   refine zC ?_
   refine zA rfl rfl (fa26_0 rfl) ?_
   refine zA rfl rfl (zL one22 rfl (Cells.get (Blk.cells (H.item (i := 3) rfl)) (i := 0) rfl)) ?_
   refine zA rfl rfl (zK (v := .int .i64 g526) rfl) ?_
   obtain ⟨x622, e623, hF⟩ := zI hF
   refine RL_exP rfl rfl (Lx_slice_h u22 sz9 (H.item (i := 0) rfl) rfl rfl e623) ?_
   rintro v624 h625
   have H := H.fz (.sl Rp.str v624 x622) h625
   refine zA rfl rfl (zK (v := .string (bs x588)) rfl) ?_
   have H627 := H
   obtain ⟨x628, e629, hF⟩ := zI hF
   refine yA rfl rfl (zX en65 rfl) (F_slices_Contains___string_string__w x622 x588 v624 _ e629 _ _ _ (H.enter [] [5] (by decide) rfl)) ?_
   rintro _ w630 ⟨rfl, G631⟩
   have H := H627.step (G631.only : Only [] _ _)
   refine ⟨_, rfl, ?_⟩
   refine (zJ (zB (hK621 _ _ ?_)))
   refine yH (b := x628) rfl (fun c632 => ?_) (fun c632 => ?_)
   ·have hF := zV c632 hF
    refine zD fun K633 hK633 => ?_
    refine zC ?_
    refine zA rfl rfl (zG (v := .int .i64 5) rfl) ?_
    refine (zJ (zB (hK633 _ _ ?_)))
    have hR := Option.some.inj hF
    subst hR
    refine (yG (yJ (yC (yC (yJ (yC (post1 (v1 := .int .i64 5) rfl rfl ?_)))))))
    exact ⟨rfl, H.pick [] (by decide)⟩
   have hF := zW c632 hF
   refine (yI (yX (zB (hK586 _ _ ?_))))
   refine zC ?_
   obtain ⟨x634, e635, hF⟩ := zF hF
   refine zA rfl rfl (wE (a := g526) (b := 1) rfl rfl e635) ?_
   refine zA rfl rfl (zK (v := .int .i64 x634) rfl) ?_
   refine (zJ (zB (And.intro ?_ ?_)))
   ·repeat' (first | with_reducible exact zS | refine zZ rfl ?_ | refine zT rfl rfl ?_)
   exact ⟨(n532, x634), (zQ rfl zU), ⟨H.pick [0, 1, 2, 3] (by decide), hF⟩, Nat.lt_succ_self _⟩
  have hF := zW c538 hF
  refine (xW (yU (yU (xE (zB (And.intro ?_ ?_))))))
  ·repeat' (first | with_reducible exact zS | refine zZ rfl ?_ | refine zT rfl rfl ?_)
  exact ⟨(), zU, ⟨H.pick [0, 1, 2, 3] (by decide), hF⟩⟩
 rintro _ ρ w310 ⟨H, hF⟩
 have hF := wJ ek312 hF
 obtain ⟨k792, ek793, hF⟩ := wC hF
 refine yQ [2, 6, 7, 44, 45, 46, 47, 48, 49, 50, 51, 52, 53, 54, 55, 56, 57] (fun (g : Unit) => []) (fun g wl => Hd O w wl S [.fz (.sl Rp.str v1 p0.Phases), .fz (.sl rMoveT v2 p0.Moves), .fz (.sl rRule v3 p0.Rules), .blk b8 [v1, v2, v3] 26] ∧ k792 () = some r) ?_ ?_
 ·skip
  refine zD fun K794 hK794 => ?_
  refine zC ?_
  refine zA rfl rfl (fa26_1 rfl) ?_
  refine zA rfl rfl (zL one23 rfl (Cells.get (Blk.cells (H.item (i := 3) rfl)) (i := 1) rfl)) ?_
  obtain ⟨x795, e796, hF⟩ := zF hF
  obtain ⟨a797, c798, q799⟩ := SlF.len ((H.item (i := 1) rfl))
  refine zA rfl rfl (zM (xA u23 q799) (congrArg (Value.int .i64) e796)) ?_
  refine zA rfl rfl (zK (v := .int .i64 0) rfl) ?_
  refine (zJ (zB (hK794 _ _ ?_)))
  refine yM ?_
  unfold F_event_Check_L2 at hF
  obtain ⟨B944, n945, eB946, hF⟩ := yZ hF
  refine xN [2, 6, 7, 47, 48, 49, 50, 51, 52, 53, 54, 55, 56, 57] (fun (g : Nat × Int) => [(47, .int .i64 g.2)]) (fun g wl => Hd O w wl S [.fz (.sl Rp.str v1 p0.Phases), .fz (.sl rMoveT v2 p0.Moves), .fz (.sl rRule v3 p0.Rules), .blk b8 [v1, v2, v3] 26] ∧ loopN B944 g.1 g.2 = some r) (fun g => g.1) (n945, 0) (zQ rfl zU) ⟨H.pick [0, 1, 2, 3] (by decide), hF⟩ ?_
  clear H hF
  rintro ⟨n945, g943⟩ ρ w948 ⟨H, hF⟩
  obtain ⟨n949, rfl, hF⟩ := xH hF
  have hF := xG eB946 hF
  refine zD fun K950 hK950 => ?_
  refine zC ?_
  obtain ⟨x951, e952, hF⟩ := zF hF
  refine zA rfl rfl (zM (xZ (a := g943) (b := x795) rfl rfl) (congrArg Value.bool e952)) ?_
  refine (zJ (zB (hK950 _ _ ?_)))
  refine zD fun K954 hK954 => ?_
  refine yH (b := x951) rfl (fun c955 => ?_) (fun c955 => ?_)
  ·have hF := zV c955 hF
   refine (yI (zB (hK954 _ _ ?_)))
   refine zD fun K987 hK987 => ?_
   refine yM ?_
   refine zD fun K988 hK988 => ?_
   refine zC ?_
   obtain ⟨x989, e990, hF⟩ := zI hF
   obtain ⟨b991, o992, c993, cs994, q995, h998, h996, h997, h999⟩ := rd_at (H.item (i := 1) rfl) e990
   obtain ⟨v1000, rfl, h1001⟩ := rMoveT_open h998
   have H := H.fzs [.at b991 (o992 + g943.toNat * 9) _, .sl rCond v1000 x989.When.Kids] ⟨⟨h996, h997, h999⟩, h1001, trivial⟩
   refine zA rfl rfl (xY u23 sz102 q995 rfl (yP e990).1 (yP e990).2.1 rfl rfl) ?_
   refine zA rfl rfl (zM (yT (cs := [.string (bs x989.From), .string (bs x989.To), .int .i64 x989.When.Kind, .string (bs x989.When.Name), .string (bs x989.When.Other), .int .i64 x989.When.Op, .int .i64 x989.When.N, .int .i64 x989.When.Frames, v1000]) agg102 rfl sz102 rfl (H.item (i := 4) rfl).2.2) rfl) ?_
   refine yY rfl rfl (xJ zero102 H) ?_
   rintro _ w1006 ⟨b1004, rfl, H⟩
   refine yV rfl (yN (vs := [.string (bs x989.From), .string (bs x989.To), .int .i64 x989.When.Kind, .string (bs x989.When.Name), .string (bs x989.When.Other), .int .i64 x989.When.Op, .int .i64 x989.When.N, .int .i64 x989.When.Frames, v1000]) H 6 rfl sz102 rfl rfl rfl ⟨rfl, rfl, rfl, rfl, rfl, rfl, rfl, rfl, (slf_one (H.item (i := 5) rfl)), trivial⟩ rfl) ?_
   rintro w1007 H
   refine (zJ (zB (hK988 _ _ ?_)))
   refine zD fun K1008 hK1008 => ?_
   refine zC ?_
   refine zA rfl rfl (zM (yT (cs := [v1, v2, v3]) agg26 rfl sz26 rfl (Blk.cells (H.item (i := 3) rfl))) rfl) ?_
   refine zA rfl rfl (zM (yT (cs := [.string (bs x989.From), .string (bs x989.To), .int .i64 x989.When.Kind, .string (bs x989.When.Name), .string (bs x989.When.Other), .int .i64 x989.When.Op, .int .i64 x989.When.N, .int .i64 x989.When.Frames, v1000]) agg102 rfl sz102 rfl (Blk.cells (H.item (i := 6) rfl))) rfl) ?_
   have H1009 := H
   obtain ⟨x1010, e1011, hF⟩ := zI hF
   refine yA rfl rfl (zX en93 rfl) (F_event_checkMove_w p0 x989 v1 v2 v3 v1000 _ e1011 _ _ _ (H.enter [] [0, 1, 2, 5] (by decide) rfl)) ?_
   rintro _ w1012 ⟨rfl, G1013⟩
   have H := H1009.step (G1013.only : Only [] _ _)
   refine ⟨_, rfl, ?_⟩
   refine zA rfl rfl (zG (v := .int .i64 x1010) rfl) ?_
   refine (zJ (zB (hK1008 _ _ ?_)))
   refine zD fun K1014 hK1014 => ?_
   refine zC ?_
   refine zA rfl rfl (zK (v := .int .i64 x1010) rfl) ?_
   obtain ⟨x1015, e1016, hF⟩ := zF hF
   refine zA rfl rfl (zM (xO (a := x1010) (b := 0) rfl rfl) (congrArg Value.bool e1016)) ?_
   refine (zJ (zB (hK1014 _ _ ?_)))
   refine yH (b := x1015) rfl (fun c1017 => ?_) (fun c1017 => ?_)
   ·have hF := zV c1017 hF
    refine zD fun K1018 hK1018 => ?_
    refine zC ?_
    refine zA rfl rfl (zK (v := .int .i64 x1010) rfl) ?_
    refine zA rfl rfl (zG (v := .int .i64 x1010) rfl) ?_
    refine (zJ (zB (hK1018 _ _ ?_)))
    have hR := Option.some.inj hF
    subst hR
    refine (yG (yJ (yC (yC (yJ (yC (post1 (v1 := .int .i64 x1010) rfl rfl ?_)))))))
    exact ⟨rfl, H.pick [] (by decide)⟩
   have hF := zW c1017 hF
   refine (yI (yX (zB (hK987 _ _ ?_))))
   refine zC ?_
   obtain ⟨x1019, e1020, hF⟩ := zF hF
   refine zA rfl rfl (wE (a := g943) (b := 1) rfl rfl e1020) ?_
   refine zA rfl rfl (zK (v := .int .i64 x1019) rfl) ?_
   refine (zJ (zB (And.intro ?_ ?_)))
   ·repeat' (first | with_reducible exact zS | refine zZ rfl ?_ | refine zT rfl rfl ?_)
   exact ⟨(n949, x1019), (zQ rfl zU), ⟨H.pick [0, 1, 2, 3] (by decide), hF⟩, Nat.lt_succ_self _⟩
  have hF := zW c955 hF
  refine (xW (yU (yU (xE (zB (And.intro ?_ ?_))))))
  ·repeat' (first | with_reducible exact zS | refine zZ rfl ?_ | refine zT rfl rfl ?_)
  exact ⟨(), zU, ⟨H.pick [0, 1, 2, 3] (by decide), hF⟩⟩
 rintro _ ρ w791 ⟨H, hF⟩
 have hF := wJ ek793 hF
 obtain ⟨k1101, ek1102, hF⟩ := wC hF
 refine yQ [2, 8, 9, 58, 59, 60, 61, 62, 63, 64, 65, 66, 67, 68, 69, 70] (fun (g : Unit) => []) (fun g wl => Hd O w wl S [] ∧ k1101 () = some r) ?_ ?_
 ·skip
  refine zD fun K1103 hK1103 => ?_
  refine zC ?_
  refine zA rfl rfl (fa26_2 rfl) ?_
  refine zA rfl rfl (zL one24 rfl (Cells.get (Blk.cells (H.item (i := 3) rfl)) (i := 2) rfl)) ?_
  obtain ⟨x1104, e1105, hF⟩ := zF hF
  obtain ⟨a1106, c1107, q1108⟩ := SlF.len ((H.item (i := 2) rfl))
  refine zA rfl rfl (zM (xA u24 q1108) (congrArg (Value.int .i64) e1105)) ?_
  refine zA rfl rfl (zK (v := .int .i64 0) rfl) ?_
  refine (zJ (zB (hK1103 _ _ ?_)))
  refine yM ?_
  unfold F_event_Check_L3 at hF
  obtain ⟨B1177, n1178, eB1179, hF⟩ := yZ hF
  refine xN [2, 8, 9, 61, 62, 63, 64, 65, 66, 67, 68, 69, 70] (fun (g : Nat × Int) => [(61, .int .i64 g.2)]) (fun g wl => Hd O w wl S [.fz (.sl Rp.str v1 p0.Phases), .fz (.sl rMoveT v2 p0.Moves), .fz (.sl rRule v3 p0.Rules), .blk b8 [v1, v2, v3] 26] ∧ loopN B1177 g.1 g.2 = some r) (fun g => g.1) (n1178, 0) (zQ rfl zU) ⟨H.pick [0, 1, 2, 3] (by decide), hF⟩ ?_
  clear H hF
  rintro ⟨n1178, g1176⟩ ρ w1181 ⟨H, hF⟩
  obtain ⟨n1182, rfl, hF⟩ := xH hF
  have hF := xG eB1179 hF
  refine zD fun K1183 hK1183 => ?_
  refine zC ?_
  obtain ⟨x1184, e1185, hF⟩ := zF hF
  refine zA rfl rfl (zM (xZ (a := g1176) (b := x1104) rfl rfl) (congrArg Value.bool e1185)) ?_
  refine (zJ (zB (hK1183 _ _ ?_)))
  refine zD fun K1187 hK1187 => ?_
  refine yH (b := x1184) rfl (fun c1188 => ?_) (fun c1188 => ?_)
  ·have hF := zV c1188 hF
   refine (yI (zB (hK1187 _ _ ?_)))
   refine zD fun K1201 hK1201 => ?_
   refine yM ?_
   refine zD fun K1202 hK1202 => ?_
   refine zC ?_
   refine zA rfl rfl (zK (v := .int .i64 g1176) rfl) ?_
   refine zA rfl rfl (zG (v := .int .i64 g1176) rfl) ?_
   refine (zJ (zB (hK1202 _ _ ?_)))
   refine zD fun K1203 hK1203 => ?_
   refine zC ?_
   refine zA rfl rfl (zM (yT (cs := [v1, v2, v3]) agg26 rfl sz26 rfl (Blk.cells (H.item (i := 3) rfl))) rfl) ?_
   refine zA rfl rfl (zK (v := .int .i64 g1176) rfl) ?_
   have H1204 := H
   obtain ⟨x1205, e1206, hF⟩ := zI hF
   refine yA rfl rfl (zX en94 rfl) (F_event_checkRule_w p0 g1176 v1 v2 v3 _ e1206 _ _ _ (H.enter [] [0, 1, 2] (by decide) rfl)) ?_
   rintro _ w1207 ⟨rfl, G1208⟩
   have H := H1204.step (G1208.only : Only [] _ _)
   refine ⟨_, rfl, ?_⟩
   refine zA rfl rfl (zG (v := .int .i64 x1205) rfl) ?_
   refine (zJ (zB (hK1203 _ _ ?_)))
   refine zD fun K1209 hK1209 => ?_
   refine zC ?_
   refine zA rfl rfl (zK (v := .int .i64 x1205) rfl) ?_
   obtain ⟨x1210, e1211, hF⟩ := zF hF
   refine zA rfl rfl (zM (xO (a := x1205) (b := 0) rfl rfl) (congrArg Value.bool e1211)) ?_
   refine (zJ (zB (hK1209 _ _ ?_)))
   refine yH (b := x1210) rfl (fun c1212 => ?_) (fun c1212 => ?_)
   ·have hF := zV c1212 hF
    refine zD fun K1213 hK1213 => ?_
    refine zC ?_
    refine zA rfl rfl (zK (v := .int .i64 x1205) rfl) ?_
    refine zA rfl rfl (zG (v := .int .i64 x1205) rfl) ?_
    refine (zJ (zB (hK1213 _ _ ?_)))
    have hR := Option.some.inj hF
    subst hR
    refine (yG (yJ (yC (yC (yJ (yC (post1 (v1 := .int .i64 x1205) rfl rfl ?_)))))))
    exact ⟨rfl, H.pick [] (by decide)⟩
   have hF := zW c1212 hF
   refine (yI (yX (zB (hK1201 _ _ ?_))))
   refine zC ?_
   obtain ⟨x1214, e1215, hF⟩ := zF hF
   refine zA rfl rfl (wE (a := g1176) (b := 1) rfl rfl e1215) ?_
   refine zA rfl rfl (zK (v := .int .i64 x1214) rfl) ?_
   refine (zJ (zB (And.intro ?_ ?_)))
   ·repeat' (first | with_reducible exact zS | refine zZ rfl ?_ | refine zT rfl rfl ?_)
   exact ⟨(n1182, x1214), (zQ rfl zU), ⟨H.pick [0, 1, 2, 3] (by decide), hF⟩, Nat.lt_succ_self _⟩
  have hF := zW c1188 hF
  refine (xW (yU (yU (xE (zB (And.intro ?_ ?_))))))
  ·repeat' (first | with_reducible exact zS | refine zZ rfl ?_ | refine zT rfl rfl ?_)
  exact ⟨(), zU, ⟨H.pick [] (by decide), hF⟩⟩
 rintro _ ρ w1100 ⟨H, hF⟩
 have hF := wJ ek1102 hF
 refine zD fun K1216 hK1216 => ?_
 refine zC ?_
 refine zA rfl rfl (zG (v := .int .i64 0) rfl) ?_
 refine (zJ (zB (hK1216 _ _ ?_)))
 have hR := Option.some.inj hF
 subst hR
 refine (yG (post1 (v1 := .int .i64 0) rfl rfl ?_))
 exact ⟨rfl, H.pick [] (by decide)⟩
end Go.Proofs.YtnajnkghilemhaaGreatDoor.L
namespace Go.Proofs.YtnajnkghilemhaaGreatDoor.L
open Go.RowKit Go.OB Go.Lf
/- orangebox/event.Read -/
set_option maxHeartbeats 4000000 in
theorem F_event_Read_w (p0 : Str) (r : Rules × Int × Int) (hF : F_event_Read p0 = some r) (O S : List Nat) (w : World) (H : Hd O w w S [.fz (.at 0 0 ((Fl.arr 7 Fl.str).f zO)), .fz (.gi 4)]) :
  Calls Tryz.prog 13 ([.string (bs p0)] : List Value).toArray w fun e w' => ∃ u3 u4 u5, e = .returned (.tuple #[.agg [u3, u4, u5].toArray, .int .i64 r.2.1, .int .i64 r.2.2]) ∧ Hd O w w' S [.fz (.sl Rp.str u3 r.1.Phases), .fz (.sl rMoveT u4 r.1.Moves), .fz (.sl rRule u5 r.1.Rules)] := by
 unfold F_event_Read at hF
 refine yD 39 Tryz.func13 rfl rfl rfl ?_
 refine zD fun K6 hK6 => ?_
 refine zC ?_
 refine yY rfl rfl (xJ zero26 H) ?_
 rintro _ w9 ⟨b7, rfl, H⟩
 refine zA rfl rfl (zG (v := .int .i64 0) rfl) ?_
 refine zA rfl rfl (zG (v := .int .i64 0) rfl) ?_
 refine (zJ (zB (hK6 _ _ ?_)))
 refine zD fun K18 hK18 => ?_
 refine zD fun K19 hK19 => ?_
 refine zC ?_
 refine zA rfl rfl (zK (v := .string (bs p0)) rfl) ?_
 obtain ⟨x20, e21, hF⟩ := zF hF
 refine zA rfl rfl (zM (Do_slen (s1 := p0) u9 rfl) (congrArg (Value.int .i64) e21)) ?_
 obtain ⟨x22, e23, hF⟩ := zF hF
 refine zA rfl rfl (zM (Do_gtr (a := x20) (b := 200000) rfl rfl) (congrArg Value.bool e23)) ?_
 refine (zJ (zB (hK19 _ _ ?_)))
 refine yH (b := x22) rfl (fun c24 => ?_) (fun c24 => ?_)
 ·have hF := zV c24 hF
  refine zD fun K25 hK25 => ?_
  refine zC ?_
  refine zA rfl rfl (xM (cs := [.slice none 0 0, .slice none 0 0, .slice none 0 0]) bz26) ?_
  refine yV rfl (yN (vs := [.slice none 0 0, .slice none 0 0, .slice none 0 0]) H 2 rfl sz26 rfl rfl rfl ⟨rfl, rfl, rfl, trivial⟩ rfl) ?_
  rintro w26 H
  refine zA rfl rfl (zG (v := .int .i64 0) rfl) ?_
  refine zA rfl rfl (zG (v := .int .i64 3) rfl) ?_
  refine (zJ (zB (hK25 _ _ ?_)))
  have H := H.fz (.sl Rp.str (.slice none 0 0) []) SlF.nil
  have H := H.fz (.sl rMoveT (.slice none 0 0) []) SlF.nil
  have H := H.fz (.sl rRule (.slice none 0 0) []) SlF.nil
  have hR := Option.some.inj hF
  subst hR
  refine (yG (yC (postc2 (v1 := .int .i64 0) (v2 := .int .i64 3) rfl rfl (yL agg26 sz26 rfl (Blk.cells (H.item (i := 2) rfl))) rfl rfl ?_)))
  exact ⟨.slice none 0 0, .slice none 0 0, .slice none 0 0, rfl, H.pick [3, 4, 5] (by decide)⟩
 have hF := zW c24 hF
 refine (yI (zB (hK18 _ _ ?_)))
 refine zD fun K30 hK30 => ?_
 refine zC ?_
 refine zA rfl rfl (zK (v := .string (bs p0)) rfl) ?_
 refine zA rfl rfl (xM (cs := [.string (bs p0), .int .i64 0, .int .i64 0, .int .i64 0, .int .i64 0, .string (bs []), .slice none 0 0, .slice none 0 0, .slice none 0 0]) (bt88_0 _)) ?_
 refine yY rfl rfl (Lx_box (cs := [.string (bs p0), .int .i64 0, .int .i64 0, .int .i64 0, .int .i64 0, .string (bs []), .slice none 0 0, .slice none 0 0, .slice none 0 0]) rfl H) ?_
 rintro _ w33 ⟨b31, rfl, H⟩
 refine zA rfl rfl (zG (v := .pointer (some ⟨b31, 0, none⟩)) rfl) ?_
 refine (zJ (zB (hK30 _ _ ?_)))
 refine zD fun K63 hK63 => ?_
 refine zD fun K64 hK64 => ?_
 refine zC ?_
 refine zA rfl rfl (zK (v := .pointer (some ⟨b31, 0, none⟩)) rfl) ?_
 refine zA rfl rfl (Do_makeFuncB rfl) ?_
 have H := own_nil H Rp.str 9
 have H := own_nil H rMoveT 102
 have H := own_nil H rRule 106
 obtain ⟨⟨x68, x69⟩, e70, hF⟩ := zI hF
 refine yA rfl rfl (zX en38 rfl) (F_caught_w (EventReader.mk p0 0 (EventToken.mk 0 0 0 []) (Rules.mk [] [] [])) b31 (.slice none 0 0) (.slice none 0 0) (.slice none 0 0) _ e70 _ _ _ (H.enter [4, 5, 6, 3] [0, 1] (by decide) rfl)) ?_
 rintro _ w77 ⟨v71, v72, v73, rfl, G78⟩
 have H : Hd O _ w77 _ [.fz (.at 0 0 ((Fl.arr 7 Fl.str).f zO)), .fz (.gi 4), .blk b7 [.slice none 0 0, .slice none 0 0, .slice none 0 0] 26, .own Rp.str v71 9 x69.r.Phases, .own rMoveT v72 102 x69.r.Moves, .own rRule v73 106 x69.r.Rules, .blk b31 [.string (bs x69.text), .int .i64 x69.at_, .int .i64 x69.now.kind, .int .i64 x69.now.at_, .int .i64 x69.now.n, .string (bs x69.now.text), v71, v72, v73] 88] := H.back [4, 5, 6, 3] [0, 1] rfl G78
 refine ⟨_, rfl, ?_⟩
 refine yY rfl rfl (xJ zero90 H) ?_
 rintro _ w81 ⟨b79, rfl, H⟩
 refine yV rfl (yN (vs := [.int .i64 x68.at_, .int .i64 x68.e]) H 7 rfl sz90 rfl rfl rfl ⟨rfl, rfl, trivial⟩ rfl) ?_
 rintro w82 H
 refine (zJ (zB (hK64 _ _ ?_)))
 refine zD fun K83 hK83 => ?_
 refine zC ?_
 refine zA rfl rfl (fa90_1 rfl) ?_
 refine zA rfl rfl (zL one30 rfl (Cells.get (Blk.cells (H.item (i := 7) rfl)) (i := 1) rfl)) ?_
 obtain ⟨x84, e85, hF⟩ := zF hF
 refine zA rfl rfl (zM (xO (a := x68.e) (b := 0) rfl rfl) (congrArg Value.bool e85)) ?_
 refine (zJ (zB (hK83 _ _ ?_)))
 refine yH (b := x84) rfl (fun c86 => ?_) (fun c86 => ?_)
 ·have hF := zV c86 hF
  refine zD fun K87 hK87 => ?_
  have H := H.freezeB (i := 7) rfl
  have H88 := H
  have H := H.rebase
  have H89 := H
  have h90 := H.firm (i := 7) rfl
  refine WP_mix0 H [0, 1, 2, 3, 4, 5, 6, 7] [.pure, .pure, .pure, .pure, .pure, .eff, .pure, .pure] mixed (by kernel_rfl) (by kernel_rfl) (by kernel_rfl) rfl ?_
  refine Mx.yB rfl rfl rfl (fun w' hw' => xM (cs := [.slice none 0 0, .slice none 0 0, .slice none 0 0]) bz26) ?_
  refine Mx.yB rfl rfl rfl (fun w' hw' => fa90_0 rfl) ?_
  refine Mx.yB rfl rfl rfl (fun w' hw' => zL one3 rfl (Cells.get (h90 w' hw').2.2 (i := 0) rfl)) ?_
  refine Mx.yB rfl rfl rfl (fun w' hw' => fa90_1 rfl) ?_
  refine Mx.yB rfl rfl rfl (fun w' hw' => zL one30 rfl (Cells.get (h90 w' hw').2.2 (i := 1) rfl)) ?_
  refine Mx.XL_exU oS rfl rfl (fun w' hw' => yN (vs := [.slice none 0 0, .slice none 0 0, .slice none 0 0]) (H.sees hw') 2 rfl sz26 rfl rfl rfl ⟨rfl, rfl, rfl, trivial⟩ rfl) ?_
  rintro w' w91 hw' H
  refine ⟨H.only, ?_⟩
  refine Mx.yB rfl rfl rfl (fun w' hw' => zG (v := .int .i64 x68.at_) rfl) ?_
  refine Mx.yB rfl rfl rfl (fun w' hw' => zG (v := .int .i64 x68.e) rfl) ?_
  refine Mx.XL_nil fun w92 hS => ?_
  have H := H.sees hS
  have H := H88.rejoin H
  refine (zB (hK87 _ _ ?_))
  have H := H.fz (.sl Rp.str (.slice none 0 0) []) SlF.nil
  have H := H.fz (.sl rMoveT (.slice none 0 0) []) SlF.nil
  have H := H.fz (.sl rRule (.slice none 0 0) []) SlF.nil
  have hR := Option.some.inj hF
  subst hR
  refine (yG (yC (postc2 (v1 := .int .i64 x68.at_) (v2 := .int .i64 x68.e) rfl rfl (yL agg26 sz26 rfl (Blk.cells (H.item (i := 2) rfl))) rfl rfl ?_)))
  exact ⟨.slice none 0 0, .slice none 0 0, .slice none 0 0, rfl, H.pick [8, 9, 10] (by decide)⟩
 have hF := zW c86 hF
 refine (yI (zB (hK63 _ _ ?_)))
 refine zD fun K108 hK108 => ?_
 refine zD fun K109 hK109 => ?_
 refine zC ?_
 refine zA rfl rfl (zK (v := .pointer (some ⟨b31, 0, none⟩)) rfl) ?_
 refine zA rfl rfl (yK rfl) ?_
 refine zA rfl rfl (fa88_3 rfl) ?_
 refine zA rfl rfl (zM (yT (cs := [v71, v72, v73]) agg26 rfl sz26 rfl (Cells.drop (Blk.cells (H.item (i := 6) rfl)) 6 3)) rfl) ?_
 have H110 := H
 have H := H.freeze (i := 3) rfl
 have H := H.freeze (i := 4) rfl
 have H := H.freeze (i := 5) rfl
 obtain ⟨x111, e112, hF⟩ := zI hF
 refine yA rfl rfl (zX en40 rfl) (F_event_Check_w x69.r v71 v72 v73 _ e112 _ _ _ (H.enter [] [3, 4, 5] (by decide) rfl)) ?_
 rintro _ w113 ⟨rfl, G114⟩
 have H := H110.step (G114.only : Only [] _ _)
 refine ⟨_, rfl, ?_⟩
 refine zA rfl rfl (zG (v := .int .i64 x111) rfl) ?_
 refine (zJ (zB (hK109 _ _ ?_)))
 refine zD fun K115 hK115 => ?_
 refine zC ?_
 refine zA rfl rfl (zK (v := .int .i64 x111) rfl) ?_
 obtain ⟨x116, e117, hF⟩ := zF hF
 refine zA rfl rfl (zM (xO (a := x111) (b := 0) rfl rfl) (congrArg Value.bool e117)) ?_
 refine (zJ (zB (hK115 _ _ ?_)))
 refine yH (b := x116) rfl (fun c118 => ?_) (fun c118 => ?_)
 ·have hF := zV c118 hF
  refine zD fun K119 hK119 => ?_
  refine zC ?_
  refine zA rfl rfl (xM (cs := [.slice none 0 0, .slice none 0 0, .slice none 0 0]) bz26) ?_
  refine zA rfl rfl (zK (v := .int .i64 x111) rfl) ?_
  refine yV rfl (yN (vs := [.slice none 0 0, .slice none 0 0, .slice none 0 0]) H 2 rfl sz26 rfl rfl rfl ⟨rfl, rfl, rfl, trivial⟩ rfl) ?_
  rintro w120 H
  refine zA rfl rfl (zG (v := .int .i64 0) rfl) ?_
  refine zA rfl rfl (zG (v := .int .i64 x111) rfl) ?_
  refine (zJ (zB (hK119 _ _ ?_)))
  have H := H.fz (.sl Rp.str (.slice none 0 0) []) SlF.nil
  have H := H.fz (.sl rMoveT (.slice none 0 0) []) SlF.nil
  have H := H.fz (.sl rRule (.slice none 0 0) []) SlF.nil
  have hR := Option.some.inj hF
  subst hR
  refine (yG (yC (postc2 (v1 := .int .i64 0) (v2 := .int .i64 x111) rfl rfl (yL agg26 sz26 rfl (Blk.cells (H.item (i := 2) rfl))) rfl rfl ?_)))
  exact ⟨.slice none 0 0, .slice none 0 0, .slice none 0 0, rfl, H.pick [8, 9, 10] (by decide)⟩
 have hF := zW c118 hF
 refine (yI (zB (hK108 _ _ ?_)))
 refine zD fun K124 hK124 => ?_
 refine zC ?_
 refine zA rfl rfl (zK (v := .pointer (some ⟨b31, 0, none⟩)) rfl) ?_
 refine zA rfl rfl (yK rfl) ?_
 refine zA rfl rfl (fa88_3 rfl) ?_
 refine zA rfl rfl (zM (yT (cs := [v71, v72, v73]) agg26 rfl sz26 rfl (Cells.drop (Blk.cells (H.item (i := 6) rfl)) 6 3)) rfl) ?_
 refine yV rfl (yN (vs := [v71, v72, v73]) H 2 rfl sz26 rfl rfl rfl ⟨(own_one (H.item (i := 3) rfl)), (own_one (H.item (i := 4) rfl)), (own_one (H.item (i := 5) rfl)), trivial⟩ rfl) ?_
 rintro w125 H
 refine zA rfl rfl (zG (v := .int .i64 0) rfl) ?_
 refine zA rfl rfl (zG (v := .int .i64 0) rfl) ?_
 refine (zJ (zB (hK124 _ _ ?_)))
 have H := H.freeze (i := 3) rfl
 have H := H.freeze (i := 4) rfl
 have H := H.freeze (i := 5) rfl
 have hR := Option.some.inj hF
 subst hR
 refine (yG (postc2 (v1 := .int .i64 0) (v2 := .int .i64 0) rfl rfl (yL agg26 sz26 rfl (Blk.cells (H.item (i := 2) rfl))) rfl rfl ?_))
 exact ⟨v71, v72, v73, rfl, H.pick [3, 4, 5] (by decide)⟩
end Go.Proofs.YtnajnkghilemhaaGreatDoor.L
namespace Go.Proofs.YtnajnkghilemhaaGreatDoor.L
open Go.RowKit Go.OB Go.Lf
/- (*strings.Builder).WriteString -/
set_option maxHeartbeats 4000000 in
theorem F_strings_Builder_WriteString_w (p0 : List Int) (p1 : Str) (b1 : Nat) (v2 : Value) (v3 : Value) (r : Int × Unit × (List Int)) (hF : F_strings_Builder_WriteString p0 p1 = some r) (O S : List Nat) (w : World) (H : Hd O w w S [.own (Rp.int .u8) v3 5 p0, .blk b1 [v2, v3] 111, .fz (.oq v2 b1)]) :
  Calls Tryz.prog 50 ([.pointer (some ⟨b1, 0, none⟩), .string (bs p1)] : List Value).toArray w fun e w' => ∃ u7 u8, e = .returned (.tuple #[.int .i64 r.1, .nilIface]) ∧ Hd O w w' S [.fz (.oq u7 b1), .own (Rp.int .u8) u8 5 r.2.2, .blk b1 [u7, u8] 111] := by
 unfold F_strings_Builder_WriteString at hF
 refine yD 19 Tryz.func50 rfl rfl rfl ?_
 refine zD fun K9 hK9 => ?_
 refine zC ?_
 refine zA rfl rfl (zG (v := .int .i64 0) rfl) ?_
 refine zA rfl rfl (zG (v := .nilIface) rfl) ?_
 refine (zJ (zB (hK9 _ _ ?_)))
 refine zD fun K10 hK10 => ?_
 refine zC ?_
 refine zA rfl rfl (zK (v := .pointer (some ⟨b1, 0, none⟩)) rfl) ?_
 obtain ⟨x11, e12, hF⟩ := zI hF
 refine yA rfl rfl (zX en101 rfl) (E.X_bcheck_w p0 b1 v2 v3 _ e12 _ _ _ (H.enter [0, 1] [2] (by decide) rfl)) ?_
 rintro _ w17 ⟨v13, v14, rfl, G18⟩
 have H : Hd O _ w17 _ [.fz (.oq v2 b1), .fz (.oq v13 b1), .own (Rp.int .u8) v14 5 x11, .blk b1 [v13, v14] 111] := H.back [0, 1] [2] rfl G18
 refine ⟨_, rfl, ?_⟩
 refine (zJ (zB (hK10 _ _ ?_)))
 refine zD fun K19 hK19 => ?_
 refine zC ?_
 refine zA rfl rfl (zK (v := .pointer (some ⟨b1, 0, none⟩)) rfl) ?_
 refine zA rfl rfl (zK (v := .pointer (some ⟨b1, 0, none⟩)) rfl) ?_
 refine zA rfl rfl (yK rfl) ?_
 refine zA rfl rfl (fa111_1 rfl) ?_
 refine zA rfl rfl (zL one77 rfl (Cells.get (Blk.cells (H.item (i := 3) rfl)) (i := 1) rfl)) ?_
 refine zA rfl rfl (zK (v := .string (bs p1)) rfl) ?_
 obtain ⟨x20, e21, hF⟩ := zI hF
 refine yY rfl rfl (Lx_appstr H (i := 2) rfl u77 u9 z8_5 rfl rfl e21) ?_
 rintro v22 w23 H
 refine zA rfl rfl (yK rfl) ?_
 refine zA rfl rfl (fa111_1 rfl) ?_
 refine yV rfl (xX H 3 rfl sz77 rfl (v := v22) rfl (own_one (H.item (i := 2) rfl)) rfl) ?_
 rintro w24 H
 refine (zJ (zB (hK19 _ _ ?_)))
 refine zD fun K25 hK25 => ?_
 refine zC ?_
 refine zA rfl rfl (zK (v := .string (bs p1)) rfl) ?_
 obtain ⟨x26, e27, hF⟩ := zF hF
 refine zA rfl rfl (zM (Do_slen (s1 := p1) u9 rfl) (congrArg (Value.int .i64) e27)) ?_
 refine zA rfl rfl (zG (v := .int .i64 x26) rfl) ?_
 refine zA rfl rfl (zG (v := .nilIface) rfl) ?_
 refine (zJ (zB (hK25 _ _ ?_)))
 have hR := Option.some.inj hF
 subst hR
 refine (yG (post2 (v1 := .int .i64 x26) (v2 := .nilIface) rfl rfl rfl ?_))
 exact ⟨v13, v22, rfl, H.pick [1, 2, 3] (by decide)⟩
end Go.Proofs.YtnajnkghilemhaaGreatDoor.L
namespace Go.Proofs.YtnajnkghilemhaaGreatDoor.L
open Go.RowKit Go.OB Go.Lf
/- orangebox/event.condText: its contract -/
abbrev S_event_condText (f : Cond → Int → Option Str) : Prop := ∀ (p0 : Cond) (p1 : Int) (v1 : Value) (r : Str) (hF : f p0 p1 = some r) (O S : List Nat) (w : World) (H : Hd O w w S [.fz (.sl rCond v1 p0.Kids), .fz (.at 0 0 ((Fl.arr 7 Fl.str).f zO))]),
  Calls Tryz.prog 51 ([.agg [.int .i64 p0.Kind, .string (bs p0.Name), .string (bs p0.Other), .int .i64 p0.Op, .int .i64 p0.N, .int .i64 p0.Frames, v1].toArray, .int .i64 p1] : List Value).toArray w fun e w' => e = .returned (.string (bs r)) ∧ Hd O w w' S []
end Go.Proofs.YtnajnkghilemhaaGreatDoor.L
namespace Go.Proofs.YtnajnkghilemhaaGreatDoor.L
open Go.RowKit Go.OB Go.Lf
/- orangebox/event.joined -/
set_option maxHeartbeats 4000000 in
theorem F_event_joined_w (rfG : Cond → Int → Option Str) (rhG : S_event_condText rfG) (p0 : List Cond) (p1 : Str) (p2 : Int) (v1 : Value) (r : Str) (hF : F_event_joined rfG p0 p1 p2 = some r) (O S : List Nat) (w : World) (H : Hd O w w S [.fz (.sl rCond v1 p0), .fz (.at 0 0 ((Fl.arr 7 Fl.str).f zO))]) :
  Calls Tryz.prog 104 ([v1, .string (bs p1), .int .i64 p2] : List Value).toArray w fun e w' => e = .returned (.string (bs r)) ∧ Hd O w w' S [] := by
 unfold F_event_joined at hF
 refine yD 28 Tryz.func104 rfl rfl rfl ?_
 refine zD fun K4 hK4 => ?_
 refine zC ?_
 refine zA rfl rfl (zG (v := .string (bs [])) rfl) ?_
 refine (zJ (zB (hK4 _ _ ?_)))
 refine zD fun K5 hK5 => ?_
 refine zC ?_
 refine zA rfl rfl (zG (v := .slice none 0 0) rfl) ?_
 refine (zJ (zB (hK5 _ _ ?_)))
 obtain ⟨g180, hF, hK183⟩ := zI hF
 refine yQ [7, 9, 10, 11, 12, 13, 14, 15, 16, 17, 18, 19, 20, 21, 22] (fun (g : Value) => [(7, g)]) (fun g wl => Hd O w wl S [.own Rp.str g 9 g180, .fz (.at 0 0 ((Fl.arr 7 Fl.str).f zO))]) ?_ ?_
 ·skip
  refine zD fun K184 hK184 => ?_
  refine zC ?_
  refine zA rfl rfl (zK (v := v1) rfl) ?_
  obtain ⟨x185, e186, hF⟩ := zF hF
  obtain ⟨a187, c188, q189⟩ := SlF.len ((H.item (i := 0) rfl))
  refine zA rfl rfl (zM (xA u52 q189) (congrArg (Value.int .i64) e186)) ?_
  refine zA rfl rfl (zK (v := .int .i64 0) rfl) ?_
  refine (zJ (zB (hK184 _ _ ?_)))
  refine yM ?_
  have H := own_nil H Rp.str 9
  unfold F_event_joined_L1 at hF
  obtain ⟨B355, n356, eB357, hF⟩ := yZ hF
  refine xN [7, 9, 12, 13, 14, 15, 16, 17, 18, 19, 20, 21, 22] (fun (g : Nat × (List Str) × Int × Value) => [(7, g.2.2.2), (12, .int .i64 g.2.2.1)]) (fun g wl => Hd O w wl S [.own Rp.str g.2.2.2 9 g.2.1, .fz (.sl rCond v1 p0), .fz (.at 0 0 ((Fl.arr 7 Fl.str).f zO))] ∧ loopN B355 g.1 (g.2.1, g.2.2.1) = some g180) (fun g => g.1) (n356, [], 0, .slice none 0 0) (zQ rfl (zQ rfl zU)) ⟨H.pick [2, 0, 1] (by decide), hF⟩ ?_
  clear H hF
  rintro ⟨n356, g351, g353, v352⟩ ρ w359 ⟨H, hF⟩
  obtain ⟨n360, rfl, hF⟩ := xH hF
  have hF := xG eB357 hF
  refine zD fun K361 hK361 => ?_
  refine zC ?_
  obtain ⟨x362, e363, hF⟩ := zF hF
  refine zA rfl rfl (zM (xZ (a := g353) (b := x185) rfl rfl) (congrArg Value.bool e363)) ?_
  refine (zJ (zB (hK361 _ _ ?_)))
  refine zD fun K365 hK365 => ?_
  refine yH (b := x362) rfl (fun c366 => ?_) (fun c366 => ?_)
  ·have hF := zV c366 hF
   refine (yI (zB (hK365 _ _ ?_)))
   refine zD fun K401 hK401 => ?_
   refine yM ?_
   refine zD fun K402 hK402 => ?_
   refine zC ?_
   obtain ⟨x403, e404, hF⟩ := zI hF
   obtain ⟨b405, o406, c407, cs408, q409, h412, h410, h411, h413⟩ := rd_at (H.item (i := 1) rfl) e404
   obtain ⟨v414, rfl, h415⟩ := rCond_open h412
   have H := H.fzs [.at b405 (o406 + g353.toNat * 7) _, .sl rCond v414 x403.Kids] ⟨⟨h410, h411, h413⟩, h415, trivial⟩
   refine zA rfl rfl (xY u52 sz54 q409 rfl (yP e404).1 (yP e404).2.1 rfl rfl) ?_
   refine zA rfl rfl (zM (yT (cs := [.int .i64 x403.Kind, .string (bs x403.Name), .string (bs x403.Other), .int .i64 x403.Op, .int .i64 x403.N, .int .i64 x403.Frames, v414]) agg54 rfl sz54 rfl (H.item (i := 3) rfl).2.2) rfl) ?_
   refine yY rfl rfl (xJ zero54 H) ?_
   rintro _ w420 ⟨b418, rfl, H⟩
   refine yV rfl (yN (vs := [.int .i64 x403.Kind, .string (bs x403.Name), .string (bs x403.Other), .int .i64 x403.Op, .int .i64 x403.N, .int .i64 x403.Frames, v414]) H 5 rfl sz54 rfl rfl rfl ⟨rfl, rfl, rfl, rfl, rfl, rfl, (slf_one (H.item (i := 4) rfl)), trivial⟩ rfl) ?_
   rintro w421 H
   refine (zJ (zB (hK402 _ _ ?_)))
   refine zC ?_
   refine zA rfl rfl (zK (v := v352) rfl) ?_
   refine zA rfl rfl (zM (yT (cs := [.int .i64 x403.Kind, .string (bs x403.Name), .string (bs x403.Other), .int .i64 x403.Op, .int .i64 x403.N, .int .i64 x403.Frames, v414]) agg54 rfl sz54 rfl (Blk.cells (H.item (i := 5) rfl))) rfl) ?_
   refine zA rfl rfl (zK (v := .int .i64 p2) rfl) ?_
   have H422 := H
   obtain ⟨x423, e424, hF⟩ := zI hF
   refine yA rfl rfl (zX en51 rfl) (rhG x403 p2 v414 _ e424 _ _ _ (H.enter [] [4, 2] (by decide) rfl)) ?_
   rintro _ w425 ⟨rfl, G426⟩
   have H := H422.step (G426.only : Only [] _ _)
   refine ⟨_, rfl, ?_⟩
   obtain ⟨x427, e428, hF⟩ := zF hF
   subst e428
   refine yY rfl rfl (Lx_bs (r := Rp.str) (xl := [x423]) (cs := [.string (bs x423)]) u22 el9 (by decide) (by decide) rfl (wF (vs := [.string (bs x423)]) (by decide) rfl rfl ⟨rfl, trivial⟩ rfl) H ⟨[.string (bs x423)], [], rfl, rfl, rfl⟩) ?_
   rintro v430 w431 H
   obtain ⟨x432, e433, hF⟩ := zI hF
   refine yY rfl rfl (Lx_app H (i := 0) rfl u22 el9 rfl rfl (Sr.of_own (H.item (i := 6) rfl)) e433) ?_
   rintro v434 w435 H
   refine zA rfl rfl (zG (v := v434) rfl) ?_
   refine (zJ (yX (zB (hK401 _ _ ?_))))
   refine zC ?_
   obtain ⟨x436, e437, hF⟩ := zF hF
   refine zA rfl rfl (wE (a := g353) (b := 1) rfl rfl e437) ?_
   refine zA rfl rfl (zK (v := .int .i64 x436) rfl) ?_
   refine (zJ (zB (And.intro ?_ ?_)))
   ·repeat' (first | with_reducible exact zS | refine zZ rfl ?_ | refine zT rfl rfl ?_)
   exact ⟨(n360, x432, x436, v434), (zQ rfl (zQ rfl zU)), ⟨H.pick [0, 1, 2] (by decide), hF⟩, Nat.lt_succ_self _⟩
  have hF := zW c366 hF
  have hR := Option.some.inj hF
  subst hR
  refine (xW (yU (yU (xE (zB (And.intro ?_ ?_))))))
  ·repeat' (first | with_reducible exact zS | refine zZ rfl ?_ | refine zT rfl rfl ?_)
  exact ⟨v352, (zQ rfl zU), H.pick [0, 2] (by decide)⟩
 rintro v181 ρ w182 H
 have hF := hK183
 refine zD fun K438 hK438 => ?_
 refine zC ?_
 refine zA rfl rfl (zK (v := v181) rfl) ?_
 refine zA rfl rfl (zK (v := .string (bs p1)) rfl) ?_
 obtain ⟨x439, e440, hF⟩ := zI hF
 refine zA rfl rfl (xR (s1 := [32]) (s2 := p1) rfl rfl e440) ?_
 obtain ⟨x441, e442, hF⟩ := zI hF
 refine zA rfl rfl (xR (s1 := x439) (s2 := [32]) rfl rfl e442) ?_
 have H443 := H
 have H := H.freeze (i := 0) rfl
 obtain ⟨x444, e445, hF⟩ := zI hF
 refine yA rfl rfl (zX en156 rfl) (E.X_Join_w g180 x441 v181 _ e445 _ _ _ (H.enter [] [0] (by decide) rfl)) ?_
 rintro _ w446 ⟨rfl, G447⟩
 have H := H443.step (G447.only : Only [] _ _)
 refine ⟨_, rfl, ?_⟩
 refine zA rfl rfl (zG (v := .string (bs x444)) rfl) ?_
 refine (zJ (zB (hK438 _ _ ?_)))
 have hR := Option.some.inj hF
 subst hR
 refine (yG (post1 (v1 := .string (bs x444)) rfl rfl ?_))
 exact ⟨rfl, H.pick [] (by decide)⟩
end Go.Proofs.YtnajnkghilemhaaGreatDoor.L
namespace Go.Proofs.YtnajnkghilemhaaGreatDoor.L
open Go.RowKit Go.OB Go.Lf
/- orangebox/event.condText$1 -/
set_option maxHeartbeats 4000000 in
theorem F_event_condText_1_w (rfG : Cond → Int → Option Str) (rhG : S_event_condText rfG) (c0 : Cond) (b1 : Nat) (v2 : Value) (r : Str) (hF : F_event_condText_1 rfG c0 = some r) (O S : List Nat) (w : World) (H : Hd O w w S [.blk b1 [.int .i64 c0.Kind, .string (bs c0.Name), .string (bs c0.Other), .int .i64 c0.Op, .int .i64 c0.N, .int .i64 c0.Frames, v2] 54, .fz (.sl rCond v2 c0.Kids), .fz (.at 0 0 ((Fl.arr 7 Fl.str).f zO))]) :
  Calls Tryz.prog 103 ([.pointer (some ⟨b1, 0, none⟩)] : List Value).toArray w fun e w' => e = .returned (.string (bs r)) ∧ Hd O w w' S [.blk b1 [.int .i64 c0.Kind, .string (bs c0.Name), .string (bs c0.Other), .int .i64 c0.Op, .int .i64 c0.N, .int .i64 c0.Frames, v2] 54] := by
 unfold F_event_condText_1 at hF
 refine yD 5 Tryz.func103 rfl rfl rfl ?_
 refine zD fun K6 hK6 => ?_
 refine zC ?_
 refine zA rfl rfl (zG (v := .string (bs [])) rfl) ?_
 refine (zJ (zB (hK6 _ _ ?_)))
 refine zD fun K7 hK7 => ?_
 refine zC ?_
 refine zA rfl rfl (wB rfl) ?_
 refine zA rfl rfl (zL one52 rfl (Cells.get (Blk.cells (H.item (i := 0) rfl)) (i := 6) rfl)) ?_
 have H8 := H
 obtain ⟨x9, e10, hF⟩ := zI hF
 refine yA rfl rfl (zX en104 rfl) (F_event_joined_w rfG rhG c0.Kids [] 3 v2 _ e10 _ _ _ (H.enter [] [1, 2] (by decide) rfl)) ?_
 rintro _ w11 ⟨rfl, G12⟩
 have H := H8.step (G12.only : Only [] _ _)
 refine ⟨_, rfl, ?_⟩
 refine zA rfl rfl (zG (v := .string (bs x9)) rfl) ?_
 refine (zJ (zB (hK7 _ _ ?_)))
 have hR := Option.some.inj hF
 subst hR
 refine (yG (post1 (v1 := .string (bs x9)) rfl rfl ?_))
 exact ⟨rfl, H.pick [0] (by decide)⟩
end Go.Proofs.YtnajnkghilemhaaGreatDoor.L
namespace Go.Proofs.YtnajnkghilemhaaGreatDoor.L
open Go.RowKit Go.OB Go.Lf
/- orangebox/event.condText$1~z -/
set_option maxHeartbeats 4000000 in
theorem F_event_condText_1_z_w (rfG : Cond → Int → Option Str) (rhG : S_event_condText rfG) (c0 : Cond) (b1 : Nat) (v2 : Value) (r : Str) (hF : F_event_condText_1_z rfG c0 = some r) (O S : List Nat) (w : World) (H : Hd O w w S [.fz (.sl rCond v2 c0.Kids), .fz (.at b1 0 [.int .i64 c0.Kind, .string (bs c0.Name), .string (bs c0.Other), .int .i64 c0.Op, .int .i64 c0.N, .int .i64 c0.Frames, v2]), .fz (.at 0 0 ((Fl.arr 7 Fl.str).f zO))]) :
  Calls Tryz.prog 103 ([.pointer (some ⟨b1, 0, none⟩)] : List Value).toArray w fun e w' => e = .returned (.string (bs r)) ∧ Hd O w w' S [] := by
 unfold F_event_condText_1_z at hF
 refine yD 5 Tryz.func103 rfl rfl rfl ?_
 refine zD fun K6 hK6 => ?_
 refine zC ?_
 refine zA rfl rfl (zG (v := .string (bs [])) rfl) ?_
 refine (zJ (zB (hK6 _ _ ?_)))
 refine zD fun K7 hK7 => ?_
 refine zC ?_
 refine zA rfl rfl (wB rfl) ?_
 refine zA rfl rfl (zL one52 rfl (Cells.get (H.item (i := 1) rfl).2.2 (i := 6) rfl)) ?_
 have H8 := H
 obtain ⟨x9, e10, hF⟩ := zI hF
 refine yA rfl rfl (zX en104 rfl) (F_event_joined_w rfG rhG c0.Kids [] 3 v2 _ e10 _ _ _ (H.enter [] [0, 2] (by decide) rfl)) ?_
 rintro _ w11 ⟨rfl, G12⟩
 have H := H8.step (G12.only : Only [] _ _)
 refine ⟨_, rfl, ?_⟩
 refine zA rfl rfl (zG (v := .string (bs x9)) rfl) ?_
 refine (zJ (zB (hK7 _ _ ?_)))
 have hR := Option.some.inj hF
 subst hR
 refine (yG (post1 (v1 := .string (bs x9)) rfl rfl ?_))
 exact ⟨rfl, H.pick [] (by decide)⟩
end Go.Proofs.YtnajnkghilemhaaGreatDoor.L
