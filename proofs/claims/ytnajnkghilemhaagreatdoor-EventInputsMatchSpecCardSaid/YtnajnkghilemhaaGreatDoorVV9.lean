/- Walks: what each function computes, for every argument; no condition but those that stand in the statements. -/
import Derived.Test.YtnajnkghilemhaaGreatDoorVV0
import Derived.Test.YtnajnkghilemhaaGreatDoorVV8
import Derived.Test.YtnajnkghilemhaaGreatDoorVV6
import Derived.Test.YtnajnkghilemhaaGreatDoorVV4
namespace Go.Proofs.YtnajnkghilemhaaGreatDoor.L
open Go.RowKit Go.OB Go.Lf
/- orangebox/event.each@orangebox/event.checkOne: its contract -/
abbrev S_event_each_event_checkOne (f : Cond → Option Int) : Prop := ∀ (p0 : Cond) (v1 : Value) (r : Int) (hF : f p0 = some r) (O S : List Nat) (w : World) (H : Hd O w w S [.fz (.sl rCond v1 p0.Kids)]),
  Calls Tryz.prog 108 ([.agg [.int .i64 p0.Kind, .string (bs p0.Name), .string (bs p0.Other), .int .i64 p0.Op, .int .i64 p0.N, .int .i64 p0.Frames, v1].toArray, .func (.func 109) #[] #[]] : List Value).toArray w fun e w' => e = .returned (.int .i64 r) ∧ Hd O w w' S []
end Go.Proofs.YtnajnkghilemhaaGreatDoor.L
namespace Go.Proofs.YtnajnkghilemhaaGreatDoor.L
open Go.RowKit Go.OB Go.Lf
/- orangebox/event.each@orangebox/event.checkOne -/
set_option maxHeartbeats 4000000 in
theorem F_event_each_event_checkOne_B_w (rfD : Cond → Option Int) (rhD : S_event_each_event_checkOne rfD) (p0 : Cond) (v1 : Value) (r : Int) (hF : F_event_each_event_checkOne_B rfD p0 = some r) (O S : List Nat) (w : World) (H : Hd O w w S [.fz (.sl rCond v1 p0.Kids)]) :
  Calls Tryz.prog 108 ([.agg [.int .i64 p0.Kind, .string (bs p0.Name), .string (bs p0.Other), .int .i64 p0.Op, .int .i64 p0.N, .int .i64 p0.Frames, v1].toArray, .func (.func 109) #[] #[]] : List Value).toArray w fun e w' => e = .returned (.int .i64 r) ∧ Hd O w w' S [] := by
 unfold F_event_each_event_checkOne_B at hF
 refine yD 29 Tryz.func108 rfl rfl rfl ?_
 refine zD fun K3 hK3 => ?_
 refine zC ?_
 refine yY rfl rfl (Lx_box (cs := [.int .i64 p0.Kind, .string (bs p0.Name), .string (bs p0.Other), .int .i64 p0.Op, .int .i64 p0.N, .int .i64 p0.Frames, v1]) rfl H) ?_
 rintro _ w6 ⟨b4, rfl, H⟩
 refine zA rfl rfl (zG (v := .int .i64 0) rfl) ?_
 refine (zJ (zB (hK3 _ _ ?_)))
 refine zD fun K18 hK18 => ?_
 refine zD fun K19 hK19 => ?_
 refine zC ?_
 refine zA rfl rfl (zK (v := .func (.func 109) #[] #[]) rfl) ?_
 refine zA rfl rfl (zM (yT (cs := [.int .i64 p0.Kind, .string (bs p0.Name), .string (bs p0.Other), .int .i64 p0.Op, .int .i64 p0.N, .int .i64 p0.Frames, v1]) agg54 rfl sz54 rfl (Blk.cells (H.item (i := 1) rfl))) rfl) ?_
 have H20 := H
 obtain ⟨x21, e22, hF⟩ := zI hF
 refine yA rfl rfl (wH en109 rfl rfl) (F_event_checkOne_w p0 v1 _ e22 _ _ _ (H.enter [] [0] (by decide) rfl)) ?_
 rintro _ w23 ⟨rfl, G24⟩
 have H := H20.step (G24.only : Only [] _ _)
 refine ⟨_, rfl, ?_⟩
 refine zA rfl rfl (zG (v := .int .i64 x21) rfl) ?_
 refine (zJ (zB (hK19 _ _ ?_)))
 refine zD fun K25 hK25 => ?_
 refine zC ?_
 refine zA rfl rfl (zK (v := .int .i64 x21) rfl) ?_
 obtain ⟨x26, e27, hF⟩ := zF hF
 refine zA rfl rfl (zM (xO (a := x21) (b := 0) rfl rfl) (congrArg Value.bool e27)) ?_
 refine (zJ (zB (hK25 _ _ ?_)))
 refine yH (b := x26) rfl (fun c28 => ?_) (fun c28 => ?_)
 ·have hF := zV c28 hF
  refine zD fun K29 hK29 => ?_
  refine zC ?_
  refine zA rfl rfl (zK (v := .int .i64 x21) rfl) ?_
  refine zA rfl rfl (zG (v := .int .i64 x21) rfl) ?_
  refine (zJ (zB (hK29 _ _ ?_)))
  have hR := Option.some.inj hF
  subst hR
  refine (yG (yC (post1 (v1 := .int .i64 x21) rfl rfl ?_)))
  exact ⟨rfl, H.pick [] (by decide)⟩
 have hF := zW c28 hF
 refine (yI (zB (hK18 _ _ ?_)))
 obtain ⟨k186, ek187, hF⟩ := wC hF
 refine yQ [4, 7, 8, 15, 16, 17, 18, 19, 20, 21, 22, 23, 24, 25, 26, 27, 28] (fun (g : Unit) => []) (fun g wl => Hd O w wl S [] ∧ k186 () = some r) ?_ ?_
 ·skip
  refine zD fun K188 hK188 => ?_
  refine zC ?_
  refine zA rfl rfl (wB rfl) ?_
  refine zA rfl rfl (zL one52 rfl (Cells.get (Blk.cells (H.item (i := 1) rfl)) (i := 6) rfl)) ?_
  obtain ⟨x189, e190, hF⟩ := zF hF
  obtain ⟨a191, c192, q193⟩ := SlF.len ((H.item (i := 0) rfl))
  refine zA rfl rfl (zM (xA u52 q193) (congrArg (Value.int .i64) e190)) ?_
  refine zA rfl rfl (zK (v := .int .i64 0) rfl) ?_
  refine (zJ (zB (hK188 _ _ ?_)))
  refine yM ?_
  unfold F_event_each_event_checkOne_B_L1 at hF
  obtain ⟨B338, n339, eB340, hF⟩ := yZ hF
  refine xN [4, 7, 8, 18, 19, 20, 21, 22, 23, 24, 25, 26, 27, 28] (fun (g : Nat × Int) => [(18, .int .i64 g.2)]) (fun g wl => Hd O w wl S [.fz (.sl rCond v1 p0.Kids)] ∧ loopN B338 g.1 g.2 = some r) (fun g => g.1) (n339, 0) (zQ rfl zU) ⟨H.pick [0] (by decide), hF⟩ ?_
  clear H hF
  rintro ⟨n339, g337⟩ ρ w342 ⟨H, hF⟩
  obtain ⟨n343, rfl, hF⟩ := xH hF
  have hF := xG eB340 hF
  refine zD fun K344 hK344 => ?_
  refine zC ?_
  obtain ⟨x345, e346, hF⟩ := zF hF
  refine zA rfl rfl (zM (xZ (a := g337) (b := x189) rfl rfl) (congrArg Value.bool e346)) ?_
  refine (zJ (zB (hK344 _ _ ?_)))
  refine zD fun K348 hK348 => ?_
  refine yH (b := x345) rfl (fun c349 => ?_) (fun c349 => ?_)
  ·have hF := zV c349 hF
   refine (yI (zB (hK348 _ _ ?_)))
   refine zD fun K381 hK381 => ?_
   refine yM ?_
   refine zD fun K382 hK382 => ?_
   refine zC ?_
   obtain ⟨x383, e384, hF⟩ := zI hF
   obtain ⟨b385, o386, c387, cs388, q389, h392, h390, h391, h393⟩ := rd_at (H.item (i := 0) rfl) e384
   obtain ⟨v394, rfl, h395⟩ := rCond_open h392
   have H := H.fzs [.at b385 (o386 + g337.toNat * 7) _, .sl rCond v394 x383.Kids] ⟨⟨h390, h391, h393⟩, h395, trivial⟩
   refine zA rfl rfl (xY u52 sz54 q389 rfl (yP e384).1 (yP e384).2.1 rfl rfl) ?_
   refine zA rfl rfl (zM (yT (cs := [.int .i64 x383.Kind, .string (bs x383.Name), .string (bs x383.Other), .int .i64 x383.Op, .int .i64 x383.N, .int .i64 x383.Frames, v394]) agg54 rfl sz54 rfl (H.item (i := 1) rfl).2.2) rfl) ?_
   refine yY rfl rfl (xJ zero54 H) ?_
   rintro _ w400 ⟨b398, rfl, H⟩
   refine yV rfl (yN (vs := [.int .i64 x383.Kind, .string (bs x383.Name), .string (bs x383.Other), .int .i64 x383.Op, .int .i64 x383.N, .int .i64 x383.Frames, v394]) H 3 rfl sz54 rfl rfl rfl ⟨rfl, rfl, rfl, rfl, rfl, rfl, (slf_one (H.item (i := 2) rfl)), trivial⟩ rfl) ?_
   rintro w401 H
   refine (zJ (zB (hK382 _ _ ?_)))
   refine zD fun K402 hK402 => ?_
   refine zC ?_
   refine zA rfl rfl (zM (yT (cs := [.int .i64 x383.Kind, .string (bs x383.Name), .string (bs x383.Other), .int .i64 x383.Op, .int .i64 x383.N, .int .i64 x383.Frames, v394]) agg54 rfl sz54 rfl (Blk.cells (H.item (i := 3) rfl))) rfl) ?_
   refine zA rfl rfl (zK (v := .func (.func 109) #[] #[]) rfl) ?_
   have H403 := H
   obtain ⟨x404, e405, hF⟩ := zI hF
   refine yA rfl rfl (zX en108 rfl) (rhD x383 v394 _ e405 _ _ _ (H.enter [] [2] (by decide) rfl)) ?_
   rintro _ w406 ⟨rfl, G407⟩
   have H := H403.step (G407.only : Only [] _ _)
   refine ⟨_, rfl, ?_⟩
   refine zA rfl rfl (zG (v := .int .i64 x404) rfl) ?_
   refine (zJ (zB (hK402 _ _ ?_)))
   refine zD fun K408 hK408 => ?_
   refine zC ?_
   refine zA rfl rfl (zK (v := .int .i64 x404) rfl) ?_
   obtain ⟨x409, e410, hF⟩ := zF hF
   refine zA rfl rfl (zM (xO (a := x404) (b := 0) rfl rfl) (congrArg Value.bool e410)) ?_
   refine (zJ (zB (hK408 _ _ ?_)))
   refine yH (b := x409) rfl (fun c411 => ?_) (fun c411 => ?_)
   ·have hF := zV c411 hF
    refine zD fun K412 hK412 => ?_
    refine zC ?_
    refine zA rfl rfl (zK (v := .int .i64 x404) rfl) ?_
    refine zA rfl rfl (zG (v := .int .i64 x404) rfl) ?_
    refine (zJ (zB (hK412 _ _ ?_)))
    have hR := Option.some.inj hF
    subst hR
    refine (yG (yJ (yC (yC (yJ (yC (post1 (v1 := .int .i64 x404) rfl rfl ?_)))))))
    exact ⟨rfl, H.pick [] (by decide)⟩
   have hF := zW c411 hF
   refine (yI (yX (zB (hK381 _ _ ?_))))
   refine zC ?_
   obtain ⟨x413, e414, hF⟩ := zF hF
   refine zA rfl rfl (wE (a := g337) (b := 1) rfl rfl e414) ?_
   refine zA rfl rfl (zK (v := .int .i64 x413) rfl) ?_
   refine (zJ (zB (And.intro ?_ ?_)))
   ·repeat' (first | with_reducible exact zS | refine zZ rfl ?_ | refine zT rfl rfl ?_)
   exact ⟨(n343, x413), (zQ rfl zU), ⟨H.pick [0] (by decide), hF⟩, Nat.lt_succ_self _⟩
  have hF := zW c349 hF
  refine (xW (yU (yU (xE (zB (And.intro ?_ ?_))))))
  ·repeat' (first | with_reducible exact zS | refine zZ rfl ?_ | refine zT rfl rfl ?_)
  exact ⟨(), zU, ⟨H.pick [] (by decide), hF⟩⟩
 rintro _ ρ w185 ⟨H, hF⟩
 have hF := wJ ek187 hF
 refine zD fun K415 hK415 => ?_
 refine zC ?_
 refine zA rfl rfl (zG (v := .int .i64 0) rfl) ?_
 refine (zJ (zB (hK415 _ _ ?_)))
 have hR := Option.some.inj hF
 subst hR
 refine (yG (post1 (v1 := .int .i64 0) rfl rfl ?_))
 exact ⟨rfl, H.pick [] (by decide)⟩
theorem F_event_each_event_checkOne_s : S_event_each_event_checkOne (F_event_each_event_checkOne) := by
 have h : ∀ n, S_event_each_event_checkOne (F_event_each_event_checkOne_R n) := by
  intro n
  induction n with
  | zero => intro p0 v1 r hF; cases hF
  | succ n ih => intro p0 v1 r hF; exact F_event_each_event_checkOne_B_w (F_event_each_event_checkOne_R n) ih p0 v1 r hF
 exact h FU
end Go.Proofs.YtnajnkghilemhaaGreatDoor.L
namespace Go.Proofs.YtnajnkghilemhaaGreatDoor.L
open Go.RowKit Go.OB Go.Lf
/- orangebox/event.CheckCond -/
set_option maxHeartbeats 4000000 in
theorem F_event_CheckCond_w (p0 : Cond) (v1 : Value) (r : Int) (hF : F_event_CheckCond p0 = some r) (O S : List Nat) (w : World) (H : Hd O w w S [.fz (.sl rCond v1 p0.Kids)]) :
  Calls Tryz.prog 56 ([.agg [.int .i64 p0.Kind, .string (bs p0.Name), .string (bs p0.Other), .int .i64 p0.Op, .int .i64 p0.N, .int .i64 p0.Frames, v1].toArray] : List Value).toArray w fun e w' => e = .returned (.int .i64 r) ∧ Hd O w w' S [] := by
 unfold F_event_CheckCond at hF
 refine yD 9 Tryz.func56 rfl rfl rfl ?_
 refine zD fun K3 hK3 => ?_
 refine zC ?_
 refine yY rfl rfl (Lx_box (cs := [.int .i64 p0.Kind, .string (bs p0.Name), .string (bs p0.Other), .int .i64 p0.Op, .int .i64 p0.N, .int .i64 p0.Frames, v1]) rfl H) ?_
 rintro _ w6 ⟨b4, rfl, H⟩
 refine zA rfl rfl (zG (v := .int .i64 0) rfl) ?_
 refine (zJ (zB (hK3 _ _ ?_)))
 refine zD fun K7 hK7 => ?_
 refine zC ?_
 refine yY rfl rfl (xJ zero3 H) ?_
 rintro _ w10 ⟨b8, rfl, H⟩
 refine yV rfl (xX H 2 rfl sz3 rfl (v := .int .i64 0) rfl rfl rfl) ?_
 rintro w11 H
 refine (zJ (zB (hK7 _ _ ?_)))
 refine zD fun K22 hK22 => ?_
 refine zD fun K23 hK23 => ?_
 refine zC ?_
 refine zA rfl rfl (zM (yT (cs := [.int .i64 p0.Kind, .string (bs p0.Name), .string (bs p0.Other), .int .i64 p0.Op, .int .i64 p0.N, .int .i64 p0.Frames, v1]) agg54 rfl sz54 rfl (Blk.cells (H.item (i := 1) rfl))) rfl) ?_
 obtain ⟨⟨x24, x25⟩, e26, hF⟩ := zI hF
 refine yA rfl rfl (zX en107 rfl) (F_event_small_s p0 20 0 v1 b8 _ e26 _ _ _ (H.enter [2] [0] (by decide) rfl)) ?_
 rintro _ w27 ⟨rfl, G28⟩
 have H : Hd O _ w27 _ [.fz (.sl rCond v1 p0.Kids), .blk b4 [.int .i64 p0.Kind, .string (bs p0.Name), .string (bs p0.Other), .int .i64 p0.Op, .int .i64 p0.N, .int .i64 p0.Frames, v1] 54, .blk b8 [.int .i64 x25] 3] := H.back [2] [0] rfl G28
 refine ⟨_, rfl, ?_⟩
 obtain ⟨x29, e30, hF⟩ := zF hF
 refine zA rfl rfl (zM (yS (p := x24) rfl) (congrArg Value.bool e30)) ?_
 refine (zJ (zB (hK23 _ _ ?_)))
 refine yH (b := x29) rfl (fun c31 => ?_) (fun c31 => ?_)
 ·have hF := zV c31 hF
  refine zD fun K32 hK32 => ?_
  refine zC ?_
  refine zA rfl rfl (zG (v := .int .i64 3) rfl) ?_
  refine (zJ (zB (hK32 _ _ ?_)))
  have hR := Option.some.inj hF
  subst hR
  refine (yG (yC (post1 (v1 := .int .i64 3) rfl rfl ?_)))
  exact ⟨rfl, H.pick [] (by decide)⟩
 have hF := zW c31 hF
 refine (yI (zB (hK22 _ _ ?_)))
 refine zD fun K33 hK33 => ?_
 refine zC ?_
 refine zA rfl rfl (zM (yT (cs := [.int .i64 p0.Kind, .string (bs p0.Name), .string (bs p0.Other), .int .i64 p0.Op, .int .i64 p0.N, .int .i64 p0.Frames, v1]) agg54 rfl sz54 rfl (Blk.cells (H.item (i := 1) rfl))) rfl) ?_
 have H34 := H
 obtain ⟨x35, e36, hF⟩ := zI hF
 refine yA rfl rfl (zX en108 rfl) (F_event_each_event_checkOne_s p0 v1 _ e36 _ _ _ (H.enter [] [0] (by decide) rfl)) ?_
 rintro _ w37 ⟨rfl, G38⟩
 have H := H34.step (G38.only : Only [] _ _)
 refine ⟨_, rfl, ?_⟩
 refine zA rfl rfl (zG (v := .int .i64 x35) rfl) ?_
 refine (zJ (zB (hK33 _ _ ?_)))
 have hR := Option.some.inj hF
 subst hR
 refine (yG (post1 (v1 := .int .i64 x35) rfl rfl ?_))
 exact ⟨rfl, H.pick [] (by decide)⟩
end Go.Proofs.YtnajnkghilemhaaGreatDoor.L
namespace Go.Proofs.YtnajnkghilemhaaGreatDoor.L
open Go.RowKit Go.OB Go.Lf
/- orangebox/event.checkMove$1 -/
set_option maxHeartbeats 4000000 in
theorem F_event_checkMove_1_w (p0 : Cond) (v1 : Value) (r : Int) (hF : F_event_checkMove_1 p0 = some r) (O S : List Nat) (w : World) (H : Hd O w w S [.fz (.sl rCond v1 p0.Kids)]) :
  Calls Tryz.prog 145 ([.agg [.int .i64 p0.Kind, .string (bs p0.Name), .string (bs p0.Other), .int .i64 p0.Op, .int .i64 p0.N, .int .i64 p0.Frames, v1].toArray] : List Value).toArray w fun e w' => e = .returned (.int .i64 r) ∧ Hd O w w' S [] := by
 unfold F_event_checkMove_1 at hF
 refine yD 11 Tryz.func145 rfl rfl rfl ?_
 refine zD fun K3 hK3 => ?_
 refine zC ?_
 refine yY rfl rfl (Lx_box (cs := [.int .i64 p0.Kind, .string (bs p0.Name), .string (bs p0.Other), .int .i64 p0.Op, .int .i64 p0.N, .int .i64 p0.Frames, v1]) rfl H) ?_
 rintro _ w6 ⟨b4, rfl, H⟩
 refine zA rfl rfl (zG (v := .int .i64 0) rfl) ?_
 refine (zJ (zB (hK3 _ _ ?_)))
 refine zD fun K17 hK17 => ?_
 obtain ⟨g23, hF, hK25⟩ := zI hF
 refine yQ [3, 4, 5, 6, 7, 8, 9, 10] (fun (g : Unit) => [(10, .bool g23)]) (fun g wl => Hd O w wl S []) ?_ ?_
 ·skip
  refine zC ?_
  refine zA rfl rfl (fa54_0 rfl) ?_
  refine zA rfl rfl (zL one3 rfl (Cells.get (Blk.cells (H.item (i := 1) rfl)) (i := 0) rfl)) ?_
  obtain ⟨x26, e27, hF⟩ := zF hF
  refine zA rfl rfl (zM (xC (a := p0.Kind) (b := 6) rfl rfl) (congrArg Value.bool e27)) ?_
  refine yE (b := x26) rfl rfl rfl (fun c28 => ?_) (fun c28 => ?_)
  ·have hF := zV c28 hF
   refine zH rfl rfl ?_
   refine zH rfl rfl ?_
   refine zH rfl rfl ?_
   refine zA rfl rfl (zY (v := .bool true) rfl rfl) ?_
   have hR := Option.some.inj hF
   subst hR
   refine (zJ (zB (And.intro ?_ ?_)))
   ·repeat' (first | with_reducible exact zS | refine zZ rfl ?_ | refine zT rfl rfl ?_)
   exact ⟨(), (zQ rfl zU), H.pick [] (by decide)⟩
  have hF := zW c28 hF
  refine zA rfl rfl (fa54_0 rfl) ?_
  refine zA rfl rfl (zL one3 rfl (Cells.get (Blk.cells (H.item (i := 1) rfl)) (i := 0) rfl)) ?_
  obtain ⟨x29, e30, hF⟩ := zF hF
  refine zA rfl rfl (zM (xC (a := p0.Kind) (b := 7) rfl rfl) (congrArg Value.bool e30)) ?_
  refine zA rfl rfl (zN (v := .bool x29) rfl rfl) ?_
  have hR := Option.some.inj hF
  subst hR
  refine (zJ (zB (And.intro ?_ ?_)))
  ·repeat' (first | with_reducible exact zS | refine zZ rfl ?_ | refine zT rfl rfl ?_)
  exact ⟨(), (zQ rfl zU), H.pick [] (by decide)⟩
 rintro _ ρ w24 H
 have hF := hK25
 refine yH (b := g23) rfl (fun c31 => ?_) (fun c31 => ?_)
 ·have hF := zV c31 hF
  refine zD fun K32 hK32 => ?_
  refine zC ?_
  refine zA rfl rfl (zG (v := .int .i64 2) rfl) ?_
  refine (zJ (zB (hK32 _ _ ?_)))
  have hR := Option.some.inj hF
  subst hR
  refine (yG (yC (post1 (v1 := .int .i64 2) rfl rfl ?_)))
  exact ⟨rfl, H.pick [] (by decide)⟩
 have hF := zW c31 hF
 refine (yI (zB (hK17 _ _ ?_)))
 refine zD fun K33 hK33 => ?_
 refine zC ?_
 refine zA rfl rfl (zG (v := .int .i64 0) rfl) ?_
 refine (zJ (zB (hK33 _ _ ?_)))
 have hR := Option.some.inj hF
 subst hR
 refine (yG (post1 (v1 := .int .i64 0) rfl rfl ?_))
 exact ⟨rfl, H.pick [] (by decide)⟩
end Go.Proofs.YtnajnkghilemhaaGreatDoor.L
namespace Go.Proofs.YtnajnkghilemhaaGreatDoor.L
open Go.RowKit Go.OB Go.Lf
/- orangebox/event.each@orangebox/event.checkMove$1: its contract -/
abbrev S_event_each_event_checkMove_1 (f : Cond → Option Int) : Prop := ∀ (p0 : Cond) (v1 : Value) (r : Int) (hF : f p0 = some r) (O S : List Nat) (w : World) (H : Hd O w w S [.fz (.sl rCond v1 p0.Kids)]),
  Calls Tryz.prog 108 ([.agg [.int .i64 p0.Kind, .string (bs p0.Name), .string (bs p0.Other), .int .i64 p0.Op, .int .i64 p0.N, .int .i64 p0.Frames, v1].toArray, .func (.func 145) #[] #[]] : List Value).toArray w fun e w' => e = .returned (.int .i64 r) ∧ Hd O w w' S []
end Go.Proofs.YtnajnkghilemhaaGreatDoor.L
namespace Go.Proofs.YtnajnkghilemhaaGreatDoor.L
open Go.RowKit Go.OB Go.Lf
/- orangebox/event.each@orangebox/event.checkMove$1 -/
set_option maxHeartbeats 4000000 in
theorem F_event_each_event_checkMove_1_B_w (rfE : Cond → Option Int) (rhE : S_event_each_event_checkMove_1 rfE) (p0 : Cond) (v1 : Value) (r : Int) (hF : F_event_each_event_checkMove_1_B rfE p0 = some r) (O S : List Nat) (w : World) (H : Hd O w w S [.fz (.sl rCond v1 p0.Kids)]) :
  Calls Tryz.prog 108 ([.agg [.int .i64 p0.Kind, .string (bs p0.Name), .string (bs p0.Other), .int .i64 p0.Op, .int .i64 p0.N, .int .i64 p0.Frames, v1].toArray, .func (.func 145) #[] #[]] : List Value).toArray w fun e w' => e = .returned (.int .i64 r) ∧ Hd O w w' S [] := by
 unfold F_event_each_event_checkMove_1_B at hF
 refine yD 29 Tryz.func108 rfl rfl rfl ?_
 refine zD fun K3 hK3 => ?_
 refine zC ?_
 refine yY rfl rfl (Lx_box (cs := [.int .i64 p0.Kind, .string (bs p0.Name), .string (bs p0.Other), .int .i64 p0.Op, .int .i64 p0.N, .int .i64 p0.Frames, v1]) rfl H) ?_
 rintro _ w6 ⟨b4, rfl, H⟩
 refine zA rfl rfl (zG (v := .int .i64 0) rfl) ?_
 refine (zJ (zB (hK3 _ _ ?_)))
 refine zD fun K18 hK18 => ?_
 refine zD fun K19 hK19 => ?_
 refine zC ?_
 refine zA rfl rfl (zK (v := .func (.func 145) #[] #[]) rfl) ?_
 refine zA rfl rfl (zM (yT (cs := [.int .i64 p0.Kind, .string (bs p0.Name), .string (bs p0.Other), .int .i64 p0.Op, .int .i64 p0.N, .int .i64 p0.Frames, v1]) agg54 rfl sz54 rfl (Blk.cells (H.item (i := 1) rfl))) rfl) ?_
 have H20 := H
 obtain ⟨x21, e22, hF⟩ := zI hF
 refine yA rfl rfl (wH en145 rfl rfl) (F_event_checkMove_1_w p0 v1 _ e22 _ _ _ (H.enter [] [0] (by decide) rfl)) ?_
 rintro _ w23 ⟨rfl, G24⟩
 have H := H20.step (G24.only : Only [] _ _)
 refine ⟨_, rfl, ?_⟩
 refine zA rfl rfl (zG (v := .int .i64 x21) rfl) ?_
 refine (zJ (zB (hK19 _ _ ?_)))
 refine zD fun K25 hK25 => ?_
 refine zC ?_
 refine zA rfl rfl (zK (v := .int .i64 x21) rfl) ?_
 obtain ⟨x26, e27, hF⟩ := zF hF
 refine zA rfl rfl (zM (xO (a := x21) (b := 0) rfl rfl) (congrArg Value.bool e27)) ?_
 refine (zJ (zB (hK25 _ _ ?_)))
 refine yH (b := x26) rfl (fun c28 => ?_) (fun c28 => ?_)
 ·have hF := zV c28 hF
  refine zD fun K29 hK29 => ?_
  refine zC ?_
  refine zA rfl rfl (zK (v := .int .i64 x21) rfl) ?_
  refine zA rfl rfl (zG (v := .int .i64 x21) rfl) ?_
  refine (zJ (zB (hK29 _ _ ?_)))
  have hR := Option.some.inj hF
  subst hR
  refine (yG (yC (post1 (v1 := .int .i64 x21) rfl rfl ?_)))
  exact ⟨rfl, H.pick [] (by decide)⟩
 have hF := zW c28 hF
 refine (yI (zB (hK18 _ _ ?_)))
 obtain ⟨k186, ek187, hF⟩ := wC hF
 refine yQ [4, 7, 8, 15, 16, 17, 18, 19, 20, 21, 22, 23, 24, 25, 26, 27, 28] (fun (g : Unit) => []) (fun g wl => Hd O w wl S [] ∧ k186 () = some r) ?_ ?_
 ·skip
  refine zD fun K188 hK188 => ?_
  refine zC ?_
  refine zA rfl rfl (wB rfl) ?_
  refine zA rfl rfl (zL one52 rfl (Cells.get (Blk.cells (H.item (i := 1) rfl)) (i := 6) rfl)) ?_
  obtain ⟨x189, e190, hF⟩ := zF hF
  obtain ⟨a191, c192, q193⟩ := SlF.len ((H.item (i := 0) rfl))
  refine zA rfl rfl (zM (xA u52 q193) (congrArg (Value.int .i64) e190)) ?_
  refine zA rfl rfl (zK (v := .int .i64 0) rfl) ?_
  refine (zJ (zB (hK188 _ _ ?_)))
  refine yM ?_
  unfold F_event_each_event_checkMove_1_B_L1 at hF
  obtain ⟨B338, n339, eB340, hF⟩ := yZ hF
  refine xN [4, 7, 8, 18, 19, 20, 21, 22, 23, 24, 25, 26, 27, 28] (fun (g : Nat × Int) => [(18, .int .i64 g.2)]) (fun g wl => Hd O w wl S [.fz (.sl rCond v1 p0.Kids)] ∧ loopN B338 g.1 g.2 = some r) (fun g => g.1) (n339, 0) (zQ rfl zU) ⟨H.pick [0] (by decide), hF⟩ ?_
  clear H hF
  rintro ⟨n339, g337⟩ ρ w342 ⟨H, hF⟩
  obtain ⟨n343, rfl, hF⟩ := xH hF
  have hF := xG eB340 hF
  refine zD fun K344 hK344 => ?_
  refine zC ?_
  obtain ⟨x345, e346, hF⟩ := zF hF
  refine zA rfl rfl (zM (xZ (a := g337) (b := x189) rfl rfl) (congrArg Value.bool e346)) ?_
  refine (zJ (zB (hK344 _ _ ?_)))
  refine zD fun K348 hK348 => ?_
  refine yH (b := x345) rfl (fun c349 => ?_) (fun c349 => ?_)
  ·have hF := zV c349 hF
   refine (yI (zB (hK348 _ _ ?_)))
   refine zD fun K381 hK381 => ?_
   refine yM ?_
   refine zD fun K382 hK382 => ?_
   refine zC ?_
   obtain ⟨x383, e384, hF⟩ := zI hF
   obtain ⟨b385, o386, c387, cs388, q389, h392, h390, h391, h393⟩ := rd_at (H.item (i := 0) rfl) e384
   obtain ⟨v394, rfl, h395⟩ := rCond_open h392
   have H := H.fzs [.at b385 (o386 + g337.toNat * 7) _, .sl rCond v394 x383.Kids] ⟨⟨h390, h391, h393⟩, h395, trivial⟩
   refine zA rfl rfl (xY u52 sz54 q389 rfl (yP e384).1 (yP e384).2.1 rfl rfl) ?_
   refine zA rfl rfl (zM (yT (cs := [.int .i64 x383.Kind, .string (bs x383.Name), .string (bs x383.Other), .int .i64 x383.Op, .int .i64 x383.N, .int .i64 x383.Frames, v394]) agg54 rfl sz54 rfl (H.item (i := 1) rfl).2.2) rfl) ?_
   refine yY rfl rfl (xJ zero54 H) ?_
   rintro _ w400 ⟨b398, rfl, H⟩
   refine yV rfl (yN (vs := [.int .i64 x383.Kind, .string (bs x383.Name), .string (bs x383.Other), .int .i64 x383.Op, .int .i64 x383.N, .int .i64 x383.Frames, v394]) H 3 rfl sz54 rfl rfl rfl ⟨rfl, rfl, rfl, rfl, rfl, rfl, (slf_one (H.item (i := 2) rfl)), trivial⟩ rfl) ?_
   rintro w401 H
   refine (zJ (zB (hK382 _ _ ?_)))
   refine zD fun K402 hK402 => ?_
   refine zC ?_
   refine zA rfl rfl (zM (yT (cs := [.int .i64 x383.Kind, .string (bs x383.Name), .string (bs x383.Other), .int .i64 x383.Op, .int .i64 x383.N, .int .i64 x383.Frames, v394]) agg54 rfl sz54 rfl (Blk.cells (H.item (i := 3) rfl))) rfl) ?_
   refine zA rfl rfl (zK (v := .func (.func 145) #[] #[]) rfl) ?_
   have H403 := H
   obtain ⟨x404, e405, hF⟩ := zI hF
   refine yA rfl rfl (zX en108 rfl) (rhE x383 v394 _ e405 _ _ _ (H.enter [] [2] (by decide) rfl)) ?_
   rintro _ w406 ⟨rfl, G407⟩
   have H := H403.step (G407.only : Only [] _ _)
   refine ⟨_, rfl, ?_⟩
   refine zA rfl rfl (zG (v := .int .i64 x404) rfl) ?_
   refine (zJ (zB (hK402 _ _ ?_)))
   refine zD fun K408 hK408 => ?_
   refine zC ?_
   refine zA rfl rfl (zK (v := .int .i64 x404) rfl) ?_
   obtain ⟨x409, e410, hF⟩ := zF hF
   refine zA rfl rfl (zM (xO (a := x404) (b := 0) rfl rfl) (congrArg Value.bool e410)) ?_
   refine (zJ (zB (hK408 _ _ ?_)))
   refine yH (b := x409) rfl (fun c411 => ?_) (fun c411 => ?_)
   ·have hF := zV c411 hF
    refine zD fun K412 hK412 => ?_
    refine zC ?_
    refine zA rfl rfl (zK (v := .int .i64 x404) rfl) ?_
    refine zA rfl rfl (zG (v := .int .i64 x404) rfl) ?_
    refine (zJ (zB (hK412 _ _ ?_)))
    have hR := Option.some.inj hF
    subst hR
    refine (yG (yJ (yC (yC (yJ (yC (post1 (v1 := .int .i64 x404) rfl rfl ?_)))))))
    exact ⟨rfl, H.pick [] (by decide)⟩
   have hF := zW c411 hF
   refine (yI (yX (zB (hK381 _ _ ?_))))
   refine zC ?_
   obtain ⟨x413, e414, hF⟩ := zF hF
   refine zA rfl rfl (wE (a := g337) (b := 1) rfl rfl e414) ?_
   refine zA rfl rfl (zK (v := .int .i64 x413) rfl) ?_
   refine (zJ (zB (And.intro ?_ ?_)))
   ·repeat' (first | with_reducible exact zS | refine zZ rfl ?_ | refine zT rfl rfl ?_)
   exact ⟨(n343, x413), (zQ rfl zU), ⟨H.pick [0] (by decide), hF⟩, Nat.lt_succ_self _⟩
  have hF := zW c349 hF
  refine (xW (yU (yU (xE (zB (And.intro ?_ ?_))))))
  ·repeat' (first | with_reducible exact zS | refine zZ rfl ?_ | refine zT rfl rfl ?_)
  exact ⟨(), zU, ⟨H.pick [] (by decide), hF⟩⟩
 rintro _ ρ w185 ⟨H, hF⟩
 have hF := wJ ek187 hF
 refine zD fun K415 hK415 => ?_
 refine zC ?_
 refine zA rfl rfl (zG (v := .int .i64 0) rfl) ?_
 refine (zJ (zB (hK415 _ _ ?_)))
 have hR := Option.some.inj hF
 subst hR
 refine (yG (post1 (v1 := .int .i64 0) rfl rfl ?_))
 exact ⟨rfl, H.pick [] (by decide)⟩
theorem F_event_each_event_checkMove_1_s : S_event_each_event_checkMove_1 (F_event_each_event_checkMove_1) := by
 have h : ∀ n, S_event_each_event_checkMove_1 (F_event_each_event_checkMove_1_R n) := by
  intro n
  induction n with
  | zero => intro p0 v1 r hF; cases hF
  | succ n ih => intro p0 v1 r hF; exact F_event_each_event_checkMove_1_B_w (F_event_each_event_checkMove_1_R n) ih p0 v1 r hF
 exact h FU
end Go.Proofs.YtnajnkghilemhaaGreatDoor.L
namespace Go.Proofs.YtnajnkghilemhaaGreatDoor.L
open Go.RowKit Go.OB Go.Lf
/- orangebox/event.checkMove -/
set_option maxHeartbeats 4000000 in
theorem F_event_checkMove_w (p0 : Rules) (p1 : MoveT) (v1 : Value) (v2 : Value) (v3 : Value) (v7 : Value) (r : Int) (hF : F_event_checkMove p0 p1 = some r) (O S : List Nat) (w : World) (H : Hd O w w S [.fz (.sl Rp.str v1 p0.Phases), .fz (.sl rMoveT v2 p0.Moves), .fz (.sl rRule v3 p0.Rules), .fz (.sl rCond v7 p1.When.Kids)]) :
  Calls Tryz.prog 93 ([.agg [v1, v2, v3].toArray, .agg [.string (bs p1.From), .string (bs p1.To), .int .i64 p1.When.Kind, .string (bs p1.When.Name), .string (bs p1.When.Other), .int .i64 p1.When.Op, .int .i64 p1.When.N, .int .i64 p1.When.Frames, v7].toArray] : List Value).toArray w fun e w' => e = .returned (.int .i64 r) ∧ Hd O w w' S [] := by
 unfold F_event_checkMove at hF
 refine yD 33 Tryz.func93 rfl rfl rfl ?_
 refine zD fun K9 hK9 => ?_
 refine zC ?_
 refine yY rfl rfl (Lx_box (cs := [v1, v2, v3]) rfl H) ?_
 rintro _ w12 ⟨b10, rfl, H⟩
 refine yY rfl rfl (Lx_box (cs := [.string (bs p1.From), .string (bs p1.To), .int .i64 p1.When.Kind, .string (bs p1.When.Name), .string (bs p1.When.Other), .int .i64 p1.When.Op, .int .i64 p1.When.N, .int .i64 p1.When.Frames, v7]) rfl H) ?_
 rintro _ w15 ⟨b13, rfl, H⟩
 refine zA rfl rfl (zG (v := .int .i64 0) rfl) ?_
 refine (zJ (zB (hK9 _ _ ?_)))
 obtain ⟨k141, ek142, hF⟩ := wC hF
 refine yQ [4, 6, 8, 9, 10, 11, 12, 13, 14, 15, 16, 17, 18, 19, 20, 21, 22, 23] (fun (g : Unit) => []) (fun g wl => Hd O w wl S [.fz (.sl rCond v7 p1.When.Kids), .blk b13 [.string (bs p1.From), .string (bs p1.To), .int .i64 p1.When.Kind, .string (bs p1.When.Name), .string (bs p1.When.Other), .int .i64 p1.When.Op, .int .i64 p1.When.N, .int .i64 p1.When.Frames, v7] 102] ∧ k141 () = some r) ?_ ?_
 ·skip
  refine zD fun K143 hK143 => ?_
  refine zC ?_
  refine zA rfl rfl (fa102_0 rfl) ?_
  refine zA rfl rfl (zL one9 rfl (Cells.get (Blk.cells (H.item (i := 5) rfl)) (i := 0) rfl)) ?_
  refine zA rfl rfl (fa102_1 rfl) ?_
  refine zA rfl rfl (zL one9 rfl (Cells.get (Blk.cells (H.item (i := 5) rfl)) (i := 1) rfl)) ?_
  obtain ⟨x144, e145, hF⟩ := zF hF
  subst e145
  refine yY rfl rfl (Lx_bs (r := Rp.str) (xl := [p1.From, p1.To]) (cs := [.string (bs p1.From), .string (bs p1.To)]) u22 el9 (by decide) (by decide) rfl (wF (vs := [.string (bs p1.From), .string (bs p1.To)]) (by decide) rfl rfl ⟨rfl, rfl, trivial⟩ rfl) H ⟨[.string (bs p1.From)], [.string (bs p1.To)], rfl, rfl, ⟨[.string (bs p1.To)], [], rfl, rfl, rfl⟩⟩) ?_
  rintro v147 w148 H
  obtain ⟨x149, e150, hF⟩ := zF hF
  obtain ⟨a151, c152, q153⟩ := Sr.len (Sr.of_own (H.item (i := 6) rfl))
  refine zA rfl rfl (zM (xA u22 q153) (congrArg (Value.int .i64) e150)) ?_
  refine zA rfl rfl (zK (v := .int .i64 0) rfl) ?_
  refine (zJ (zB (hK143 _ _ ?_)))
  refine yM ?_
  unfold F_event_checkMove_L1 at hF
  obtain ⟨B262, n263, eB264, hF⟩ := yZ hF
  refine xN [4, 6, 14, 15, 16, 17, 18, 19, 20, 21, 22, 23] (fun (g : Nat × Int) => [(14, .int .i64 g.2)]) (fun g wl => Hd O w wl S [.fz (.sl Rp.str v1 p0.Phases), .fz (.sl rMoveT v2 p0.Moves), .fz (.sl rRule v3 p0.Rules), .fz (.sl rCond v7 p1.When.Kids), .blk b10 [v1, v2, v3] 26, .blk b13 [.string (bs p1.From), .string (bs p1.To), .int .i64 p1.When.Kind, .string (bs p1.When.Name), .string (bs p1.When.Other), .int .i64 p1.When.Op, .int .i64 p1.When.N, .int .i64 p1.When.Frames, v7] 102, .own Rp.str v147 9 ([p1.From, p1.To] : List Str)] ∧ loopN B262 g.1 g.2 = some r) (fun g => g.1) (n263, 0) (zQ rfl zU) ⟨H.pick [0, 1, 2, 3, 4, 5, 6] (by decide), hF⟩ ?_
  clear H hF
  rintro ⟨n263, g261⟩ ρ w266 ⟨H, hF⟩
  obtain ⟨n267, rfl, hF⟩ := xH hF
  have hF := xG eB264 hF
  refine zD fun K268 hK268 => ?_
  refine zC ?_
  obtain ⟨x269, e270, hF⟩ := zF hF
  refine zA rfl rfl (zM (xZ (a := g261) (b := x149) rfl rfl) (congrArg Value.bool e270)) ?_
  refine (zJ (zB (hK268 _ _ ?_)))
  refine zD fun K272 hK272 => ?_
  refine yH (b := x269) rfl (fun c273 => ?_) (fun c273 => ?_)
  ·have hF := zV c273 hF
   refine (yI (zB (hK272 _ _ ?_)))
   refine zD fun K296 hK296 => ?_
   refine yM ?_
   refine zD fun K297 hK297 => ?_
   refine zC ?_
   obtain ⟨x298, e299, hF⟩ := zI hF
   obtain ⟨b300, c302, cs303, q304, h307, h308⟩ := own_at (H.item (i := 6) rfl) e299
   obtain rfl : cs303 = [.string (bs x298)] := h307
   refine zA rfl rfl (xY u22 sz9 q304 rfl (yP e299).1 (yP e299).2.1 rfl rfl) ?_
   refine zA rfl rfl (zL one9 rfl (Cells.get h308 (i := 0) rfl)) ?_
   refine zA rfl rfl (zG (v := .string (bs x298)) rfl) ?_
   refine (zJ (zB (hK297 _ _ ?_)))
   refine zD fun K309 hK309 => ?_
   refine zC ?_
   refine zA rfl rfl (fa26_0 rfl) ?_
   refine zA rfl rfl (zL one22 rfl (Cells.get (Blk.cells (H.item (i := 4) rfl)) (i := 0) rfl)) ?_
   refine zA rfl rfl (zK (v := .string (bs x298)) rfl) ?_
   have H310 := H
   obtain ⟨x311, e312, hF⟩ := zI hF
   refine yA rfl rfl (zX en65 rfl) (F_slices_Contains___string_string__w p0.Phases x298 v1 _ e312 _ _ _ (H.enter [] [0] (by decide) rfl)) ?_
   rintro _ w313 ⟨rfl, G314⟩
   have H := H310.step (G314.only : Only [] _ _)
   refine ⟨_, rfl, ?_⟩
   obtain ⟨x315, e316, hF⟩ := zF hF
   refine zA rfl rfl (zM (yS (p := x311) rfl) (congrArg Value.bool e316)) ?_
   refine (zJ (zB (hK309 _ _ ?_)))
   refine yH (b := x315) rfl (fun c317 => ?_) (fun c317 => ?_)
   ·have hF := zV c317 hF
    refine zD fun K318 hK318 => ?_
    refine zC ?_
    refine zA rfl rfl (zG (v := .int .i64 4) rfl) ?_
    refine (zJ (zB (hK318 _ _ ?_)))
    have hR := Option.some.inj hF
    subst hR
    refine (yG (yJ (yC (yC (yJ (yC (post1 (v1 := .int .i64 4) rfl rfl ?_)))))))
    exact ⟨rfl, H.pick [] (by decide)⟩
   have hF := zW c317 hF
   refine (yI (yX (zB (hK296 _ _ ?_))))
   refine zC ?_
   obtain ⟨x319, e320, hF⟩ := zF hF
   refine zA rfl rfl (wE (a := g261) (b := 1) rfl rfl e320) ?_
   refine zA rfl rfl (zK (v := .int .i64 x319) rfl) ?_
   refine (zJ (zB (And.intro ?_ ?_)))
   ·repeat' (first | with_reducible exact zS | refine zZ rfl ?_ | refine zT rfl rfl ?_)
   exact ⟨(n267, x319), (zQ rfl zU), ⟨H.pick [0, 1, 2, 3, 4, 5, 6] (by decide), hF⟩, Nat.lt_succ_self _⟩
  have hF := zW c273 hF
  refine (xW (yU (yU (xE (zB (And.intro ?_ ?_))))))
  ·repeat' (first | with_reducible exact zS | refine zZ rfl ?_ | refine zT rfl rfl ?_)
  exact ⟨(), zU, ⟨H.pick [3, 5] (by decide), hF⟩⟩
 rintro _ ρ w140 ⟨H, hF⟩
 have hF := wJ ek142 hF
 refine zD fun K332 hK332 => ?_
 refine zD fun K333 hK333 => ?_
 refine zC ?_
 refine zA rfl rfl (fa102_2 rfl) ?_
 refine zA rfl rfl (zM (yT (cs := [.int .i64 p1.When.Kind, .string (bs p1.When.Name), .string (bs p1.When.Other), .int .i64 p1.When.Op, .int .i64 p1.When.N, .int .i64 p1.When.Frames, v7]) agg54 rfl sz54 rfl (Cells.drop (Blk.cells (H.item (i := 1) rfl)) 2 7)) rfl) ?_
 have H334 := H
 obtain ⟨x335, e336, hF⟩ := zI hF
 refine yA rfl rfl (zX en56 rfl) (F_event_CheckCond_w p1.When v7 _ e336 _ _ _ (H.enter [] [0] (by decide) rfl)) ?_
 rintro _ w337 ⟨rfl, G338⟩
 have H := H334.step (G338.only : Only [] _ _)
 refine ⟨_, rfl, ?_⟩
 refine zA rfl rfl (zG (v := .int .i64 x335) rfl) ?_
 refine (zJ (zB (hK333 _ _ ?_)))
 refine zD fun K339 hK339 => ?_
 refine zC ?_
 refine zA rfl rfl (zK (v := .int .i64 x335) rfl) ?_
 obtain ⟨x340, e341, hF⟩ := zF hF
 refine zA rfl rfl (zM (xO (a := x335) (b := 0) rfl rfl) (congrArg Value.bool e341)) ?_
 refine (zJ (zB (hK339 _ _ ?_)))
 refine yH (b := x340) rfl (fun c342 => ?_) (fun c342 => ?_)
 ·have hF := zV c342 hF
  refine zD fun K343 hK343 => ?_
  refine zC ?_
  refine zA rfl rfl (zK (v := .int .i64 x335) rfl) ?_
  refine zA rfl rfl (zG (v := .int .i64 x335) rfl) ?_
  refine (zJ (zB (hK343 _ _ ?_)))
  have hR := Option.some.inj hF
  subst hR
  refine (yG (yC (post1 (v1 := .int .i64 x335) rfl rfl ?_)))
  exact ⟨rfl, H.pick [] (by decide)⟩
 have hF := zW c342 hF
 refine (yI (zB (hK332 _ _ ?_)))
 refine zD fun K344 hK344 => ?_
 refine zC ?_
 refine zA rfl rfl (fa102_2 rfl) ?_
 refine zA rfl rfl (zM (yT (cs := [.int .i64 p1.When.Kind, .string (bs p1.When.Name), .string (bs p1.When.Other), .int .i64 p1.When.Op, .int .i64 p1.When.N, .int .i64 p1.When.Frames, v7]) agg54 rfl sz54 rfl (Cells.drop (Blk.cells (H.item (i := 1) rfl)) 2 7)) rfl) ?_
 have H345 := H
 obtain ⟨x346, e347, hF⟩ := zI hF
 refine yA rfl rfl (zX en108 rfl) (F_event_each_event_checkMove_1_s p1.When v7 _ e347 _ _ _ (H.enter [] [0] (by decide) rfl)) ?_
 rintro _ w348 ⟨rfl, G349⟩
 have H := H345.step (G349.only : Only [] _ _)
 refine ⟨_, rfl, ?_⟩
 refine zA rfl rfl (zG (v := .int .i64 x346) rfl) ?_
 refine (zJ (zB (hK344 _ _ ?_)))
 have hR := Option.some.inj hF
 subst hR
 refine (yG (post1 (v1 := .int .i64 x346) rfl rfl ?_))
 exact ⟨rfl, H.pick [] (by decide)⟩
end Go.Proofs.YtnajnkghilemhaaGreatDoor.L
namespace Go.Proofs.YtnajnkghilemhaaGreatDoor.L
open Go.RowKit Go.OB Go.Lf
/- orangebox/event.checkRule$1$1 -/
set_option maxHeartbeats 4000000 in
theorem F_event_checkRule_1_1_w (p0 : Rule) (c0 : Str) (v1 : Value) (b3 : Nat) (r : Bool) (hF : F_event_checkRule_1_1 p0 c0 = some r) (O S : List Nat) (w : World) (H : Hd O w w S [.blk b3 [.string (bs c0)] 9, .fz (.sl rCond v1 p0.When.Kids)]) :
  Calls Tryz.prog 148 ([.agg [.string (bs p0.Name), .int .i64 p0.When.Kind, .string (bs p0.When.Name), .string (bs p0.When.Other), .int .i64 p0.When.Op, .int .i64 p0.When.N, .int .i64 p0.When.Frames, v1].toArray, .pointer (some ⟨b3, 0, none⟩)] : List Value).toArray w fun e w' => e = .returned (.bool r) ∧ Hd O w w' S [.blk b3 [.string (bs c0)] 9] := by
 unfold F_event_checkRule_1_1 at hF
 refine yD 8 Tryz.func148 rfl rfl rfl ?_
 refine zD fun K5 hK5 => ?_
 refine zC ?_
 refine yY rfl rfl (Lx_box (cs := [.string (bs p0.Name), .int .i64 p0.When.Kind, .string (bs p0.When.Name), .string (bs p0.When.Other), .int .i64 p0.When.Op, .int .i64 p0.When.N, .int .i64 p0.When.Frames, v1]) rfl H) ?_
 rintro _ w8 ⟨b6, rfl, H⟩
 refine zA rfl rfl (zG (v := .bool false) rfl) ?_
 refine (zJ (zB (hK5 _ _ ?_)))
 refine zD fun K9 hK9 => ?_
 refine zC ?_
 refine zA rfl rfl (fa106_0 rfl) ?_
 refine zA rfl rfl (zL one9 rfl (Cells.get (Blk.cells (H.item (i := 2) rfl)) (i := 0) rfl)) ?_
 refine zA rfl rfl (zL one9 rfl (Cells.get (Blk.cells (H.item (i := 0) rfl)) (i := 0) rfl)) ?_
 obtain ⟨x10, e11, hF⟩ := zF hF
 refine zA rfl rfl (zM (xU (s1 := p0.Name) (s2 := c0) rfl rfl) (congrArg Value.bool e11)) ?_
 refine zA rfl rfl (zG (v := .bool x10) rfl) ?_
 refine (zJ (zB (hK9 _ _ ?_)))
 have hR := Option.some.inj hF
 subst hR
 refine (yG (post1 (v1 := .bool x10) rfl rfl ?_))
 exact ⟨rfl, H.pick [0] (by decide)⟩
end Go.Proofs.YtnajnkghilemhaaGreatDoor.L
namespace Go.Proofs.YtnajnkghilemhaaGreatDoor.L
open Go.RowKit Go.OB Go.Lf
/- slices.IndexFunc[[]orangebox/api.Rule,orangebox/api.Rule]@orangebox/event.checkRule$1$1 -/
set_option maxHeartbeats 4000000 in
theorem F_slices_IndexFunc___api_Rule_api_Rule__event_checkRule_1_1_w (p0 : List Rule) (p1c0 : Str) (v1 : Value) (b3 : Nat) (r : Int) (hF : F_slices_IndexFunc___api_Rule_api_Rule__event_checkRule_1_1 p0 p1c0 = some r) (O S : List Nat) (w : World) (H : Hd O w w S [.blk b3 [.string (bs p1c0)] 9, .fz (.sl rRule v1 p0)]) :
  Calls Tryz.prog 182 ([v1, .func (.func 148) #[] #[.pointer (some ⟨b3, 0, none⟩)]] : List Value).toArray w fun e w' => e = .returned (.int .i64 r) ∧ Hd O w w' S [.blk b3 [.string (bs p1c0)] 9] := by
 unfold F_slices_IndexFunc___api_Rule_api_Rule__event_checkRule_1_1 at hF
 refine yD 19 Tryz.func182 rfl rfl rfl ?_
 refine zD fun K5 hK5 => ?_
 refine zC ?_
 refine zA rfl rfl (zG (v := .int .i64 0) rfl) ?_
 refine (zJ (zB (hK5 _ _ ?_)))
 obtain ⟨k130, ek131, hF⟩ := wC hF
 refine yQ [4, 5, 6, 7, 8, 9, 10, 11, 12, 13, 14, 15, 16, 17, 18] (fun (g : Unit) => []) (fun g wl => Hd O w wl S [.blk b3 [.string (bs p1c0)] 9] ∧ k130 () = some r) ?_ ?_
 ·skip
  refine zD fun K132 hK132 => ?_
  refine zC ?_
  refine zA rfl rfl (zK (v := v1) rfl) ?_
  obtain ⟨x133, e134, hF⟩ := zF hF
  obtain ⟨a135, c136, q137⟩ := SlF.len ((H.item (i := 1) rfl))
  refine zA rfl rfl (zM (xA u24 q137) (congrArg (Value.int .i64) e134)) ?_
  refine zA rfl rfl (zK (v := .int .i64 0) rfl) ?_
  refine (zJ (zB (hK132 _ _ ?_)))
  refine yM ?_
  unfold F_slices_IndexFunc___api_Rule_api_Rule__event_checkRule_1_1_L1 at hF
  obtain ⟨B250, n251, eB252, hF⟩ := yZ hF
  refine xN [4, 5, 8, 9, 10, 11, 12, 13, 14, 15, 16, 17, 18] (fun (g : Nat × Int) => [(8, .int .i64 g.2)]) (fun g wl => Hd O w wl S [.blk b3 [.string (bs p1c0)] 9, .fz (.sl rRule v1 p0)] ∧ loopN B250 g.1 g.2 = some r) (fun g => g.1) (n251, 0) (zQ rfl zU) ⟨H.pick [0, 1] (by decide), hF⟩ ?_
  clear H hF
  rintro ⟨n251, g249⟩ ρ w254 ⟨H, hF⟩
  obtain ⟨n255, rfl, hF⟩ := xH hF
  have hF := xG eB252 hF
  refine zD fun K256 hK256 => ?_
  refine zC ?_
  obtain ⟨x257, e258, hF⟩ := zF hF
  refine zA rfl rfl (zM (xZ (a := g249) (b := x133) rfl rfl) (congrArg Value.bool e258)) ?_
  refine (zJ (zB (hK256 _ _ ?_)))
  refine zD fun K260 hK260 => ?_
  refine yH (b := x257) rfl (fun c261 => ?_) (fun c261 => ?_)
  ·have hF := zV c261 hF
   refine (yI (zB (hK260 _ _ ?_)))
   refine zD fun K285 hK285 => ?_
   refine yM ?_
   refine zD fun K286 hK286 => ?_
   refine zC ?_
   refine zA rfl rfl (zK (v := .int .i64 g249) rfl) ?_
   refine zA rfl rfl (zG (v := .int .i64 g249) rfl) ?_
   refine (zJ (zB (hK286 _ _ ?_)))
   refine zD fun K287 hK287 => ?_
   refine zC ?_
   refine zA rfl rfl (zK (v := .func (.func 148) #[] #[.pointer (some ⟨b3, 0, none⟩)]) rfl) ?_
   refine zA rfl rfl (zK (v := v1) rfl) ?_
   refine zA rfl rfl (zK (v := .int .i64 g249) rfl) ?_
   obtain ⟨x288, e289, hF⟩ := zI hF
   obtain ⟨b290, o291, c292, cs293, q294, h297, h295, h296, h298⟩ := rd_at (H.item (i := 1) rfl) e289
   obtain ⟨v299, rfl, h300⟩ := rRule_open h297
   have H := H.fzs [.at b290 (o291 + g249.toNat * 8) _, .sl rCond v299 x288.When.Kids] ⟨⟨h295, h296, h298⟩, h300, trivial⟩
   refine zA rfl rfl (xY u24 sz106 q294 rfl (yP e289).1 (yP e289).2.1 rfl rfl) ?_
   refine zA rfl rfl (zM (yT (cs := [.string (bs x288.Name), .int .i64 x288.When.Kind, .string (bs x288.When.Name), .string (bs x288.When.Other), .int .i64 x288.When.Op, .int .i64 x288.When.N, .int .i64 x288.When.Frames, v299]) agg106 rfl sz106 rfl (H.item (i := 2) rfl).2.2) rfl) ?_
   obtain ⟨x303, e304, hF⟩ := zI hF
   refine yA rfl rfl (wH en148 rfl rfl) (F_event_checkRule_1_1_w x288 p1c0 v299 b3 _ e304 _ _ _ (H.enter [0] [3] (by decide) rfl)) ?_
   rintro _ w305 ⟨rfl, G306⟩
   have H : Hd O _ w305 _ [.fz (.sl rRule v1 p0), .fz (.at b290 (o291 + g249.toNat * 8) [.string (bs x288.Name), .int .i64 x288.When.Kind, .string (bs x288.When.Name), .string (bs x288.When.Other), .int .i64 x288.When.Op, .int .i64 x288.When.N, .int .i64 x288.When.Frames, v299]), .fz (.sl rCond v299 x288.When.Kids), .blk b3 [.string (bs p1c0)] 9] := H.back [0] [3] rfl G306
   refine ⟨_, rfl, ?_⟩
   refine (zJ (zB (hK287 _ _ ?_)))
   refine yH (b := x303) rfl (fun c307 => ?_) (fun c307 => ?_)
   ·have hF := zV c307 hF
    refine zD fun K308 hK308 => ?_
    refine zC ?_
    refine zA rfl rfl (zK (v := .int .i64 g249) rfl) ?_
    refine zA rfl rfl (zG (v := .int .i64 g249) rfl) ?_
    refine (zJ (zB (hK308 _ _ ?_)))
    have hR := Option.some.inj hF
    subst hR
    refine (yG (yJ (yC (yC (yJ (yC (post1 (v1 := .int .i64 g249) rfl rfl ?_)))))))
    exact ⟨rfl, H.pick [3] (by decide)⟩
   have hF := zW c307 hF
   refine (yI (yX (zB (hK285 _ _ ?_))))
   refine zC ?_
   obtain ⟨x309, e310, hF⟩ := zF hF
   refine zA rfl rfl (wE (a := g249) (b := 1) rfl rfl e310) ?_
   refine zA rfl rfl (zK (v := .int .i64 x309) rfl) ?_
   refine (zJ (zB (And.intro ?_ ?_)))
   ·repeat' (first | with_reducible exact zS | refine zZ rfl ?_ | refine zT rfl rfl ?_)
   exact ⟨(n255, x309), (zQ rfl zU), ⟨H.pick [3, 0] (by decide), hF⟩, Nat.lt_succ_self _⟩
  have hF := zW c261 hF
  refine (xW (yU (yU (xE (zB (And.intro ?_ ?_))))))
  ·repeat' (first | with_reducible exact zS | refine zZ rfl ?_ | refine zT rfl rfl ?_)
  exact ⟨(), zU, ⟨H.pick [0] (by decide), hF⟩⟩
 rintro _ ρ w129 ⟨H, hF⟩
 have hF := wJ ek131 hF
 refine zD fun K311 hK311 => ?_
 refine zC ?_
 refine zA rfl rfl (zG (v := .int .i64 (-1)) rfl) ?_
 refine (zJ (zB (hK311 _ _ ?_)))
 have hR := Option.some.inj hF
 subst hR
 refine (yG (post1 (v1 := .int .i64 (-1)) rfl rfl ?_))
 exact ⟨rfl, H.pick [0] (by decide)⟩
end Go.Proofs.YtnajnkghilemhaaGreatDoor.L
namespace Go.Proofs.YtnajnkghilemhaaGreatDoor.L
open Go.RowKit Go.OB Go.Lf
/- slices.ContainsFunc[[]orangebox/api.Rule,orangebox/api.Rule]@orangebox/event.checkRule$1$1 -/
set_option maxHeartbeats 4000000 in
theorem F_slices_ContainsFunc___api_Rule_api_Rule__event_checkRule_1_1_w (p0 : List Rule) (p1c0 : Str) (v1 : Value) (b3 : Nat) (r : Bool) (hF : F_slices_ContainsFunc___api_Rule_api_Rule__event_checkRule_1_1 p0 p1c0 = some r) (O S : List Nat) (w : World) (H : Hd O w w S [.blk b3 [.string (bs p1c0)] 9, .fz (.sl rRule v1 p0)]) :
  Calls Tryz.prog 147 ([v1, .func (.func 148) #[] #[.pointer (some ⟨b3, 0, none⟩)]] : List Value).toArray w fun e w' => e = .returned (.bool r) ∧ Hd O w w' S [.blk b3 [.string (bs p1c0)] 9] := by
 unfold F_slices_ContainsFunc___api_Rule_api_Rule__event_checkRule_1_1 at hF
 refine yD 9 Tryz.func147 rfl rfl rfl ?_
 refine zD fun K5 hK5 => ?_
 refine zC ?_
 refine zA rfl rfl (zG (v := .bool false) rfl) ?_
 refine (zJ (zB (hK5 _ _ ?_)))
 refine zD fun K6 hK6 => ?_
 refine zC ?_
 refine zA rfl rfl (zK (v := v1) rfl) ?_
 refine zA rfl rfl (zK (v := .func (.func 148) #[] #[.pointer (some ⟨b3, 0, none⟩)]) rfl) ?_
 obtain ⟨x7, e8, hF⟩ := zI hF
 refine yA rfl rfl (zX en182 rfl) (F_slices_IndexFunc___api_Rule_api_Rule__event_checkRule_1_1_w p0 p1c0 v1 b3 _ e8 _ _ _ (H.enter [0] [1] (by decide) rfl)) ?_
 rintro _ w9 ⟨rfl, G10⟩
 have H : Hd O _ w9 _ [.fz (.sl rRule v1 p0), .blk b3 [.string (bs p1c0)] 9] := H.back [0] [1] rfl G10
 refine ⟨_, rfl, ?_⟩
 obtain ⟨x11, e12, hF⟩ := zF hF
 refine zA rfl rfl (zM (Do_geq (a := x7) (b := 0) rfl rfl) (congrArg Value.bool e12)) ?_
 refine zA rfl rfl (zG (v := .bool x11) rfl) ?_
 refine (zJ (zB (hK6 _ _ ?_)))
 have hR := Option.some.inj hF
 subst hR
 refine (yG (post1 (v1 := .bool x11) rfl rfl ?_))
 exact ⟨rfl, H.pick [1] (by decide)⟩
end Go.Proofs.YtnajnkghilemhaaGreatDoor.L
namespace Go.Proofs.YtnajnkghilemhaaGreatDoor.L
open Go.RowKit Go.OB Go.Lf
/- orangebox/event.checkRule$1 -/
set_option maxHeartbeats 4000000 in
theorem F_event_checkRule_1_w (p0 : Str) (c0 : Rules) (c1 : Int) (b1 : Nat) (v2 : Value) (v3 : Value) (v4 : Value) (b9 : Nat) (r : Bool) (hF : F_event_checkRule_1 p0 c0 c1 = some r) (O S : List Nat) (w : World) (H : Hd O w w S [.blk b1 [v2, v3, v4] 26, .blk b9 [.int .i64 c1] 3, .fz (.sl Rp.str v2 c0.Phases), .fz (.sl rMoveT v3 c0.Moves), .fz (.sl rRule v4 c0.Rules)]) :
  Calls Tryz.prog 146 ([.string (bs p0), .pointer (some ⟨b1, 0, none⟩), .pointer (some ⟨b9, 0, none⟩)] : List Value).toArray w fun e w' => e = .returned (.bool r) ∧ Hd O w w' S [.blk b1 [v2, v3, v4] 26, .blk b9 [.int .i64 c1] 3] := by
 unfold F_event_checkRule_1 at hF
 refine yD 11 Tryz.func146 rfl rfl rfl ?_
 refine zD fun K11 hK11 => ?_
 refine zC ?_
 refine yY rfl rfl (Lx_box1 rfl rfl H) ?_
 rintro _ w14 ⟨b12, rfl, H⟩
 refine zA rfl rfl (zG (v := .bool false) rfl) ?_
 refine (zJ (zB (hK11 _ _ ?_)))
 refine zD fun K15 hK15 => ?_
 refine zC ?_
 refine zA rfl rfl (fa26_2 rfl) ?_
 refine zA rfl rfl (zL one24 rfl (Cells.get (Blk.cells (H.item (i := 0) rfl)) (i := 2) rfl)) ?_
 refine zA rfl rfl (zL one3 rfl (Cells.get (Blk.cells (H.item (i := 1) rfl)) (i := 0) rfl)) ?_
 obtain ⟨x16, e17, hF⟩ := zI hF
 refine RL_exP rfl rfl (Lx_slice_h u24 sz106 (H.item (i := 4) rfl) rfl rfl e17) ?_
 rintro v18 h19
 have H := H.fz (.sl rRule v18 x16) h19
 refine zA rfl rfl (Do_makeFunc rfl) ?_
 obtain ⟨x21, e22, hF⟩ := zI hF
 refine yA rfl rfl (zX en147 rfl) (F_slices_ContainsFunc___api_Rule_api_Rule__event_checkRule_1_1_w x16 p0 v18 b12 _ e22 _ _ _ (H.enter [5] [6] (by decide) rfl)) ?_
 rintro _ w23 ⟨rfl, G24⟩
 have H : Hd O _ w23 _ [.blk b1 [v2, v3, v4] 26, .blk b9 [.int .i64 c1] 3, .fz (.sl Rp.str v2 c0.Phases), .fz (.sl rMoveT v3 c0.Moves), .fz (.sl rRule v4 c0.Rules), .fz (.sl rRule v18 x16), .blk b12 [.string (bs p0)] 9] := H.back [5] [6] rfl G24
 refine ⟨_, rfl, ?_⟩
 refine zA rfl rfl (zG (v := .bool x21) rfl) ?_
 refine (zJ (zB (hK15 _ _ ?_)))
 have hR := Option.some.inj hF
 subst hR
 refine (yG (post1 (v1 := .bool x21) rfl rfl ?_))
 exact ⟨rfl, H.pick [0, 1] (by decide)⟩
end Go.Proofs.YtnajnkghilemhaaGreatDoor.L
namespace Go.Proofs.YtnajnkghilemhaaGreatDoor.L
open Go.RowKit Go.OB Go.Lf
/- orangebox/event.checkRule$2~df146_a0de -/
set_option maxHeartbeats 4000000 in
theorem F_event_checkRule_2_df146_a0de_w (p0 : Cond) (c0 : Rules) (c1f1 : Int) (v1 : Value) (b3 : Nat) (v4 : Value) (v5 : Value) (v6 : Value) (b11 : Nat) (b13 : Nat) (r : Int) (hF : F_event_checkRule_2_df146_a0de p0 c0 c1f1 = some r) (O S : List Nat) (w : World) (H : Hd O w w S [.blk b3 [v4, v5, v6] 26, .blk b13 [.int .i64 c1f1] 3, .blk b11 [.func (.func 146) #[] #[.pointer (some ⟨b3, 0, none⟩), .pointer (some ⟨b13, 0, none⟩)]] 48, .fz (.sl rCond v1 p0.Kids), .fz (.sl Rp.str v4 c0.Phases), .fz (.sl rMoveT v5 c0.Moves), .fz (.sl rRule v6 c0.Rules)]) :
  Calls Tryz.prog 149 ([.agg [.int .i64 p0.Kind, .string (bs p0.Name), .string (bs p0.Other), .int .i64 p0.Op, .int .i64 p0.N, .int .i64 p0.Frames, v1].toArray, .pointer (some ⟨b3, 0, none⟩), .pointer (some ⟨b11, 0, none⟩)] : List Value).toArray w fun e w' => e = .returned (.int .i64 r) ∧ Hd O w w' S [.blk b3 [v4, v5, v6] 26, .blk b13 [.int .i64 c1f1] 3, .blk b11 [.func (.func 146) #[] #[.pointer (some ⟨b3, 0, none⟩), .pointer (some ⟨b13, 0, none⟩)]] 48] := by
 unfold F_event_checkRule_2_df146_a0de at hF
 refine yD 28 Tryz.func149 rfl rfl rfl ?_
 refine zD fun K15 hK15 => ?_
 refine zC ?_
 refine yY rfl rfl (Lx_box (cs := [.int .i64 p0.Kind, .string (bs p0.Name), .string (bs p0.Other), .int .i64 p0.Op, .int .i64 p0.N, .int .i64 p0.Frames, v1]) rfl H) ?_
 rintro _ w18 ⟨b16, rfl, H⟩
 refine zA rfl rfl (zG (v := .int .i64 0) rfl) ?_
 refine (zJ (zB (hK15 _ _ ?_)))
 refine zD fun K53 hK53 => ?_
 obtain ⟨g83, hF, hK85⟩ := zI hF
 refine yQ [5, 6, 7, 8, 9, 10, 11, 12, 13, 14, 15, 16, 17, 18, 19, 20, 21, 22, 23, 24, 25, 26, 27] (fun (g : Unit) => [(27, .bool g83)]) (fun g wl => Hd O w wl S [.blk b3 [v4, v5, v6] 26, .fz (.sl Rp.str v4 c0.Phases), .fz (.sl rMoveT v5 c0.Moves), .fz (.sl rRule v6 c0.Rules), .blk b13 [.int .i64 c1f1] 3, .blk b11 [.func (.func 146) #[] #[.pointer (some ⟨b3, 0, none⟩), .pointer (some ⟨b13, 0, none⟩)]] 48]) ?_ ?_
 ·skip
  refine zC ?_
  refine zA rfl rfl (fa54_0 rfl) ?_
  refine zA rfl rfl (zL one3 rfl (Cells.get (Blk.cells (H.item (i := 7) rfl)) (i := 0) rfl)) ?_
  obtain ⟨x86, e87, hF⟩ := zF hF
  refine zA rfl rfl (zM (xC (a := p0.Kind) (b := 6) rfl rfl) (congrArg Value.bool e87)) ?_
  refine yE (b := x86) rfl rfl rfl (fun c88 => ?_) (fun c88 => ?_)
  ·have hF := zV c88 hF
   refine zA rfl rfl (fa26_0 rfl) ?_
   refine zA rfl rfl (zL one22 rfl (Cells.get (Blk.cells (H.item (i := 0) rfl)) (i := 0) rfl)) ?_
   refine zA rfl rfl (fa54_1 rfl) ?_
   refine zA rfl rfl (zL one9 rfl (Cells.get (Blk.cells (H.item (i := 7) rfl)) (i := 1) rfl)) ?_
   have H89 := H
   obtain ⟨x90, e91, hF⟩ := zI hF
   refine yA rfl rfl (zX en65 rfl) (F_slices_Contains___string_string__w c0.Phases p0.Name v4 _ e91 _ _ _ (H.enter [] [4] (by decide) rfl)) ?_
   rintro _ w92 ⟨rfl, G93⟩
   have H := H89.step (G93.only : Only [] _ _)
   refine ⟨_, rfl, ?_⟩
   obtain ⟨x94, e95, hF⟩ := zF hF
   refine zA rfl rfl (zM (yS (p := x90) rfl) (congrArg Value.bool e95)) ?_
   refine zA rfl rfl (zY (v := .bool x94) rfl rfl) ?_
   refine yE (b := x94) rfl rfl rfl (fun c96 => ?_) (fun c96 => ?_)
   ·have hF := zV c96 hF
    refine zH rfl rfl ?_
    refine zH rfl rfl ?_
    refine zH rfl rfl ?_
    refine zH rfl rfl ?_
    refine zH rfl rfl ?_
    refine zH rfl rfl ?_
    refine zH rfl rfl ?_
    refine zH rfl rfl ?_
    refine zH rfl rfl ?_
    refine zH rfl rfl ?_
    refine zA rfl rfl (zY (v := .bool true) rfl rfl) ?_
    have hR := Option.some.inj hF
    subst hR
    refine (zJ (zB (And.intro ?_ ?_)))
    ·repeat' (first | with_reducible exact zS | refine zZ rfl ?_ | refine zT rfl rfl ?_)
    exact ⟨(), (zQ rfl zU), H.pick [0, 4, 5, 6, 1, 2] (by decide)⟩
   have hF := zW c96 hF
   refine zA rfl rfl (fa54_0 rfl) ?_
   refine zA rfl rfl (zL one3 rfl (Cells.get (Blk.cells (H.item (i := 7) rfl)) (i := 0) rfl)) ?_
   obtain ⟨x97, e98, hF⟩ := zF hF
   refine zA rfl rfl (zM (xC (a := p0.Kind) (b := 7) rfl rfl) (congrArg Value.bool e98)) ?_
   refine yE (b := x97) rfl rfl rfl (fun c99 => ?_) (fun c99 => ?_)
   ·have hF := zV c99 hF
    refine zA rfl rfl (zL one48 rfl (Cells.get (Blk.cells (H.item (i := 2) rfl)) (i := 0) rfl)) ?_
    refine zA rfl rfl (fa54_1 rfl) ?_
    refine zA rfl rfl (zL one9 rfl (Cells.get (Blk.cells (H.item (i := 7) rfl)) (i := 1) rfl)) ?_
    obtain ⟨x100, e101, hF⟩ := zI hF
    refine yA rfl rfl (wH en146 rfl rfl) (F_event_checkRule_1_w p0.Name c0 c1f1 b3 v4 v5 v6 b13 _ e101 _ _ _ (H.enter [0, 1] [4, 5, 6] (by decide) rfl)) ?_
    rintro _ w102 ⟨rfl, G103⟩
    have H : Hd O _ w102 _ [.blk b11 [.func (.func 146) #[] #[.pointer (some ⟨b3, 0, none⟩), .pointer (some ⟨b13, 0, none⟩)]] 48, .fz (.sl rCond v1 p0.Kids), .fz (.sl Rp.str v4 c0.Phases), .fz (.sl rMoveT v5 c0.Moves), .fz (.sl rRule v6 c0.Rules), .blk b16 [.int .i64 p0.Kind, .string (bs p0.Name), .string (bs p0.Other), .int .i64 p0.Op, .int .i64 p0.N, .int .i64 p0.Frames, v1] 54, .blk b3 [v4, v5, v6] 26, .blk b13 [.int .i64 c1f1] 3] := H.back [0, 1] [4, 5, 6] rfl G103
    refine ⟨_, rfl, ?_⟩
    obtain ⟨x104, e105, hF⟩ := zF hF
    refine zA rfl rfl (zM (yS (p := x100) rfl) (congrArg Value.bool e105)) ?_
    refine zA rfl rfl (zY (v := .bool x104) rfl rfl) ?_
    refine zA rfl rfl (zN (v := .bool x104) rfl rfl) ?_
    have hR := Option.some.inj hF
    subst hR
    refine (zJ (zB (And.intro ?_ ?_)))
    ·repeat' (first | with_reducible exact zS | refine zZ rfl ?_ | refine zT rfl rfl ?_)
    exact ⟨(), (zQ rfl zU), H.pick [6, 2, 3, 4, 7, 0] (by decide)⟩
   have hF := zW c99 hF
   refine zH rfl rfl ?_
   refine zH rfl rfl ?_
   refine zH rfl rfl ?_
   refine zH rfl rfl ?_
   refine zH rfl rfl ?_
   refine zA rfl rfl (zN (v := .bool false) rfl rfl) ?_
   refine zA rfl rfl (zN (v := .bool false) rfl rfl) ?_
   have hR := Option.some.inj hF
   subst hR
   refine (zJ (zB (And.intro ?_ ?_)))
   ·repeat' (first | with_reducible exact zS | refine zZ rfl ?_ | refine zT rfl rfl ?_)
   exact ⟨(), (zQ rfl zU), H.pick [0, 4, 5, 6, 1, 2] (by decide)⟩
  have hF := zW c88 hF
  refine zH rfl rfl ?_
  refine zH rfl rfl ?_
  refine zH rfl rfl ?_
  refine zH rfl rfl ?_
  refine zH rfl rfl ?_
  refine zH rfl rfl ?_
  refine zA rfl rfl (zN (v := .bool false) rfl rfl) ?_
  refine zA rfl rfl (zK (v := .bool false) rfl) ?_
  refine zA rfl rfl (fa54_0 rfl) ?_
  refine zA rfl rfl (zL one3 rfl (Cells.get (Blk.cells (H.item (i := 7) rfl)) (i := 0) rfl)) ?_
  obtain ⟨x106, e107, hF⟩ := zF hF
  refine zA rfl rfl (zM (xC (a := p0.Kind) (b := 7) rfl rfl) (congrArg Value.bool e107)) ?_
  refine yE (b := x106) rfl rfl rfl (fun c108 => ?_) (fun c108 => ?_)
  ·have hF := zV c108 hF
   refine zA rfl rfl (zL one48 rfl (Cells.get (Blk.cells (H.item (i := 2) rfl)) (i := 0) rfl)) ?_
   refine zA rfl rfl (fa54_1 rfl) ?_
   refine zA rfl rfl (zL one9 rfl (Cells.get (Blk.cells (H.item (i := 7) rfl)) (i := 1) rfl)) ?_
   obtain ⟨x109, e110, hF⟩ := zI hF
   refine yA rfl rfl (wH en146 rfl rfl) (F_event_checkRule_1_w p0.Name c0 c1f1 b3 v4 v5 v6 b13 _ e110 _ _ _ (H.enter [0, 1] [4, 5, 6] (by decide) rfl)) ?_
   rintro _ w111 ⟨rfl, G112⟩
   have H : Hd O _ w111 _ [.blk b11 [.func (.func 146) #[] #[.pointer (some ⟨b3, 0, none⟩), .pointer (some ⟨b13, 0, none⟩)]] 48, .fz (.sl rCond v1 p0.Kids), .fz (.sl Rp.str v4 c0.Phases), .fz (.sl rMoveT v5 c0.Moves), .fz (.sl rRule v6 c0.Rules), .blk b16 [.int .i64 p0.Kind, .string (bs p0.Name), .string (bs p0.Other), .int .i64 p0.Op, .int .i64 p0.N, .int .i64 p0.Frames, v1] 54, .blk b3 [v4, v5, v6] 26, .blk b13 [.int .i64 c1f1] 3] := H.back [0, 1] [4, 5, 6] rfl G112
   refine ⟨_, rfl, ?_⟩
   obtain ⟨x113, e114, hF⟩ := zF hF
   refine zA rfl rfl (zM (yS (p := x109) rfl) (congrArg Value.bool e114)) ?_
   refine zA rfl rfl (zY (v := .bool x113) rfl rfl) ?_
   refine zA rfl rfl (zN (v := .bool x113) rfl rfl) ?_
   have hR := Option.some.inj hF
   subst hR
   refine (zJ (zB (And.intro ?_ ?_)))
   ·repeat' (first | with_reducible exact zS | refine zZ rfl ?_ | refine zT rfl rfl ?_)
   exact ⟨(), (zQ rfl zU), H.pick [6, 2, 3, 4, 7, 0] (by decide)⟩
  have hF := zW c108 hF
  refine zH rfl rfl ?_
  refine zH rfl rfl ?_
  refine zH rfl rfl ?_
  refine zH rfl rfl ?_
  refine zH rfl rfl ?_
  refine zA rfl rfl (zN (v := .bool false) rfl rfl) ?_
  refine zA rfl rfl (zN (v := .bool false) rfl rfl) ?_
  have hR := Option.some.inj hF
  subst hR
  refine (zJ (zB (And.intro ?_ ?_)))
  ·repeat' (first | with_reducible exact zS | refine zZ rfl ?_ | refine zT rfl rfl ?_)
  exact ⟨(), (zQ rfl zU), H.pick [0, 4, 5, 6, 1, 2] (by decide)⟩
 rintro _ ρ w84 H
 have hF := hK85
 refine yH (b := g83) rfl (fun c115 => ?_) (fun c115 => ?_)
 ·have hF := zV c115 hF
  refine zD fun K116 hK116 => ?_
  refine zC ?_
  refine zA rfl rfl (zG (v := .int .i64 4) rfl) ?_
  refine (zJ (zB (hK116 _ _ ?_)))
  have hR := Option.some.inj hF
  subst hR
  refine (yG (yC (post1 (v1 := .int .i64 4) rfl rfl ?_)))
  exact ⟨rfl, H.pick [0, 4, 5] (by decide)⟩
 have hF := zW c115 hF
 refine (yI (zB (hK53 _ _ ?_)))
 refine zD fun K117 hK117 => ?_
 refine zC ?_
 refine zA rfl rfl (zG (v := .int .i64 0) rfl) ?_
 refine (zJ (zB (hK117 _ _ ?_)))
 have hR := Option.some.inj hF
 subst hR
 refine (yG (post1 (v1 := .int .i64 0) rfl rfl ?_))
 exact ⟨rfl, H.pick [0, 4, 5] (by decide)⟩
end Go.Proofs.YtnajnkghilemhaaGreatDoor.L
namespace Go.Proofs.YtnajnkghilemhaaGreatDoor.L
open Go.RowKit Go.OB Go.Lf
/- orangebox/event.each@orangebox/event.checkRule$2~df146_a0de: its contract -/
abbrev S_event_each_event_checkRule_2_df146_a0de (f : Cond → Rules → Int → Option Int) : Prop := ∀ (p0 : Cond) (p1c0 : Rules) (p1c1f1 : Int) (v1 : Value) (b3 : Nat) (v4 : Value) (v5 : Value) (v6 : Value) (b11 : Nat) (b13 : Nat) (r : Int) (hF : f p0 p1c0 p1c1f1 = some r) (O S : List Nat) (w : World) (H : Hd O w w S [.blk b3 [v4, v5, v6] 26, .blk b13 [.int .i64 p1c1f1] 3, .blk b11 [.func (.func 146) #[] #[.pointer (some ⟨b3, 0, none⟩), .pointer (some ⟨b13, 0, none⟩)]] 48, .fz (.sl rCond v1 p0.Kids), .fz (.sl Rp.str v4 p1c0.Phases), .fz (.sl rMoveT v5 p1c0.Moves), .fz (.sl rRule v6 p1c0.Rules)]),
  Calls Tryz.prog 108 ([.agg [.int .i64 p0.Kind, .string (bs p0.Name), .string (bs p0.Other), .int .i64 p0.Op, .int .i64 p0.N, .int .i64 p0.Frames, v1].toArray, .func (.func 149) #[] #[.pointer (some ⟨b3, 0, none⟩), .pointer (some ⟨b11, 0, none⟩)]] : List Value).toArray w fun e w' => e = .returned (.int .i64 r) ∧ Hd O w w' S [.blk b3 [v4, v5, v6] 26, .blk b13 [.int .i64 p1c1f1] 3, .blk b11 [.func (.func 146) #[] #[.pointer (some ⟨b3, 0, none⟩), .pointer (some ⟨b13, 0, none⟩)]] 48]
end Go.Proofs.YtnajnkghilemhaaGreatDoor.L
namespace Go.Proofs.YtnajnkghilemhaaGreatDoor.L
open Go.RowKit Go.OB Go.Lf
/- orangebox/event.each@orangebox/event.checkRule$2~df146_a0de -/
set_option maxHeartbeats 4000000 in
theorem F_event_each_event_checkRule_2_df146_a0de_B_w (rfF : Cond → Rules → Int → Option Int) (rhF : S_event_each_event_checkRule_2_df146_a0de rfF) (p0 : Cond) (p1c0 : Rules) (p1c1f1 : Int) (v1 : Value) (b3 : Nat) (v4 : Value) (v5 : Value) (v6 : Value) (b11 : Nat) (b13 : Nat) (r : Int) (hF : F_event_each_event_checkRule_2_df146_a0de_B rfF p0 p1c0 p1c1f1 = some r) (O S : List Nat) (w : World) (H : Hd O w w S [.blk b3 [v4, v5, v6] 26, .blk b13 [.int .i64 p1c1f1] 3, .blk b11 [.func (.func 146) #[] #[.pointer (some ⟨b3, 0, none⟩), .pointer (some ⟨b13, 0, none⟩)]] 48, .fz (.sl rCond v1 p0.Kids), .fz (.sl Rp.str v4 p1c0.Phases), .fz (.sl rMoveT v5 p1c0.Moves), .fz (.sl rRule v6 p1c0.Rules)]) :
  Calls Tryz.prog 108 ([.agg [.int .i64 p0.Kind, .string (bs p0.Name), .string (bs p0.Other), .int .i64 p0.Op, .int .i64 p0.N, .int .i64 p0.Frames, v1].toArray, .func (.func 149) #[] #[.pointer (some ⟨b3, 0, none⟩), .pointer (some ⟨b11, 0, none⟩)]] : List Value).toArray w fun e w' => e = .returned (.int .i64 r) ∧ Hd O w w' S [.blk b3 [v4, v5, v6] 26, .blk b13 [.int .i64 p1c1f1] 3, .blk b11 [.func (.func 146) #[] #[.pointer (some ⟨b3, 0, none⟩), .pointer (some ⟨b13, 0, none⟩)]] 48] := by
 unfold F_event_each_event_checkRule_2_df146_a0de_B at hF
 refine yD 29 Tryz.func108 rfl rfl rfl ?_
 refine zD fun K15 hK15 => ?_
 refine zC ?_
 refine yY rfl rfl (Lx_box (cs := [.int .i64 p0.Kind, .string (bs p0.Name), .string (bs p0.Other), .int .i64 p0.Op, .int .i64 p0.N, .int .i64 p0.Frames, v1]) rfl H) ?_
 rintro _ w18 ⟨b16, rfl, H⟩
 refine zA rfl rfl (zG (v := .int .i64 0) rfl) ?_
 refine (zJ (zB (hK15 _ _ ?_)))
 refine zD fun K29 hK29 => ?_
 refine zD fun K30 hK30 => ?_
 refine zC ?_
 refine zA rfl rfl (zK (v := .func (.func 149) #[] #[.pointer (some ⟨b3, 0, none⟩), .pointer (some ⟨b11, 0, none⟩)]) rfl) ?_
 refine zA rfl rfl (zM (yT (cs := [.int .i64 p0.Kind, .string (bs p0.Name), .string (bs p0.Other), .int .i64 p0.Op, .int .i64 p0.N, .int .i64 p0.Frames, v1]) agg54 rfl sz54 rfl (Blk.cells (H.item (i := 7) rfl))) rfl) ?_
 obtain ⟨x31, e32, hF⟩ := zI hF
 refine yA rfl rfl (wH en149 rfl rfl) (F_event_checkRule_2_df146_a0de_w p0 p1c0 p1c1f1 v1 b3 v4 v5 v6 b11 b13 _ e32 _ _ _ (H.enter [0, 1, 2] [3, 4, 5, 6] (by decide) rfl)) ?_
 rintro _ w33 ⟨rfl, G34⟩
 have H : Hd O _ w33 _ [.fz (.sl rCond v1 p0.Kids), .fz (.sl Rp.str v4 p1c0.Phases), .fz (.sl rMoveT v5 p1c0.Moves), .fz (.sl rRule v6 p1c0.Rules), .blk b16 [.int .i64 p0.Kind, .string (bs p0.Name), .string (bs p0.Other), .int .i64 p0.Op, .int .i64 p0.N, .int .i64 p0.Frames, v1] 54, .blk b3 [v4, v5, v6] 26, .blk b13 [.int .i64 p1c1f1] 3, .blk b11 [.func (.func 146) #[] #[.pointer (some ⟨b3, 0, none⟩), .pointer (some ⟨b13, 0, none⟩)]] 48] := H.back [0, 1, 2] [3, 4, 5, 6] rfl G34
 refine ⟨_, rfl, ?_⟩
 refine zA rfl rfl (zG (v := .int .i64 x31) rfl) ?_
 refine (zJ (zB (hK30 _ _ ?_)))
 refine zD fun K35 hK35 => ?_
 refine zC ?_
 refine zA rfl rfl (zK (v := .int .i64 x31) rfl) ?_
 obtain ⟨x36, e37, hF⟩ := zF hF
 refine zA rfl rfl (zM (xO (a := x31) (b := 0) rfl rfl) (congrArg Value.bool e37)) ?_
 refine (zJ (zB (hK35 _ _ ?_)))
 refine yH (b := x36) rfl (fun c38 => ?_) (fun c38 => ?_)
 ·have hF := zV c38 hF
  refine zD fun K39 hK39 => ?_
  refine zC ?_
  refine zA rfl rfl (zK (v := .int .i64 x31) rfl) ?_
  refine zA rfl rfl (zG (v := .int .i64 x31) rfl) ?_
  refine (zJ (zB (hK39 _ _ ?_)))
  have hR := Option.some.inj hF
  subst hR
  refine (yG (yC (post1 (v1 := .int .i64 x31) rfl rfl ?_)))
  exact ⟨rfl, H.pick [5, 6, 7] (by decide)⟩
 have hF := zW c38 hF
 refine (yI (zB (hK29 _ _ ?_)))
 obtain ⟨k192, ek193, hF⟩ := wC hF
 refine yQ [4, 7, 8, 15, 16, 17, 18, 19, 20, 21, 22, 23, 24, 25, 26, 27, 28] (fun (g : Unit) => []) (fun g wl => Hd O w wl S [.fz (.sl Rp.str v4 p1c0.Phases), .fz (.sl rMoveT v5 p1c0.Moves), .fz (.sl rRule v6 p1c0.Rules), .blk b3 [v4, v5, v6] 26, .blk b13 [.int .i64 p1c1f1] 3, .blk b11 [.func (.func 146) #[] #[.pointer (some ⟨b3, 0, none⟩), .pointer (some ⟨b13, 0, none⟩)]] 48] ∧ k192 () = some r) ?_ ?_
 ·skip
  refine zD fun K194 hK194 => ?_
  refine zC ?_
  refine zA rfl rfl (wB rfl) ?_
  refine zA rfl rfl (zL one52 rfl (Cells.get (Blk.cells (H.item (i := 4) rfl)) (i := 6) rfl)) ?_
  obtain ⟨x195, e196, hF⟩ := zF hF
  obtain ⟨a197, c198, q199⟩ := SlF.len ((H.item (i := 0) rfl))
  refine zA rfl rfl (zM (xA u52 q199) (congrArg (Value.int .i64) e196)) ?_
  refine zA rfl rfl (zK (v := .int .i64 0) rfl) ?_
  refine (zJ (zB (hK194 _ _ ?_)))
  refine yM ?_
  unfold F_event_each_event_checkRule_2_df146_a0de_B_L1 at hF
  obtain ⟨B340, n341, eB342, hF⟩ := yZ hF
  refine xN [4, 7, 8, 18, 19, 20, 21, 22, 23, 24, 25, 26, 27, 28] (fun (g : Nat × Int) => [(18, .int .i64 g.2)]) (fun g wl => Hd O w wl S [.fz (.sl rCond v1 p0.Kids), .fz (.sl Rp.str v4 p1c0.Phases), .fz (.sl rMoveT v5 p1c0.Moves), .fz (.sl rRule v6 p1c0.Rules), .blk b3 [v4, v5, v6] 26, .blk b13 [.int .i64 p1c1f1] 3, .blk b11 [.func (.func 146) #[] #[.pointer (some ⟨b3, 0, none⟩), .pointer (some ⟨b13, 0, none⟩)]] 48] ∧ loopN B340 g.1 g.2 = some r) (fun g => g.1) (n341, 0) (zQ rfl zU) ⟨H.pick [0, 1, 2, 3, 5, 6, 7] (by decide), hF⟩ ?_
  clear H hF
  rintro ⟨n341, g339⟩ ρ w344 ⟨H, hF⟩
  obtain ⟨n345, rfl, hF⟩ := xH hF
  have hF := xG eB342 hF
  refine zD fun K346 hK346 => ?_
  refine zC ?_
  obtain ⟨x347, e348, hF⟩ := zF hF
  refine zA rfl rfl (zM (xZ (a := g339) (b := x195) rfl rfl) (congrArg Value.bool e348)) ?_
  refine (zJ (zB (hK346 _ _ ?_)))
  refine zD fun K350 hK350 => ?_
  refine yH (b := x347) rfl (fun c351 => ?_) (fun c351 => ?_)
  ·have hF := zV c351 hF
   refine (yI (zB (hK350 _ _ ?_)))
   refine zD fun K382 hK382 => ?_
   refine yM ?_
   refine zD fun K383 hK383 => ?_
   refine zC ?_
   obtain ⟨x384, e385, hF⟩ := zI hF
   obtain ⟨b386, o387, c388, cs389, q390, h393, h391, h392, h394⟩ := rd_at (H.item (i := 0) rfl) e385
   obtain ⟨v395, rfl, h396⟩ := rCond_open h393
   have H := H.fzs [.at b386 (o387 + g339.toNat * 7) _, .sl rCond v395 x384.Kids] ⟨⟨h391, h392, h394⟩, h396, trivial⟩
   refine zA rfl rfl (xY u52 sz54 q390 rfl (yP e385).1 (yP e385).2.1 rfl rfl) ?_
   refine zA rfl rfl (zM (yT (cs := [.int .i64 x384.Kind, .string (bs x384.Name), .string (bs x384.Other), .int .i64 x384.Op, .int .i64 x384.N, .int .i64 x384.Frames, v395]) agg54 rfl sz54 rfl (H.item (i := 7) rfl).2.2) rfl) ?_
   refine yY rfl rfl (xJ zero54 H) ?_
   rintro _ w401 ⟨b399, rfl, H⟩
   refine yV rfl (yN (vs := [.int .i64 x384.Kind, .string (bs x384.Name), .string (bs x384.Other), .int .i64 x384.Op, .int .i64 x384.N, .int .i64 x384.Frames, v395]) H 9 rfl sz54 rfl rfl rfl ⟨rfl, rfl, rfl, rfl, rfl, rfl, (slf_one (H.item (i := 8) rfl)), trivial⟩ rfl) ?_
   rintro w402 H
   refine (zJ (zB (hK383 _ _ ?_)))
   refine zD fun K403 hK403 => ?_
   refine zC ?_
   refine zA rfl rfl (zM (yT (cs := [.int .i64 x384.Kind, .string (bs x384.Name), .string (bs x384.Other), .int .i64 x384.Op, .int .i64 x384.N, .int .i64 x384.Frames, v395]) agg54 rfl sz54 rfl (Blk.cells (H.item (i := 9) rfl))) rfl) ?_
   refine zA rfl rfl (zK (v := .func (.func 149) #[] #[.pointer (some ⟨b3, 0, none⟩), .pointer (some ⟨b11, 0, none⟩)]) rfl) ?_
   obtain ⟨x404, e405, hF⟩ := zI hF
   refine yA rfl rfl (zX en108 rfl) (rhF x384 p1c0 p1c1f1 v395 b3 v4 v5 v6 b11 b13 _ e405 _ _ _ (H.enter [4, 5, 6] [8, 1, 2, 3] (by decide) rfl)) ?_
   rintro _ w406 ⟨rfl, G407⟩
   have H : Hd O _ w406 _ [.fz (.sl rCond v1 p0.Kids), .fz (.sl Rp.str v4 p1c0.Phases), .fz (.sl rMoveT v5 p1c0.Moves), .fz (.sl rRule v6 p1c0.Rules), .fz (.at b386 (o387 + g339.toNat * 7) [.int .i64 x384.Kind, .string (bs x384.Name), .string (bs x384.Other), .int .i64 x384.Op, .int .i64 x384.N, .int .i64 x384.Frames, v395]), .fz (.sl rCond v395 x384.Kids), .blk b399 [.int .i64 x384.Kind, .string (bs x384.Name), .string (bs x384.Other), .int .i64 x384.Op, .int .i64 x384.N, .int .i64 x384.Frames, v395] 54, .blk b3 [v4, v5, v6] 26, .blk b13 [.int .i64 p1c1f1] 3, .blk b11 [.func (.func 146) #[] #[.pointer (some ⟨b3, 0, none⟩), .pointer (some ⟨b13, 0, none⟩)]] 48] := H.back [4, 5, 6] [8, 1, 2, 3] rfl G407
   refine ⟨_, rfl, ?_⟩
   refine zA rfl rfl (zG (v := .int .i64 x404) rfl) ?_
   refine (zJ (zB (hK403 _ _ ?_)))
   refine zD fun K408 hK408 => ?_
   refine zC ?_
   refine zA rfl rfl (zK (v := .int .i64 x404) rfl) ?_
   obtain ⟨x409, e410, hF⟩ := zF hF
   refine zA rfl rfl (zM (xO (a := x404) (b := 0) rfl rfl) (congrArg Value.bool e410)) ?_
   refine (zJ (zB (hK408 _ _ ?_)))
   refine yH (b := x409) rfl (fun c411 => ?_) (fun c411 => ?_)
   ·have hF := zV c411 hF
    refine zD fun K412 hK412 => ?_
    refine zC ?_
    refine zA rfl rfl (zK (v := .int .i64 x404) rfl) ?_
    refine zA rfl rfl (zG (v := .int .i64 x404) rfl) ?_
    refine (zJ (zB (hK412 _ _ ?_)))
    have hR := Option.some.inj hF
    subst hR
    refine (yG (yJ (yC (yC (yJ (yC (post1 (v1 := .int .i64 x404) rfl rfl ?_)))))))
    exact ⟨rfl, H.pick [7, 8, 9] (by decide)⟩
   have hF := zW c411 hF
   refine (yI (yX (zB (hK382 _ _ ?_))))
   refine zC ?_
   obtain ⟨x413, e414, hF⟩ := zF hF
   refine zA rfl rfl (wE (a := g339) (b := 1) rfl rfl e414) ?_
   refine zA rfl rfl (zK (v := .int .i64 x413) rfl) ?_
   refine (zJ (zB (And.intro ?_ ?_)))
   ·repeat' (first | with_reducible exact zS | refine zZ rfl ?_ | refine zT rfl rfl ?_)
   exact ⟨(n345, x413), (zQ rfl zU), ⟨H.pick [0, 1, 2, 3, 7, 8, 9] (by decide), hF⟩, Nat.lt_succ_self _⟩
  have hF := zW c351 hF
  refine (xW (yU (yU (xE (zB (And.intro ?_ ?_))))))
  ·repeat' (first | with_reducible exact zS | refine zZ rfl ?_ | refine zT rfl rfl ?_)
  exact ⟨(), zU, ⟨H.pick [1, 2, 3, 4, 5, 6] (by decide), hF⟩⟩
 rintro _ ρ w191 ⟨H, hF⟩
 have hF := wJ ek193 hF
 refine zD fun K415 hK415 => ?_
 refine zC ?_
 refine zA rfl rfl (zG (v := .int .i64 0) rfl) ?_
 refine (zJ (zB (hK415 _ _ ?_)))
 have hR := Option.some.inj hF
 subst hR
 refine (yG (post1 (v1 := .int .i64 0) rfl rfl ?_))
 exact ⟨rfl, H.pick [3, 4, 5] (by decide)⟩
theorem F_event_each_event_checkRule_2_df146_a0de_s : S_event_each_event_checkRule_2_df146_a0de (F_event_each_event_checkRule_2_df146_a0de) := by
 have h : ∀ n, S_event_each_event_checkRule_2_df146_a0de (F_event_each_event_checkRule_2_df146_a0de_R n) := by
  intro n
  induction n with
  | zero => intro p0 p1c0 p1c1f1 v1 b3 v4 v5 v6 b11 b13 r hF; cases hF
  | succ n ih => intro p0 p1c0 p1c1f1 v1 b3 v4 v5 v6 b11 b13 r hF; exact F_event_each_event_checkRule_2_df146_a0de_B_w (F_event_each_event_checkRule_2_df146_a0de_R n) ih p0 p1c0 p1c1f1 v1 b3 v4 v5 v6 b11 b13 r hF
 exact h FU
end Go.Proofs.YtnajnkghilemhaaGreatDoor.L
namespace Go.Proofs.YtnajnkghilemhaaGreatDoor.L
open Go.RowKit Go.OB Go.Lf
/- orangebox/event.checkRule -/
set_option maxHeartbeats 4000000 in
theorem F_event_checkRule_w (p0 : Rules) (p1 : Int) (v1 : Value) (v2 : Value) (v3 : Value) (r : Int) (hF : F_event_checkRule p0 p1 = some r) (O S : List Nat) (w : World) (H : Hd O w w S [.fz (.sl Rp.str v1 p0.Phases), .fz (.sl rMoveT v2 p0.Moves), .fz (.sl rRule v3 p0.Rules)]) :
  Calls Tryz.prog 94 ([.agg [v1, v2, v3].toArray, .int .i64 p1] : List Value).toArray w fun e w' => e = .returned (.int .i64 r) ∧ Hd O w w' S [] := by
 unfold F_event_checkRule at hF
 refine yD 34 Tryz.func94 rfl rfl rfl ?_
 refine zD fun K7 hK7 => ?_
 refine zC ?_
 refine yY rfl rfl (Lx_box (cs := [v1, v2, v3]) rfl H) ?_
 rintro _ w10 ⟨b8, rfl, H⟩
 refine yY rfl rfl (Lx_box1 rfl rfl H) ?_
 rintro _ w13 ⟨b11, rfl, H⟩
 refine zA rfl rfl (zG (v := .int .i64 0) rfl) ?_
 refine (zJ (zB (hK7 _ _ ?_)))
 refine zD fun K14 hK14 => ?_
 refine zC ?_
 refine zA rfl rfl (fa26_2 rfl) ?_
 refine zA rfl rfl (zL one24 rfl (Cells.get (Blk.cells (H.item (i := 3) rfl)) (i := 2) rfl)) ?_
 refine zA rfl rfl (zL one3 rfl (Cells.get (Blk.cells (H.item (i := 4) rfl)) (i := 0) rfl)) ?_
 obtain ⟨x15, e16, hF⟩ := zI hF
 obtain ⟨b17, o18, c19, cs20, q21, h24, h22, h23, h25⟩ := rd_at (H.item (i := 2) rfl) e16
 obtain ⟨v26, rfl, h27⟩ := rRule_open h24
 have H := H.fzs [.at b17 (o18 + p1.toNat * 8) _, .sl rCond v26 x15.When.Kids] ⟨⟨h22, h23, h25⟩, h27, trivial⟩
 refine zA rfl rfl (xY u24 sz106 q21 rfl (yP e16).1 (yP e16).2.1 rfl rfl) ?_
 refine zA rfl rfl (zM (yT (cs := [.string (bs x15.Name), .int .i64 x15.When.Kind, .string (bs x15.When.Name), .string (bs x15.When.Other), .int .i64 x15.When.Op, .int .i64 x15.When.N, .int .i64 x15.When.Frames, v26]) agg106 rfl sz106 rfl (H.item (i := 5) rfl).2.2) rfl) ?_
 refine yY rfl rfl (xJ zero106 H) ?_
 rintro _ w32 ⟨b30, rfl, H⟩
 refine yV rfl (yN (vs := [.string (bs x15.Name), .int .i64 x15.When.Kind, .string (bs x15.When.Name), .string (bs x15.When.Other), .int .i64 x15.When.Op, .int .i64 x15.When.N, .int .i64 x15.When.Frames, v26]) H 7 rfl sz106 rfl rfl rfl ⟨rfl, rfl, rfl, rfl, rfl, rfl, rfl, (slf_one (H.item (i := 6) rfl)), trivial⟩ rfl) ?_
 rintro w33 H
 refine (zJ (zB (hK14 _ _ ?_)))
 refine zD fun K34 hK34 => ?_
 refine zC ?_
 refine zA rfl rfl (Do_makeFunc rfl) ?_
 refine yY rfl rfl (xJ zero48 H) ?_
 rintro _ w37 ⟨b35, rfl, H⟩
 refine yV rfl (xX H 8 rfl sz48 rfl (v := .func (.func 146) #[] #[.pointer (some ⟨b8, 0, none⟩), .pointer (some ⟨b11, 0, none⟩)]) rfl rfl rfl) ?_
 rintro w38 H
 refine (zJ (zB (hK34 _ _ ?_)))
 refine zD fun K56 hK56 => ?_
 refine yM ?_
 refine zD fun K57 hK57 => ?_
 refine zC ?_
 refine zA rfl rfl (fa106_0 rfl) ?_
 refine zA rfl rfl (zL one9 rfl (Cells.get (Blk.cells (H.item (i := 7) rfl)) (i := 0) rfl)) ?_
 have H58 := H
 obtain ⟨x59, e60, hF⟩ := zI hF
 refine yA rfl rfl (zX en68 rfl) (F_event_isName_w x15.Name _ e60 _ _ _ (H.enter [] [] (by decide) rfl)) ?_
 rintro _ w61 ⟨rfl, G62⟩
 have H := H58.step (G62.only : Only [] _ _)
 refine ⟨_, rfl, ?_⟩
 obtain ⟨x63, e64, hF⟩ := zF hF
 refine zA rfl rfl (zM (yS (p := x59) rfl) (congrArg Value.bool e64)) ?_
 refine zA rfl rfl (zG (v := .bool x63) rfl) ?_
 refine (zJ (zB (hK57 _ _ ?_)))
 refine yH (b := x63) rfl (fun c65 => ?_) (fun c65 => ?_)
 ·have hF := zV c65 hF
  refine zD fun K66 hK66 => ?_
  refine zC ?_
  refine zA rfl rfl (zG (v := .int .i64 8) rfl) ?_
  refine (zJ (zB (hK66 _ _ ?_)))
  have hR := Option.some.inj hF
  subst hR
  refine (yG (yJ (yC (post1 (v1 := .int .i64 8) rfl rfl ?_))))
  exact ⟨rfl, H.pick [] (by decide)⟩
 have hF := zW c65 hF
 refine zD fun K67 hK67 => ?_
 refine zC ?_
 refine zA rfl rfl (zL one48 rfl (Cells.get (Blk.cells (H.item (i := 8) rfl)) (i := 0) rfl)) ?_
 refine zA rfl rfl (fa106_0 rfl) ?_
 refine zA rfl rfl (zL one9 rfl (Cells.get (Blk.cells (H.item (i := 7) rfl)) (i := 0) rfl)) ?_
 obtain ⟨x68, e69, hF⟩ := zI hF
 refine yA rfl rfl (wH en146 rfl rfl) (F_event_checkRule_1_w x15.Name p0 p1 b8 v1 v2 v3 b11 _ e69 _ _ _ (H.enter [3, 4] [0, 1, 2] (by decide) rfl)) ?_
 rintro _ w70 ⟨rfl, G71⟩
 have H : Hd O _ w70 _ [.fz (.sl Rp.str v1 p0.Phases), .fz (.sl rMoveT v2 p0.Moves), .fz (.sl rRule v3 p0.Rules), .fz (.at b17 (o18 + p1.toNat * 8) [.string (bs x15.Name), .int .i64 x15.When.Kind, .string (bs x15.When.Name), .string (bs x15.When.Other), .int .i64 x15.When.Op, .int .i64 x15.When.N, .int .i64 x15.When.Frames, v26]), .fz (.sl rCond v26 x15.When.Kids), .blk b30 [.string (bs x15.Name), .int .i64 x15.When.Kind, .string (bs x15.When.Name), .string (bs x15.When.Other), .int .i64 x15.When.Op, .int .i64 x15.When.N, .int .i64 x15.When.Frames, v26] 106, .blk b35 [.func (.func 146) #[] #[.pointer (some ⟨b8, 0, none⟩), .pointer (some ⟨b11, 0, none⟩)]] 48, .blk b8 [v1, v2, v3] 26, .blk b11 [.int .i64 p1] 3] := H.back [3, 4] [0, 1, 2] rfl G71
 refine ⟨_, rfl, ?_⟩
 refine zA rfl rfl (zG (v := .bool x68) rfl) ?_
 refine (zJ (zB (hK67 _ _ ?_)))
 refine yH (b := x68) rfl (fun c72 => ?_) (fun c72 => ?_)
 ·have hF := zV c72 hF
  refine zD fun K73 hK73 => ?_
  refine zC ?_
  refine zA rfl rfl (zG (v := .int .i64 5) rfl) ?_
  refine (zJ (zB (hK73 _ _ ?_)))
  have hR := Option.some.inj hF
  subst hR
  refine (yG (yJ (yC (post1 (v1 := .int .i64 5) rfl rfl ?_))))
  exact ⟨rfl, H.pick [] (by decide)⟩
 have hF := zW c72 hF
 refine (yI (yX (zB (hK56 _ _ ?_))))
 refine zD fun K85 hK85 => ?_
 refine zD fun K86 hK86 => ?_
 refine zC ?_
 refine zA rfl rfl (fa106_1 rfl) ?_
 refine zA rfl rfl (zM (yT (cs := [.int .i64 x15.When.Kind, .string (bs x15.When.Name), .string (bs x15.When.Other), .int .i64 x15.When.Op, .int .i64 x15.When.N, .int .i64 x15.When.Frames, v26]) agg54 rfl sz54 rfl (Cells.drop (Blk.cells (H.item (i := 5) rfl)) 1 7)) rfl) ?_
 have H87 := H
 obtain ⟨x88, e89, hF⟩ := zI hF
 refine yA rfl rfl (zX en56 rfl) (F_event_CheckCond_w x15.When v26 _ e89 _ _ _ (H.enter [] [4] (by decide) rfl)) ?_
 rintro _ w90 ⟨rfl, G91⟩
 have H := H87.step (G91.only : Only [] _ _)
 refine ⟨_, rfl, ?_⟩
 refine zA rfl rfl (zG (v := .int .i64 x88) rfl) ?_
 refine (zJ (zB (hK86 _ _ ?_)))
 refine zD fun K92 hK92 => ?_
 refine zC ?_
 refine zA rfl rfl (zK (v := .int .i64 x88) rfl) ?_
 obtain ⟨x93, e94, hF⟩ := zF hF
 refine zA rfl rfl (zM (xO (a := x88) (b := 0) rfl rfl) (congrArg Value.bool e94)) ?_
 refine (zJ (zB (hK92 _ _ ?_)))
 refine yH (b := x93) rfl (fun c95 => ?_) (fun c95 => ?_)
 ·have hF := zV c95 hF
  refine zD fun K96 hK96 => ?_
  refine zC ?_
  refine zA rfl rfl (zK (v := .int .i64 x88) rfl) ?_
  refine zA rfl rfl (zG (v := .int .i64 x88) rfl) ?_
  refine (zJ (zB (hK96 _ _ ?_)))
  have hR := Option.some.inj hF
  subst hR
  refine (yG (yC (post1 (v1 := .int .i64 x88) rfl rfl ?_)))
  exact ⟨rfl, H.pick [] (by decide)⟩
 have hF := zW c95 hF
 refine (yI (zB (hK85 _ _ ?_)))
 refine zD fun K97 hK97 => ?_
 refine zC ?_
 refine zA rfl rfl (fa106_1 rfl) ?_
 refine zA rfl rfl (zM (yT (cs := [.int .i64 x15.When.Kind, .string (bs x15.When.Name), .string (bs x15.When.Other), .int .i64 x15.When.Op, .int .i64 x15.When.N, .int .i64 x15.When.Frames, v26]) agg54 rfl sz54 rfl (Cells.drop (Blk.cells (H.item (i := 5) rfl)) 1 7)) rfl) ?_
 refine zA rfl rfl (Do_makeFunc rfl) ?_
 obtain ⟨x98, e99, hF⟩ := zI hF
 refine yA rfl rfl (zX en108 rfl) (F_event_each_event_checkRule_2_df146_a0de_s x15.When p0 p1 v26 b8 v1 v2 v3 b35 b11 _ e99 _ _ _ (H.enter [7, 8, 6] [4, 0, 1, 2] (by decide) rfl)) ?_
 rintro _ w100 ⟨rfl, G101⟩
 have H : Hd O _ w100 _ [.fz (.sl Rp.str v1 p0.Phases), .fz (.sl rMoveT v2 p0.Moves), .fz (.sl rRule v3 p0.Rules), .fz (.at b17 (o18 + p1.toNat * 8) [.string (bs x15.Name), .int .i64 x15.When.Kind, .string (bs x15.When.Name), .string (bs x15.When.Other), .int .i64 x15.When.Op, .int .i64 x15.When.N, .int .i64 x15.When.Frames, v26]), .fz (.sl rCond v26 x15.When.Kids), .blk b30 [.string (bs x15.Name), .int .i64 x15.When.Kind, .string (bs x15.When.Name), .string (bs x15.When.Other), .int .i64 x15.When.Op, .int .i64 x15.When.N, .int .i64 x15.When.Frames, v26] 106, .blk b8 [v1, v2, v3] 26, .blk b11 [.int .i64 p1] 3, .blk b35 [.func (.func 146) #[] #[.pointer (some ⟨b8, 0, none⟩), .pointer (some ⟨b11, 0, none⟩)]] 48] := H.back [7, 8, 6] [4, 0, 1, 2] rfl G101
 refine ⟨_, rfl, ?_⟩
 refine zA rfl rfl (zG (v := .int .i64 x98) rfl) ?_
 refine (zJ (zB (hK97 _ _ ?_)))
 have hR := Option.some.inj hF
 subst hR
 refine (yG (post1 (v1 := .int .i64 x98) rfl rfl ?_))
 exact ⟨rfl, H.pick [] (by decide)⟩
end Go.Proofs.YtnajnkghilemhaaGreatDoor.L
