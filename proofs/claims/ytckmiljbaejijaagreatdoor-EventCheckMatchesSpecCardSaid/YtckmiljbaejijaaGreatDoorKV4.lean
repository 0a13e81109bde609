/- Walks: what each function computes, for every argument; no condition but those that stand in the statements. -/
import Derived.Test.YtckmiljbaejijaaGreatDoorKV0
import Derived.Test.YtckmiljbaejijaaGreatDoorKV3
import Derived.Test.YtckmiljbaejijaaGreatDoorKV2
namespace Go.Proofs.YtckmiljbaejijaaGreatDoor.L
open Go.RowKit Go.OB Go.Lf
set_option maxHeartbeats 4000000 in
set_option maxRecDepth 100000 in
theorem F_ref6_refers_B_w (rfJ : Cond → Option Bool) (rhJ : S_ref6_refers rfJ) (p0 : Cond) (v1 : Value) (r : Bool) (hF : F_ref6_refers_B rfJ p0 = some r) (O S : List Nat) (w : World) (H : Hd O w w S [.fz (.sl rCond v1 p0.Kids)]) :
  Calls Tryz.prog 92 ([.agg [.int .i64 p0.Kind, .string (bs p0.Name), .string (bs p0.Other), .int .i64 p0.Op, .int .i64 p0.N, .int .i64 p0.Frames, v1].toArray] : List Value).toArray w fun e w' => e = .returned (.bool r) ∧ Hd O w w' S [] := by
 unfold F_ref6_refers_B at hF
 refine zY 25 Tryz.func92 rfl rfl rfl ?_
 refine zC fun K3 hK3 => ?_
 refine zB ?_
 refine yZ rfl rfl (wF (cs := [.int .i64 p0.Kind, .string (bs p0.Name), .string (bs p0.Other), .int .i64 p0.Op, .int .i64 p0.N, .int .i64 p0.Frames, v1]) rfl H) ?_
 rintro _ w6 ⟨b4, rfl, H⟩
 refine zI (.bool false) ?_
 refine (zD (zA (hK3 _ _ ?_)))
 refine zC fun K17 hK17 => ?_
 obtain ⟨g23, hF, hK25⟩ := zG hF
 refine yL [4, 5, 6, 7, 8, 9, 10, 11] (fun (g : Unit) => [(11, .bool g23)]) (fun g wl => Hd O w wl S [.fz (.sl rCond v1 p0.Kids), .blk b4 [.int .i64 p0.Kind, .string (bs p0.Name), .string (bs p0.Other), .int .i64 p0.Op, .int .i64 p0.N, .int .i64 p0.Frames, v1] 70]) ?_ ?_
 ·skip
  refine zB ?_
  refine zH (fa70_0 rfl) ?_
  refine zH (zO one3 rfl (Cells.get (Blk.cells (H.item (i := 1) rfl)) (i := 0) rfl)) ?_
  obtain ⟨x26, e27, hF⟩ := zF hF
  refine zH (zM (yR (a := p0.Kind) (b := 6) rfl rfl) e27) ?_
  refine yK (b := x26) rfl rfl rfl (fun c28 => ?_) (fun c28 => ?_)
  ·have hF := zQ c28 hF
   refine yC ?_
   refine yC ?_
   refine yC ?_
   refine zH (yI (v := .bool true) rfl rfl) ?_
   obtain rfl := someI hF
   exact (zD (zA (meet ⟨(), (zJ rfl zL), H.pick [0, 1] (by decide)⟩)))
  have hF := zS c28 hF
  refine zH (fa70_0 rfl) ?_
  refine zH (zO one3 rfl (Cells.get (Blk.cells (H.item (i := 1) rfl)) (i := 0) rfl)) ?_
  obtain ⟨x29, e30, hF⟩ := zF hF
  refine zH (zM (yR (a := p0.Kind) (b := 7) rfl rfl) e30) ?_
  refine zH (yF (v := .bool x29) rfl rfl) ?_
  obtain rfl := someI hF
  exact (zD (zA (meet ⟨(), (zJ rfl zL), H.pick [0, 1] (by decide)⟩)))
 rintro _ ρ w24 H
 have hF := hK25
 refine yA (b := g23) rfl (fun c31 => ?_) (fun c31 => ?_)
 ·have hF := zQ c31 hF
  refine zC fun K32 hK32 => ?_
  refine zB ?_
  refine zI (.bool true) ?_
  refine (zD (zA (hK32 _ _ ?_)))
  obtain rfl := someI hF
  refine (yB (zW (post1 (v1 := .bool true) rfl rfl ?_)))
  exact ⟨rfl, H.pick [] (by decide)⟩
 have hF := zS c31 hF
 refine (zX (zA (hK17 _ _ ?_)))
 obtain ⟨k178, ek179, hF⟩ := xQ hF
 refine yL [2, 3, 12, 13, 14, 15, 16, 17, 18, 19, 20, 21, 22, 23, 24] (fun (g : Unit) => []) (fun g wl => Hd O w wl S [] ∧ k178 () = some r) ?_ ?_
 ·skip
  refine zC fun K180 hK180 => ?_
  refine zB ?_
  refine zI (.int .i64 0) ?_
  refine (zD (zA (hK180 _ _ ?_)))
  refine yG ?_
  unfold F_ref6_refers_B_L1 at hF
  obtain ⟨B319, n320, eB321, hF⟩ := yS hF
  refine xE [2, 3, 12, 13, 14, 15, 16, 17, 18, 19, 20, 21, 22, 23, 24] (fun (g : Nat × Int) => [(3, .int .i64 g.2)]) (fun g wl => Hd O w wl S [.fz (.sl rCond v1 p0.Kids), .blk b4 [.int .i64 p0.Kind, .string (bs p0.Name), .string (bs p0.Other), .int .i64 p0.Op, .int .i64 p0.N, .int .i64 p0.Frames, v1] 70] ∧ loopN B319 g.1 g.2 = some r) (fun g => g.1) (n320, 0) (zJ rfl zL) ⟨H.pick [0, 1] (by decide), hF⟩ ?_
  clear H hF
  rintro ⟨n320, g318⟩ ρ w323 ⟨H, hF⟩
  obtain ⟨n324, rfl, hF⟩ := yX hF
  have hF := yY eB321 hF
  refine zC fun K334 hK334 => ?_
  refine zC fun K335 hK335 => ?_
  refine zB ?_
  refine zK (.int .i64 g318) ?_
  refine zH (fa70_6 rfl) ?_
  refine zH (zO one68 rfl (Cells.get (Blk.cells (H.item (i := 1) rfl)) (i := 6) rfl)) ?_
  obtain ⟨x336, e337, hF⟩ := zF hF
  obtain ⟨a338, c339, q340⟩ := SlF.len ((H.item (i := 0) rfl))
  refine zH (yN (xM u68 q340) (congrArg (Value.int .i64) e337)) ?_
  obtain ⟨x341, e342, hF⟩ := zF hF
  refine zH (zM (xI (a := g318) (b := x336) rfl rfl) e342) ?_
  refine (zD (zA (hK335 _ _ ?_)))
  refine yA (b := x341) rfl (fun c343 => ?_) (fun c343 => ?_)
  ·have hF := zQ c343 hF
   refine (zX (zA (hK334 _ _ ?_)))
   refine zC fun K367 hK367 => ?_
   refine yG ?_
   refine zC fun K368 hK368 => ?_
   refine zB ?_
   refine zH (fa70_6 rfl) ?_
   refine zH (zO one68 rfl (Cells.get (Blk.cells (H.item (i := 1) rfl)) (i := 6) rfl)) ?_
   refine zK (.int .i64 g318) ?_
   obtain ⟨x369, e370, hF⟩ := zG hF
   obtain ⟨b371, o372, c373, cs374, q375, h378, h376, h377, h379⟩ := rd_at (H.item (i := 0) rfl) e370
   obtain ⟨v380, rfl, h381⟩ := wI h378
   have H := H.fzs [.at b371 (o372 + g318.toNat * 7) _, .sl rCond v380 x369.Kids] ⟨⟨h376, h377, h379⟩, h381, trivial⟩
   refine zH (wC u68 sz70 q375 rfl (yP e370).1 (yP e370).2.1 rfl rfl) ?_
   refine zH (yN (yJ (cs := [.int .i64 x369.Kind, .string (bs x369.Name), .string (bs x369.Other), .int .i64 x369.Op, .int .i64 x369.N, .int .i64 x369.Frames, v380]) agg70 rfl sz70 rfl (H.item (i := 2) rfl).2.2) rfl) ?_
   have H384 := H
   obtain ⟨x385, e386, hF⟩ := zG hF
   refine zZ rfl rfl (zT en92 rfl) (rhJ x369 v380 _ e386 _ _ _ (H.enter [] [3] (by decide) rfl)) ?_
   rintro _ w387 ⟨rfl, G388⟩
   have H := H384.step (G388.only : Only [] _ _)
   refine ⟨_, rfl, ?_⟩
   refine (zD (zA (hK368 _ _ ?_)))
   refine yA (b := x385) rfl (fun c389 => ?_) (fun c389 => ?_)
   ·have hF := zQ c389 hF
    refine zC fun K390 hK390 => ?_
    refine zB ?_
    refine zI (.bool true) ?_
    refine (zD (zA (hK390 _ _ ?_)))
    obtain rfl := someI hF
    refine (yB (yE (zW (zW (yE (zW (post1 (v1 := .bool true) rfl rfl ?_)))))))
    exact ⟨rfl, H.pick [] (by decide)⟩
   have hF := zS c389 hF
   refine (zX (yT (zA (hK367 _ _ ?_))))
   refine zB ?_
   refine zK (.int .i64 g318) ?_
   obtain ⟨x391, e392, hF⟩ := zF hF
   refine zH (xP (a := g318) (b := 1) rfl rfl e392) ?_
   refine zI (.int .i64 x391) ?_
   exact (zD (zA (meet ⟨(n324, x391), (zJ rfl zL), ⟨H.pick [0, 1] (by decide), hF⟩, Nat.lt_succ_self _⟩)))
  have hF := zS c343 hF
  exact (xJ (yO (yO (xB (zA (meet ⟨(), zL, ⟨H.pick [] (by decide), hF⟩⟩))))))
 rintro _ ρ w177 ⟨H, hF⟩
 have hF := wB ek179 hF
 refine zC fun K393 hK393 => ?_
 refine zB ?_
 refine zI (.bool false) ?_
 refine (zD (zA (hK393 _ _ ?_)))
 obtain rfl := someI hF
 refine (yB (post1 (v1 := .bool false) rfl rfl ?_))
 exact ⟨rfl, H.pick [] (by decide)⟩
theorem F_ref6_refers_s : S_ref6_refers (F_ref6_refers) := by
 have h : ∀ n, S_ref6_refers (F_ref6_refers_R n) := by
  intro n
  induction n with
  | zero => intro p0 v1 r hF; cases hF
  | succ n ih => intro p0 v1 r hF; exact F_ref6_refers_B_w (F_ref6_refers_R n) ih p0 v1 r hF
 exact h FU
set_option maxHeartbeats 4000000 in
theorem F_ref6_RuleOf_w (p0 : Rules) (p1 : Str) (v1 : Value) (v2 : Value) (v3 : Value) (r : Int) (hF : F_ref6_RuleOf p0 p1 = some r) (O S : List Nat) (w : World) (H : Hd O w w S [.fz (.sl Rp.str v1 p0.Phases), .fz (.sl rMoveT v2 p0.Moves), .fz (.sl rRule v3 p0.Rules)]) :
  Calls Tryz.prog 93 ([.agg [v1, v2, v3].toArray, .string (bs p1)] : List Value).toArray w fun e w' => e = .returned (.int .i64 r) ∧ Hd O w w' S [] := by
 unfold F_ref6_RuleOf at hF
 refine zY 22 Tryz.func93 rfl rfl rfl ?_
 refine zC fun K7 hK7 => ?_
 refine zB ?_
 refine yZ rfl rfl (wF (cs := [v1, v2, v3]) rfl H) ?_
 rintro _ w10 ⟨b8, rfl, H⟩
 refine zI (.int .i64 0) ?_
 refine (zD (zA (hK7 _ _ ?_)))
 obtain ⟨k144, ek145, hF⟩ := xQ hF
 refine yL [4, 5, 6, 7, 8, 9, 10, 11, 12, 13, 14, 15, 16, 17, 18, 19, 20, 21] (fun (g : Unit) => []) (fun g wl => Hd O w wl S [] ∧ k144 () = some r) ?_ ?_
 ·skip
  refine zC fun K146 hK146 => ?_
  refine zB ?_
  refine zI (.int .i64 0) ?_
  refine (zD (zA (hK146 _ _ ?_)))
  refine yG ?_
  unfold F_ref6_RuleOf_L1 at hF
  obtain ⟨B273, n274, eB275, hF⟩ := yS hF
  refine xE [4, 5, 6, 7, 8, 9, 10, 11, 12, 13, 14, 15, 16, 17, 18, 19, 20, 21] (fun (g : Nat × Int) => [(5, .int .i64 g.2)]) (fun g wl => Hd O w wl S [.fz (.sl Rp.str v1 p0.Phases), .fz (.sl rMoveT v2 p0.Moves), .fz (.sl rRule v3 p0.Rules), .blk b8 [v1, v2, v3] 26] ∧ loopN B273 g.1 g.2 = some r) (fun g => g.1) (n274, 0) (zJ rfl zL) ⟨H.pick [0, 1, 2, 3] (by decide), hF⟩ ?_
  clear H hF
  rintro ⟨n274, g272⟩ ρ w277 ⟨H, hF⟩
  obtain ⟨n278, rfl, hF⟩ := yX hF
  have hF := yY eB275 hF
  refine zC fun K288 hK288 => ?_
  refine zC fun K289 hK289 => ?_
  refine zB ?_
  refine zK (.int .i64 g272) ?_
  refine zH (fa26_2 rfl) ?_
  refine zH (zO one24 rfl (Cells.get (Blk.cells (H.item (i := 3) rfl)) (i := 2) rfl)) ?_
  obtain ⟨x290, e291, hF⟩ := zF hF
  obtain ⟨a292, c293, q294⟩ := SlF.len ((H.item (i := 2) rfl))
  refine zH (yN (xM u24 q294) (congrArg (Value.int .i64) e291)) ?_
  obtain ⟨x295, e296, hF⟩ := zF hF
  refine zH (zM (xI (a := g272) (b := x290) rfl rfl) e296) ?_
  refine (zD (zA (hK289 _ _ ?_)))
  refine yA (b := x295) rfl (fun c297 => ?_) (fun c297 => ?_)
  ·have hF := zQ c297 hF
   refine (zX (zA (hK288 _ _ ?_)))
   refine zC fun K318 hK318 => ?_
   refine yG ?_
   refine zC fun K319 hK319 => ?_
   refine zB ?_
   refine zH (fa26_2 rfl) ?_
   refine zH (zO one24 rfl (Cells.get (Blk.cells (H.item (i := 3) rfl)) (i := 2) rfl)) ?_
   refine zK (.int .i64 g272) ?_
   obtain ⟨x320, e321, hF⟩ := zG hF
   obtain ⟨b322, o323, c324, cs325, q326, h329, h327, h328, h330⟩ := rd_at (H.item (i := 2) rfl) e321
   obtain ⟨v331, rfl, h332⟩ := rRule_open h329
   have H := H.fzs [.at b322 (o323 + g272.toNat * 8) _, .sl rCond v331 x320.When.Kids] ⟨⟨h327, h328, h330⟩, h332, trivial⟩
   refine zH (wC u24 sz95 q326 rfl (yP e321).1 (yP e321).2.1 rfl rfl) ?_
   refine zH (fa95_0 rfl) ?_
   refine zH (zO one9 rfl (Cells.get (H.item (i := 4) rfl).2.2 (i := 0) rfl)) ?_
   refine zK (.string (bs p1)) ?_
   obtain ⟨x335, e336, hF⟩ := zF hF
   refine zH (zM (xW (s1 := x320.Name) (s2 := p1) rfl rfl) e336) ?_
   refine (zD (zA (hK319 _ _ ?_)))
   refine yA (b := x335) rfl (fun c337 => ?_) (fun c337 => ?_)
   ·have hF := zQ c337 hF
    refine zC fun K338 hK338 => ?_
    refine zB ?_
    refine zK (.int .i64 g272) ?_
    refine zI (.int .i64 g272) ?_
    refine (zD (zA (hK338 _ _ ?_)))
    obtain rfl := someI hF
    refine (yB (yE (zW (zW (yE (zW (post1 (v1 := .int .i64 g272) rfl rfl ?_)))))))
    exact ⟨rfl, H.pick [] (by decide)⟩
   have hF := zS c337 hF
   refine (zX (yT (zA (hK318 _ _ ?_))))
   refine zB ?_
   refine zK (.int .i64 g272) ?_
   obtain ⟨x339, e340, hF⟩ := zF hF
   refine zH (xP (a := g272) (b := 1) rfl rfl e340) ?_
   refine zI (.int .i64 x339) ?_
   exact (zD (zA (meet ⟨(n278, x339), (zJ rfl zL), ⟨H.pick [0, 1, 2, 3] (by decide), hF⟩, Nat.lt_succ_self _⟩)))
  have hF := zS c297 hF
  exact (xJ (yO (yO (xB (zA (meet ⟨(), zL, ⟨H.pick [] (by decide), hF⟩⟩))))))
 rintro _ ρ w143 ⟨H, hF⟩
 have hF := wB ek145 hF
 refine zC fun K341 hK341 => ?_
 refine zB ?_
 refine zI (.int .i64 (-1)) ?_
 refine (zD (zA (hK341 _ _ ?_)))
 obtain rfl := someI hF
 refine (yB (post1 (v1 := .int .i64 (-1)) rfl rfl ?_))
 exact ⟨rfl, H.pick [] (by decide)⟩
abbrev S_ref6_unnamed (f : Rules → Int → Cond → Option Bool) : Prop := ∀ (p0 : Rules) (p1 : Int) (p2 : Cond) (v1 : Value) (v2 : Value) (v3 : Value) (v7 : Value) (r : Bool) (_ : f p0 p1 p2 = some r) (O S : List Nat) (w : World) (_ : Hd O w w S [.fz (.sl Rp.str v1 p0.Phases), .fz (.sl rMoveT v2 p0.Moves), .fz (.sl rRule v3 p0.Rules), .fz (.sl rCond v7 p2.Kids)]),
  Calls Tryz.prog 94 ([.agg [v1, v2, v3].toArray, .int .i64 p1, .agg [.int .i64 p2.Kind, .string (bs p2.Name), .string (bs p2.Other), .int .i64 p2.Op, .int .i64 p2.N, .int .i64 p2.Frames, v7].toArray] : List Value).toArray w fun e w' => e = .returned (.bool r) ∧ Hd O w w' S []
set_option maxHeartbeats 4000000 in
set_option maxRecDepth 100000 in
theorem F_ref6_unnamed_B_w (rfK : Rules → Int → Cond → Option Bool) (rhK : S_ref6_unnamed rfK) (p0 : Rules) (p1 : Int) (p2 : Cond) (v1 : Value) (v2 : Value) (v3 : Value) (v7 : Value) (r : Bool) (hF : F_ref6_unnamed_B rfK p0 p1 p2 = some r) (O S : List Nat) (w : World) (H : Hd O w w S [.fz (.sl Rp.str v1 p0.Phases), .fz (.sl rMoveT v2 p0.Moves), .fz (.sl rRule v3 p0.Rules), .fz (.sl rCond v7 p2.Kids)]) :
  Calls Tryz.prog 94 ([.agg [v1, v2, v3].toArray, .int .i64 p1, .agg [.int .i64 p2.Kind, .string (bs p2.Name), .string (bs p2.Other), .int .i64 p2.Op, .int .i64 p2.N, .int .i64 p2.Frames, v7].toArray] : List Value).toArray w fun e w' => e = .returned (.bool r) ∧ Hd O w w' S [] := by
 unfold F_ref6_unnamed_B at hF
 refine zY 49 Tryz.func94 rfl rfl rfl ?_
 refine zC fun K9 hK9 => ?_
 refine zB ?_
 refine yZ rfl rfl (wF (cs := [v1, v2, v3]) rfl H) ?_
 rintro _ w12 ⟨b10, rfl, H⟩
 refine yZ rfl rfl (wF (cs := [.int .i64 p2.Kind, .string (bs p2.Name), .string (bs p2.Other), .int .i64 p2.Op, .int .i64 p2.N, .int .i64 p2.Frames, v7]) rfl H) ?_
 rintro _ w15 ⟨b13, rfl, H⟩
 refine zI (.bool false) ?_
 refine (zD (zA (hK9 _ _ ?_)))
 refine zC fun K31 hK31 => ?_
 obtain ⟨g42, hF, hK44⟩ := zG hF
 refine yL [9, 10, 11, 12, 13, 14, 15, 16, 17, 18, 19] (fun (g : Unit) => [(19, .bool g42)]) (fun g wl => Hd O w wl S [.fz (.sl Rp.str v1 p0.Phases), .fz (.sl rMoveT v2 p0.Moves), .fz (.sl rRule v3 p0.Rules), .fz (.sl rCond v7 p2.Kids), .blk b10 [v1, v2, v3] 26, .blk b13 [.int .i64 p2.Kind, .string (bs p2.Name), .string (bs p2.Other), .int .i64 p2.Op, .int .i64 p2.N, .int .i64 p2.Frames, v7] 70]) ?_ ?_
 ·skip
  refine zB ?_
  refine zH (fa70_0 rfl) ?_
  refine zH (zO one3 rfl (Cells.get (Blk.cells (H.item (i := 5) rfl)) (i := 0) rfl)) ?_
  obtain ⟨x45, e46, hF⟩ := zF hF
  refine zH (zM (yR (a := p2.Kind) (b := 6) rfl rfl) e46) ?_
  refine yK (b := x45) rfl rfl rfl (fun c47 => ?_) (fun c47 => ?_)
  ·have hF := zQ c47 hF
   refine zH (fa26_0 rfl) ?_
   refine zH (zO one22 rfl (Cells.get (Blk.cells (H.item (i := 4) rfl)) (i := 0) rfl)) ?_
   refine zH (fa70_1 rfl) ?_
   refine zH (zO one9 rfl (Cells.get (Blk.cells (H.item (i := 5) rfl)) (i := 1) rfl)) ?_
   have H48 := H
   obtain ⟨x49, e50, hF⟩ := zG hF
   refine zZ rfl rfl (zT en91 rfl) (F_ref6_place_w p0.Phases p2.Name v1 _ e50 _ _ _ (H.enter [] [0] (by decide) rfl)) ?_
   rintro _ w51 ⟨rfl, G52⟩
   have H := H48.step (G52.only : Only [] _ _)
   refine ⟨_, rfl, ?_⟩
   obtain ⟨x53, e54, hF⟩ := zF hF
   refine zH (zM (xI (a := x49) (b := 0) rfl rfl) e54) ?_
   refine zH (yI (v := .bool x53) rfl rfl) ?_
   obtain rfl := someI hF
   exact (zD (zA (meet ⟨(), (zJ rfl zL), H.pick [0, 1, 2, 3, 4, 5] (by decide)⟩)))
  have hF := zS c47 hF
  refine yC ?_
  refine yC ?_
  refine yC ?_
  refine yC ?_
  refine yC ?_
  refine yC ?_
  refine zH (yF (v := .bool false) rfl rfl) ?_
  obtain rfl := someI hF
  exact (zD (zA (meet ⟨(), (zJ rfl zL), H.pick [0, 1, 2, 3, 4, 5] (by decide)⟩)))
 rintro _ ρ w43 H
 have hF := hK44
 refine yA (b := g42) rfl (fun c55 => ?_) (fun c55 => ?_)
 ·have hF := zQ c55 hF
  refine zC fun K56 hK56 => ?_
  refine zB ?_
  refine zI (.bool true) ?_
  refine (zD (zA (hK56 _ _ ?_)))
  obtain rfl := someI hF
  refine (yB (zW (post1 (v1 := .bool true) rfl rfl ?_)))
  exact ⟨rfl, H.pick [] (by decide)⟩
 have hF := zS c55 hF
 refine (zX (zA (hK31 _ _ ?_)))
 obtain ⟨k78, ek79, hF⟩ := xQ hF
 refine yL [6, 7, 20, 21, 22, 23, 24, 25, 26, 27, 28, 29, 30, 31, 32, 33] (fun (g : Unit) => []) (fun g wl => Hd O w wl S [.fz (.sl Rp.str v1 p0.Phases), .fz (.sl rMoveT v2 p0.Moves), .fz (.sl rRule v3 p0.Rules), .fz (.sl rCond v7 p2.Kids), .blk b10 [v1, v2, v3] 26, .blk b13 [.int .i64 p2.Kind, .string (bs p2.Name), .string (bs p2.Other), .int .i64 p2.Op, .int .i64 p2.N, .int .i64 p2.Frames, v7] 70] ∧ k78 () = some r) ?_ ?_
 ·skip
  refine zC fun K80 hK80 => ?_
  refine zB ?_
  refine zH (fa70_0 rfl) ?_
  refine zH (zO one3 rfl (Cells.get (Blk.cells (H.item (i := 5) rfl)) (i := 0) rfl)) ?_
  obtain ⟨x81, e82, hF⟩ := zF hF
  refine zH (zM (yR (a := p2.Kind) (b := 7) rfl rfl) e82) ?_
  refine (zD (zA (hK80 _ _ ?_)))
  refine yA (b := x81) rfl (fun c83 => ?_) (fun c83 => ?_)
  ·have hF := zQ c83 hF
   refine zC fun K84 hK84 => ?_
   refine zB ?_
   refine zH (yN (yJ (cs := [v1, v2, v3]) agg26 rfl sz26 rfl (Blk.cells (H.item (i := 4) rfl))) rfl) ?_
   refine zH (fa70_1 rfl) ?_
   refine zH (zO one9 rfl (Cells.get (Blk.cells (H.item (i := 5) rfl)) (i := 1) rfl)) ?_
   have H85 := H
   obtain ⟨x86, e87, hF⟩ := zG hF
   refine zZ rfl rfl (zT en93 rfl) (F_ref6_RuleOf_w p0 p2.Name v1 v2 v3 _ e87 _ _ _ (H.enter [] [0, 1, 2] (by decide) rfl)) ?_
   rintro _ w88 ⟨rfl, G89⟩
   have H := H85.step (G89.only : Only [] _ _)
   refine ⟨_, rfl, ?_⟩
   refine zI (.int .i64 x86) ?_
   refine (zD (zA (hK84 _ _ ?_)))
   obtain ⟨g95, hF, hK97⟩ := zG hF
   refine yL [27, 28, 29, 30, 31, 32, 33] (fun (g : Unit) => [(33, .bool g95)]) (fun g wl => Hd O w wl S [.fz (.sl Rp.str v1 p0.Phases), .fz (.sl rMoveT v2 p0.Moves), .fz (.sl rRule v3 p0.Rules), .fz (.sl rCond v7 p2.Kids), .blk b10 [v1, v2, v3] 26, .blk b13 [.int .i64 p2.Kind, .string (bs p2.Name), .string (bs p2.Other), .int .i64 p2.Op, .int .i64 p2.N, .int .i64 p2.Frames, v7] 70]) ?_ ?_
   ·skip
    refine zB ?_
    refine zK (.int .i64 x86) ?_
    obtain ⟨x98, e99, hF⟩ := zF hF
    refine zH (zM (xI (a := x86) (b := 0) rfl rfl) e99) ?_
    refine yK (b := x98) rfl rfl rfl (fun c100 => ?_) (fun c100 => ?_)
    ·have hF := zQ c100 hF
     refine yC ?_
     refine yC ?_
     refine yC ?_
     refine zH (yI (v := .bool true) rfl rfl) ?_
     obtain rfl := someI hF
     exact (zD (zA (meet ⟨(), (zJ rfl zL), H.pick [0, 1, 2, 3, 4, 5] (by decide)⟩)))
    have hF := zS c100 hF
    refine zK (.int .i64 x86) ?_
    refine zK (.int .i64 p1) ?_
    obtain ⟨x101, e102, hF⟩ := zF hF
    refine zH (zM (Do_geq (a := x86) (b := p1) rfl rfl) e102) ?_
    refine zH (yF (v := .bool x101) rfl rfl) ?_
    obtain rfl := someI hF
    exact (zD (zA (meet ⟨(), (zJ rfl zL), H.pick [0, 1, 2, 3, 4, 5] (by decide)⟩)))
   rintro _ ρ w96 H
   have hF := hK97
   refine yA (b := g95) rfl (fun c103 => ?_) (fun c103 => ?_)
   ·have hF := zQ c103 hF
    refine zC fun K104 hK104 => ?_
    refine zB ?_
    refine zI (.bool true) ?_
    refine (zD (zA (hK104 _ _ ?_)))
    obtain rfl := someI hF
    refine (yB (zW (post1 (v1 := .bool true) rfl rfl ?_)))
    exact ⟨rfl, H.pick [] (by decide)⟩
   have hF := zS c103 hF
   exact (zX (zA (meet ⟨(), zL, ⟨H.pick [0, 1, 2, 3, 4, 5] (by decide), hF⟩⟩)))
  have hF := zS c83 hF
  exact (zX (zA (meet ⟨(), zL, ⟨H.pick [0, 1, 2, 3, 4, 5] (by decide), hF⟩⟩)))
 rintro _ ρ w77 ⟨H, hF⟩
 have hF := wB ek79 hF
 obtain ⟨k254, ek255, hF⟩ := xQ hF
 refine yL [6, 8, 34, 35, 36, 37, 38, 39, 40, 41, 42, 43, 44, 45, 46, 47, 48] (fun (g : Unit) => []) (fun g wl => Hd O w wl S [] ∧ k254 () = some r) ?_ ?_
 ·skip
  refine zC fun K256 hK256 => ?_
  refine zB ?_
  refine zI (.int .i64 0) ?_
  refine (zD (zA (hK256 _ _ ?_)))
  refine yG ?_
  unfold F_ref6_unnamed_B_L1 at hF
  obtain ⟨B399, n400, eB401, hF⟩ := yS hF
  refine xE [6, 8, 34, 35, 36, 37, 38, 39, 40, 41, 42, 43, 44, 45, 46, 47, 48] (fun (g : Nat × Int) => [(8, .int .i64 g.2)]) (fun g wl => Hd O w wl S [.fz (.sl Rp.str v1 p0.Phases), .fz (.sl rMoveT v2 p0.Moves), .fz (.sl rRule v3 p0.Rules), .fz (.sl rCond v7 p2.Kids), .blk b10 [v1, v2, v3] 26, .blk b13 [.int .i64 p2.Kind, .string (bs p2.Name), .string (bs p2.Other), .int .i64 p2.Op, .int .i64 p2.N, .int .i64 p2.Frames, v7] 70] ∧ loopN B399 g.1 g.2 = some r) (fun g => g.1) (n400, 0) (zJ rfl zL) ⟨H.pick [0, 1, 2, 3, 4, 5] (by decide), hF⟩ ?_
  clear H hF
  rintro ⟨n400, g398⟩ ρ w403 ⟨H, hF⟩
  obtain ⟨n404, rfl, hF⟩ := yX hF
  have hF := yY eB401 hF
  refine zC fun K414 hK414 => ?_
  refine zC fun K415 hK415 => ?_
  refine zB ?_
  refine zK (.int .i64 g398) ?_
  refine zH (fa70_6 rfl) ?_
  refine zH (zO one68 rfl (Cells.get (Blk.cells (H.item (i := 5) rfl)) (i := 6) rfl)) ?_
  obtain ⟨x416, e417, hF⟩ := zF hF
  obtain ⟨a418, c419, q420⟩ := SlF.len ((H.item (i := 3) rfl))
  refine zH (yN (xM u68 q420) (congrArg (Value.int .i64) e417)) ?_
  obtain ⟨x421, e422, hF⟩ := zF hF
  refine zH (zM (xI (a := g398) (b := x416) rfl rfl) e422) ?_
  refine (zD (zA (hK415 _ _ ?_)))
  refine yA (b := x421) rfl (fun c423 => ?_) (fun c423 => ?_)
  ·have hF := zQ c423 hF
   refine (zX (zA (hK414 _ _ ?_)))
   refine zC fun K448 hK448 => ?_
   refine yG ?_
   refine zC fun K449 hK449 => ?_
   have H450 := H
   have H := H.rebase
   have H451 := H
   refine WP_mix0 H [0, 1, 2, 3, 4, 5, 6, 7] [.read, .pure, .pure, .read, .pure, .pure, .read, .read] mixed (by kernel_rfl) (by kernel_rfl) (by kernel_rfl) rfl ?_
   refine Mx.xO oS rfl rfl rfl (fun w' hw' => yN (yJ (cs := [v1, v2, v3]) agg26 rfl sz26 rfl (Blk.cells ((H.sees hw').item (i := 4) rfl))) rfl) ?_
   refine Mx.yD rfl rfl rfl (fun w' hw' => xK (v := .int .i64 p1) rfl) ?_
   refine Mx.yD rfl rfl rfl (fun w' hw' => fa70_6 rfl) ?_
   refine Mx.xO oS rfl rfl rfl (fun w' hw' => zO one68 rfl (Cells.get (Blk.cells ((H.sees hw').item (i := 5) rfl)) (i := 6) rfl)) ?_
   refine Mx.yD rfl rfl rfl (fun w' hw' => xK (v := .int .i64 g398) rfl) ?_
   obtain ⟨x452, e453, hF⟩ := zG hF
   obtain ⟨b454, o455, c456, cs457, q458, h461, h459, h460, h462⟩ := rd_at (H.item (i := 3) rfl) e453
   obtain ⟨v463, rfl, h464⟩ := wI h461
   have H := H.fzs [.at b454 (o455 + g398.toNat * 7) _, .sl rCond v463 x452.Kids] ⟨⟨h459, h460, h462⟩, h464, trivial⟩
   refine Mx.yD rfl rfl rfl (fun w' hw' => wC u68 sz70 q458 rfl (yP e453).1 (yP e453).2.1 rfl rfl) ?_
   refine Mx.xO oS rfl rfl rfl (fun w' hw' => yN (yJ (cs := [.int .i64 x452.Kind, .string (bs x452.Name), .string (bs x452.Other), .int .i64 x452.Op, .int .i64 x452.N, .int .i64 x452.Frames, v463]) agg70 rfl sz70 rfl ((H.sees hw').item (i := 6) rfl).2.2) rfl) ?_
   have H467 := H
   obtain ⟨x468, e469, hF⟩ := zG hF
   refine Mx.XL_call oS rfl rfl rfl (v := .bool x468) (fun w' hw' => zT en94 rfl) (fun w' hw' => call_read (rhK p0 p1 x452 v1 v2 v3 v463 _ e469 _ _ _ ((H.sees hw').enter [] [0, 1, 2, 7] (by decide) rfl))) ?_
   have H := H467
   refine Mx.XL_nil fun w470 hS => ?_
   have H := H.sees hS
   have H := H450.rejoin H
   refine (zA (hK449 _ _ ?_))
   refine yA (b := x468) rfl (fun c471 => ?_) (fun c471 => ?_)
   ·have hF := zQ c471 hF
    refine zC fun K472 hK472 => ?_
    refine zB ?_
    refine zI (.bool true) ?_
    refine (zD (zA (hK472 _ _ ?_)))
    obtain rfl := someI hF
    refine (yB (yE (zW (zW (yE (zW (post1 (v1 := .bool true) rfl rfl ?_)))))))
    exact ⟨rfl, H.pick [] (by decide)⟩
   have hF := zS c471 hF
   refine (zX (yT (zA (hK448 _ _ ?_))))
   refine zB ?_
   refine zK (.int .i64 g398) ?_
   obtain ⟨x473, e474, hF⟩ := zF hF
   refine zH (xP (a := g398) (b := 1) rfl rfl e474) ?_
   refine zI (.int .i64 x473) ?_
   exact (zD (zA (meet ⟨(n404, x473), (zJ rfl zL), ⟨H.pick [0, 1, 2, 3, 4, 5] (by decide), hF⟩, Nat.lt_succ_self _⟩)))
  have hF := zS c423 hF
  exact (xJ (yO (yO (xB (zA (meet ⟨(), zL, ⟨H.pick [] (by decide), hF⟩⟩))))))
 rintro _ ρ w253 ⟨H, hF⟩
 have hF := wB ek255 hF
 refine zC fun K475 hK475 => ?_
 refine zB ?_
 refine zI (.bool false) ?_
 refine (zD (zA (hK475 _ _ ?_)))
 obtain rfl := someI hF
 refine (yB (post1 (v1 := .bool false) rfl rfl ?_))
 exact ⟨rfl, H.pick [] (by decide)⟩
theorem F_ref6_unnamed_s : S_ref6_unnamed (F_ref6_unnamed) := by
 have h : ∀ n, S_ref6_unnamed (F_ref6_unnamed_R n) := by
  intro n
  induction n with
  | zero => intro p0 p1 p2 v1 v2 v3 v7 r hF; cases hF
  | succ n ih => intro p0 p1 p2 v1 v2 v3 v7 r hF; exact F_ref6_unnamed_B_w (F_ref6_unnamed_R n) ih p0 p1 p2 v1 v2 v3 v7 r hF
 exact h FU
set_option maxHeartbeats 4000000 in
set_option maxRecDepth 100000 in
theorem F_ref6_Check_w (p0 : Rules) (v1 : Value) (v2 : Value) (v3 : Value) (r : Int) (hF : F_ref6_Check p0 = some r) (O S : List Nat) (w : World) (H : Hd O w w S [.fz (.sl Rp.str v1 p0.Phases), .fz (.sl rMoveT v2 p0.Moves), .fz (.sl rRule v3 p0.Rules)]) :
  Calls Tryz.prog 32 ([.agg [v1, v2, v3].toArray] : List Value).toArray w fun e w' => e = .returned (.int .i64 r) ∧ Hd O w w' S [] := by
 unfold F_ref6_Check at hF
 refine zY 131 Tryz.func32 rfl rfl rfl ?_
 refine zC fun K7 hK7 => ?_
 refine zB ?_
 refine yZ rfl rfl (wF (cs := [v1, v2, v3]) rfl H) ?_
 rintro _ w10 ⟨b8, rfl, H⟩
 refine zI (.int .i64 0) ?_
 refine (zD (zA (hK7 _ _ ?_)))
 refine zC fun K42 hK42 => ?_
 obtain ⟨g69, hF, hK71⟩ := zG hF
 refine yL [10, 11, 12, 13, 14, 15, 16, 17, 18, 19, 20, 21, 22, 23, 24, 25] (fun (g : Unit) => [(25, .bool g69)]) (fun g wl => Hd O w wl S [.fz (.sl Rp.str v1 p0.Phases), .fz (.sl rMoveT v2 p0.Moves), .fz (.sl rRule v3 p0.Rules), .blk b8 [v1, v2, v3] 26]) ?_ ?_
 ·skip
  refine zB ?_
  refine zH (fa26_0 rfl) ?_
  refine zH (zO one22 rfl (Cells.get (Blk.cells (H.item (i := 3) rfl)) (i := 0) rfl)) ?_
  obtain ⟨x72, e73, hF⟩ := zF hF
  obtain ⟨a74, c75, q76⟩ := SlF.len ((H.item (i := 0) rfl))
  refine zH (yN (xM u22 q76) (congrArg (Value.int .i64) e73)) ?_
  obtain ⟨x77, e78, hF⟩ := zF hF
  refine zH (zM (Do_gtr (a := x72) (b := 20) rfl rfl) e78) ?_
  obtain ⟨j79, hF, hK80⟩ := zG hF
  refine RL_cutS 6 [14, 15, 16, 17, 18, 19] [(19, .bool j79)] (fun wl => Hd O w wl S [.fz (.sl Rp.str v1 p0.Phases), .fz (.sl rMoveT v2 p0.Moves), .fz (.sl rRule v3 p0.Rules), .blk b8 [v1, v2, v3] 26]) ?_ ?_
  ·skip
   refine yK (b := x77) rfl rfl rfl (fun c82 => ?_) (fun c82 => ?_)
   ·have hF := zQ c82 hF
    refine yC ?_
    refine yC ?_
    refine yC ?_
    refine yC ?_
    refine zH (yI (v := .bool true) rfl rfl) ?_
    obtain rfl := someI hF
    exact zD (zA (meet ⟨(zJ rfl zL), H.pick [0, 1, 2, 3] (by decide)⟩))
   have hF := zS c82 hF
   refine zH (fa26_1 rfl) ?_
   refine zH (zO one23 rfl (Cells.get (Blk.cells (H.item (i := 3) rfl)) (i := 1) rfl)) ?_
   obtain ⟨x83, e84, hF⟩ := zF hF
   obtain ⟨a85, c86, q87⟩ := SlF.len ((H.item (i := 1) rfl))
   refine zH (yN (xM u23 q87) (congrArg (Value.int .i64) e84)) ?_
   obtain ⟨x88, e89, hF⟩ := zF hF
   refine zH (zM (Do_gtr (a := x83) (b := 60) rfl rfl) e89) ?_
   refine zH (yF (v := .bool x88) rfl rfl) ?_
   obtain rfl := someI hF
   exact zD (zA (meet ⟨(zJ rfl zL), H.pick [0, 1, 2, 3] (by decide)⟩))
  rintro ρ w81 H
  have hF := hK80
  refine yK (b := j79) rfl rfl rfl (fun c90 => ?_) (fun c90 => ?_)
  ·have hF := zQ c90 hF
   refine yC ?_
   refine yC ?_
   refine yC ?_
   refine yC ?_
   refine zH (yI (v := .bool true) rfl rfl) ?_
   obtain rfl := someI hF
   exact (zD (zA (meet ⟨(), (zJ rfl zL), H.pick [0, 1, 2, 3] (by decide)⟩)))
  have hF := zS c90 hF
  refine zH (fa26_2 rfl) ?_
  refine zH (zO one24 rfl (Cells.get (Blk.cells (H.item (i := 3) rfl)) (i := 2) rfl)) ?_
  obtain ⟨x91, e92, hF⟩ := zF hF
  obtain ⟨a93, c94, q95⟩ := SlF.len ((H.item (i := 2) rfl))
  refine zH (yN (xM u24 q95) (congrArg (Value.int .i64) e92)) ?_
  obtain ⟨x96, e97, hF⟩ := zF hF
  refine zH (zM (Do_gtr (a := x91) (b := 60) rfl rfl) e97) ?_
  refine zH (yF (v := .bool x96) rfl rfl) ?_
  obtain rfl := someI hF
  exact (zD (zA (meet ⟨(), (zJ rfl zL), H.pick [0, 1, 2, 3] (by decide)⟩)))
 rintro _ ρ w70 H
 have hF := hK71
 refine yA (b := g69) rfl (fun c98 => ?_) (fun c98 => ?_)
 ·have hF := zQ c98 hF
  refine zC fun K99 hK99 => ?_
  refine zB ?_
  refine zI (.int .i64 3) ?_
  refine (zD (zA (hK99 _ _ ?_)))
  obtain rfl := someI hF
  refine (yB (zW (post1 (v1 := .int .i64 3) rfl rfl ?_)))
  exact ⟨rfl, H.pick [] (by decide)⟩
 have hF := zS c98 hF
 refine (zX (zA (hK42 _ _ ?_)))
 obtain ⟨k445, ek446, hF⟩ := xQ hF
 refine yL [2, 3, 26, 27, 28, 29, 30, 31, 32, 33, 34, 35, 36, 37, 38, 39, 40, 41, 42, 43, 44, 45, 46, 47, 48, 49, 50] (fun (g : Unit) => []) (fun g wl => Hd O w wl S [.fz (.sl Rp.str v1 p0.Phases), .fz (.sl rMoveT v2 p0.Moves), .fz (.sl rRule v3 p0.Rules), .blk b8 [v1, v2, v3] 26] ∧ k445 () = some r) ?_ ?_
 ·skip
  refine zC fun K447 hK447 => ?_
  refine zB ?_
  refine zI (.int .i64 0) ?_
  refine (zD (zA (hK447 _ _ ?_)))
  refine yG ?_
  unfold F_ref6_Check_L1 at hF
  obtain ⟨B786, n787, eB788, hF⟩ := yS hF
  refine xE [2, 3, 26, 27, 28, 29, 30, 31, 32, 33, 34, 35, 36, 37, 38, 39, 40, 41, 42, 43, 44, 45, 46, 47, 48, 49, 50] (fun (g : Nat × Int) => [(3, .int .i64 g.2)]) (fun g wl => Hd O w wl S [.fz (.sl Rp.str v1 p0.Phases), .fz (.sl rMoveT v2 p0.Moves), .fz (.sl rRule v3 p0.Rules), .blk b8 [v1, v2, v3] 26] ∧ loopN B786 g.1 g.2 = some r) (fun g => g.1) (n787, 0) (zJ rfl zL) ⟨H.pick [0, 1, 2, 3] (by decide), hF⟩ ?_
  clear H hF
  rintro ⟨n787, g785⟩ ρ w790 ⟨H, hF⟩
  obtain ⟨n791, rfl, hF⟩ := yX hF
  have hF := yY eB788 hF
  refine zC fun K801 hK801 => ?_
  refine zC fun K802 hK802 => ?_
  refine zB ?_
  refine zK (.int .i64 g785) ?_
  refine zH (fa26_0 rfl) ?_
  refine zH (zO one22 rfl (Cells.get (Blk.cells (H.item (i := 3) rfl)) (i := 0) rfl)) ?_
  obtain ⟨x803, e804, hF⟩ := zF hF
  obtain ⟨a805, c806, q807⟩ := SlF.len ((H.item (i := 0) rfl))
  refine zH (yN (xM u22 q807) (congrArg (Value.int .i64) e804)) ?_
  obtain ⟨x808, e809, hF⟩ := zF hF
  refine zH (zM (xI (a := g785) (b := x803) rfl rfl) e809) ?_
  refine (zD (zA (hK802 _ _ ?_)))
  refine yA (b := x808) rfl (fun c810 => ?_) (fun c810 => ?_)
  ·have hF := zQ c810 hF
   refine (zX (zA (hK801 _ _ ?_)))
   refine zC fun K884 hK884 => ?_
   refine yG ?_
   refine zC fun K907 hK907 => ?_
   refine zC fun K908 hK908 => ?_
   refine zB ?_
   refine zH (fa26_0 rfl) ?_
   refine zH (zO one22 rfl (Cells.get (Blk.cells (H.item (i := 3) rfl)) (i := 0) rfl)) ?_
   refine zK (.int .i64 g785) ?_
   obtain ⟨x909, e910, hF⟩ := zG hF
   obtain ⟨b911, o912, c913, cs914, q915, h918, h916, h917, h919⟩ := rd_at (H.item (i := 0) rfl) e910
   obtain rfl : cs914 = [.string (bs x909)] := h918
   have H := H.fz (.at b911 (o912 + g785.toNat * 1) _) ⟨h916, h917, h919⟩
   refine zH (wC u22 sz9 q915 rfl (yP e910).1 (yP e910).2.1 rfl rfl) ?_
   refine zH (zO one9 rfl (Cells.get (H.item (i := 4) rfl).2.2 (i := 0) rfl)) ?_
   have H921 := H
   obtain ⟨x922, e923, hF⟩ := zG hF
   refine zZ rfl rfl (zT en90 rfl) (F_ref6_IsName_w x909 _ e923 _ _ _ (H.enter [] [] (by decide) rfl)) ?_
   rintro _ w924 ⟨rfl, G925⟩
   have H := H921.step (G925.only : Only [] _ _)
   refine ⟨_, rfl, ?_⟩
   obtain ⟨x926, e927, hF⟩ := zF hF
   refine zH (zM (wJ (p := x922) rfl) e927) ?_
   refine (zD (zA (hK908 _ _ ?_)))
   refine yA (b := x926) rfl (fun c928 => ?_) (fun c928 => ?_)
   ·have hF := zQ c928 hF
    refine zC fun K929 hK929 => ?_
    refine zB ?_
    refine zI (.int .i64 8) ?_
    refine (zD (zA (hK929 _ _ ?_)))
    obtain rfl := someI hF
    refine (yB (zW (yE (zW (zW (yE (zW (post1 (v1 := .int .i64 8) rfl rfl ?_))))))))
    exact ⟨rfl, H.pick [] (by decide)⟩
   have hF := zS c928 hF
   refine (zX (zA (hK907 _ _ ?_)))
   refine zC fun K930 hK930 => ?_
   have H931 := H
   have H := H.rebase
   have H932 := H
   refine WP_mix0 H [0, 1, 2, 3, 4, 5, 6, 7, 8, 9, 10] [.pure, .read, .pure, .pure, .pure, .read, .pure, .pure, .read, .read, .pure] mixed (by kernel_rfl) (by kernel_rfl) (by kernel_rfl) rfl ?_
   refine Mx.yD rfl rfl rfl (fun w' hw' => fa26_0 rfl) ?_
   refine Mx.xO oS rfl rfl rfl (fun w' hw' => zO one22 rfl (Cells.get (Blk.cells ((H.sees hw').item (i := 3) rfl)) (i := 0) rfl)) ?_
   refine Mx.yD rfl rfl rfl (fun w' hw' => xK (v := .int .i64 g785) rfl) ?_
   obtain ⟨x933, e934, hF⟩ := zG hF
   refine Mx.XL_exP rfl rfl rfl (Lx_slice_h u22 sz9 (H.item (i := 0) rfl) rfl rfl e934) ?_
   rintro v935 h936
   have H := H.fz (.sl Rp.str v935 x933) h936
   refine Mx.yD rfl rfl rfl (fun w' hw' => fa26_0 rfl) ?_
   refine Mx.xO oS rfl rfl rfl (fun w' hw' => zO one22 rfl (Cells.get (Blk.cells ((H.sees hw').item (i := 3) rfl)) (i := 0) rfl)) ?_
   refine Mx.yD rfl rfl rfl (fun w' hw' => xK (v := .int .i64 g785) rfl) ?_
   obtain ⟨x938, e939, hF⟩ := zG hF
   obtain ⟨b940, o941, c942, cs943, q944, h947, h945, h946, h948⟩ := rd_at (H.item (i := 0) rfl) e939
   obtain rfl : cs943 = [.string (bs x938)] := h947
   have H := H.fz (.at b940 (o941 + g785.toNat * 1) _) ⟨h945, h946, h948⟩
   refine Mx.yD rfl rfl rfl (fun w' hw' => wC u22 sz9 q944 rfl (yP e939).1 (yP e939).2.1 rfl rfl) ?_
   refine Mx.xO oS rfl rfl rfl (fun w' hw' => zO one9 rfl (Cells.get ((H.sees hw').item (i := 6) rfl).2.2 (i := 0) rfl)) ?_
   have H950 := H
   obtain ⟨x951, e952, hF⟩ := zG hF
   refine Mx.XL_call oS rfl rfl rfl (v := .int .i64 x951) (fun w' hw' => zT en91 rfl) (fun w' hw' => call_read (F_ref6_place_w x933 x938 v935 _ e952 _ _ _ ((H.sees hw').enter [] [5] (by decide) rfl))) ?_
   have H := H950
   obtain ⟨x953, e954, hF⟩ := zF hF
   refine Mx.yD rfl rfl rfl (fun w' hw' => zM (Do_geq (a := x951) (b := 0) rfl rfl) e954) ?_
   refine Mx.XL_nil fun w955 hS => ?_
   have H := H.sees hS
   have H := H931.rejoin H
   refine (zA (hK930 _ _ ?_))
   refine yA (b := x953) rfl (fun c956 => ?_) (fun c956 => ?_)
   ·have hF := zQ c956 hF
    refine zC fun K957 hK957 => ?_
    refine zB ?_
    refine zI (.int .i64 5) ?_
    refine (zD (zA (hK957 _ _ ?_)))
    obtain rfl := someI hF
    refine (yB (yE (zW (zW (yE (zW (post1 (v1 := .int .i64 5) rfl rfl ?_)))))))
    exact ⟨rfl, H.pick [] (by decide)⟩
   have hF := zS c956 hF
   refine (zX (yT (zA (hK884 _ _ ?_))))
   refine zB ?_
   refine zK (.int .i64 g785) ?_
   obtain ⟨x958, e959, hF⟩ := zF hF
   refine zH (xP (a := g785) (b := 1) rfl rfl e959) ?_
   refine zI (.int .i64 x958) ?_
   exact (zD (zA (meet ⟨(n791, x958), (zJ rfl zL), ⟨H.pick [0, 1, 2, 3] (by decide), hF⟩, Nat.lt_succ_self _⟩)))
  have hF := zS c810 hF
  exact (xJ (yO (yO (xB (zA (meet ⟨(), zL, ⟨H.pick [0, 1, 2, 3] (by decide), hF⟩⟩))))))
 rintro _ ρ w444 ⟨H, hF⟩
 have hF := wB ek446 hF
 obtain ⟨k1381, ek1382, hF⟩ := xQ hF
 refine yL [2, 4, 5, 6, 51, 52, 53, 54, 55, 56, 57, 58, 59, 60, 61, 62, 63, 64, 65, 66, 67, 68, 69, 70, 71, 72, 73, 74, 75, 76, 77, 78, 79, 80, 81, 82, 83, 84, 85] (fun (g : Unit) => []) (fun g wl => Hd O w wl S [.fz (.sl Rp.str v1 p0.Phases), .fz (.sl rMoveT v2 p0.Moves), .fz (.sl rRule v3 p0.Rules), .blk b8 [v1, v2, v3] 26] ∧ k1381 () = some r) ?_ ?_
 ·skip
  refine zC fun K1383 hK1383 => ?_
  refine zB ?_
  refine zI (.int .i64 0) ?_
  refine (zD (zA (hK1383 _ _ ?_)))
  refine yG ?_
  unfold F_ref6_Check_L2 at hF
  obtain ⟨B1798, n1799, eB1800, hF⟩ := yS hF
  refine xE [2, 4, 5, 6, 51, 52, 53, 54, 55, 56, 57, 58, 59, 60, 61, 62, 63, 64, 65, 66, 67, 68, 69, 70, 71, 72, 73, 74, 75, 76, 77, 78, 79, 80, 81, 82, 83, 84, 85] (fun (g : Nat × Int) => [(4, .int .i64 g.2)]) (fun g wl => Hd O w wl S [.fz (.sl Rp.str v1 p0.Phases), .fz (.sl rMoveT v2 p0.Moves), .fz (.sl rRule v3 p0.Rules), .blk b8 [v1, v2, v3] 26] ∧ loopN B1798 g.1 g.2 = some r) (fun g => g.1) (n1799, 0) (zJ rfl zL) ⟨H.pick [0, 1, 2, 3] (by decide), hF⟩ ?_
  clear H hF
  rintro ⟨n1799, g1797⟩ ρ w1802 ⟨H, hF⟩
  obtain ⟨n1803, rfl, hF⟩ := yX hF
  have hF := yY eB1800 hF
  refine zC fun K1813 hK1813 => ?_
  refine zC fun K1814 hK1814 => ?_
  refine zB ?_
  refine zK (.int .i64 g1797) ?_
  refine zH (fa26_1 rfl) ?_
  refine zH (zO one23 rfl (Cells.get (Blk.cells (H.item (i := 3) rfl)) (i := 1) rfl)) ?_
  obtain ⟨x1815, e1816, hF⟩ := zF hF
  obtain ⟨a1817, c1818, q1819⟩ := SlF.len ((H.item (i := 1) rfl))
  refine zH (yN (xM u23 q1819) (congrArg (Value.int .i64) e1816)) ?_
  obtain ⟨x1820, e1821, hF⟩ := zF hF
  refine zH (zM (xI (a := g1797) (b := x1815) rfl rfl) e1821) ?_
  refine (zD (zA (hK1814 _ _ ?_)))
  refine yA (b := x1820) rfl (fun c1822 => ?_) (fun c1822 => ?_)
  ·have hF := zQ c1822 hF
   refine (zX (zA (hK1813 _ _ ?_)))
   refine zC fun K1915 hK1915 => ?_
   refine yG ?_
   refine zC fun K1916 hK1916 => ?_
   refine zB ?_
   refine zH (fa26_1 rfl) ?_
   refine zH (zO one23 rfl (Cells.get (Blk.cells (H.item (i := 3) rfl)) (i := 1) rfl)) ?_
   refine zK (.int .i64 g1797) ?_
   obtain ⟨x1917, e1918, hF⟩ := zG hF
   obtain ⟨b1919, o1920, c1921, cs1922, q1923, h1926, h1924, h1925, h1927⟩ := rd_at (H.item (i := 1) rfl) e1918
   obtain ⟨v1928, rfl, h1929⟩ := rMoveT_open h1926
   have H := H.fzs [.at b1919 (o1920 + g1797.toNat * 9) _, .sl rCond v1928 x1917.When.Kids] ⟨⟨h1924, h1925, h1927⟩, h1929, trivial⟩
   refine zH (wC u23 sz122 q1923 rfl (yP e1918).1 (yP e1918).2.1 rfl rfl) ?_
   refine zH (yN (yJ (cs := [.string (bs x1917.From), .string (bs x1917.To), .int .i64 x1917.When.Kind, .string (bs x1917.When.Name), .string (bs x1917.When.Other), .int .i64 x1917.When.Op, .int .i64 x1917.When.N, .int .i64 x1917.When.Frames, v1928]) agg122 rfl sz122 rfl (H.item (i := 4) rfl).2.2) rfl) ?_
   refine yZ rfl rfl (xN zero122 H) ?_
   rintro _ w1934 ⟨b1932, rfl, H⟩
   refine xH rfl (xC (vs := [.string (bs x1917.From), .string (bs x1917.To), .int .i64 x1917.When.Kind, .string (bs x1917.When.Name), .string (bs x1917.When.Other), .int .i64 x1917.When.Op, .int .i64 x1917.When.N, .int .i64 x1917.When.Frames, v1928]) H 6 rfl sz122 rfl rfl rfl ⟨rfl, rfl, rfl, rfl, rfl, rfl, rfl, rfl, (slf_one (H.item (i := 5) rfl)), trivial⟩ rfl) ?_
   rintro w1935 H
   refine (zD (zA (hK1916 _ _ ?_)))
   refine zC fun K1956 hK1956 => ?_
   obtain ⟨g1972, hF, hK1974⟩ := zG hF
   refine yL [63, 64, 65, 66, 67, 68, 69, 70, 71, 72, 73, 74, 75, 76] (fun (g : Unit) => [(76, .bool g1972)]) (fun g wl => Hd O w wl S [.fz (.sl Rp.str v1 p0.Phases), .fz (.sl rMoveT v2 p0.Moves), .fz (.sl rRule v3 p0.Rules), .blk b8 [v1, v2, v3] 26, .fz (.sl rCond v1928 x1917.When.Kids), .blk b1932 [.string (bs x1917.From), .string (bs x1917.To), .int .i64 x1917.When.Kind, .string (bs x1917.When.Name), .string (bs x1917.When.Other), .int .i64 x1917.When.Op, .int .i64 x1917.When.N, .int .i64 x1917.When.Frames, v1928] 122]) ?_ ?_
   ·skip
    refine zB ?_
    refine zH (fa26_0 rfl) ?_
    refine zH (zO one22 rfl (Cells.get (Blk.cells (H.item (i := 3) rfl)) (i := 0) rfl)) ?_
    refine zH (fa122_0 rfl) ?_
    refine zH (zO one9 rfl (Cells.get (Blk.cells (H.item (i := 6) rfl)) (i := 0) rfl)) ?_
    have H1975 := H
    obtain ⟨x1976, e1977, hF⟩ := zG hF
    refine zZ rfl rfl (zT en91 rfl) (F_ref6_place_w p0.Phases x1917.From v1 _ e1977 _ _ _ (H.enter [] [0] (by decide) rfl)) ?_
    rintro _ w1978 ⟨rfl, G1979⟩
    have H := H1975.step (G1979.only : Only [] _ _)
    refine ⟨_, rfl, ?_⟩
    obtain ⟨x1980, e1981, hF⟩ := zF hF
    refine zH (zM (xI (a := x1976) (b := 0) rfl rfl) e1981) ?_
    refine yK (b := x1980) rfl rfl rfl (fun c1982 => ?_) (fun c1982 => ?_)
    ·have hF := zQ c1982 hF
     refine yC ?_
     refine yC ?_
     refine yC ?_
     refine yC ?_
     refine yC ?_
     refine yC ?_
     refine zH (yI (v := .bool true) rfl rfl) ?_
     obtain rfl := someI hF
     exact (zD (zA (meet ⟨(), (zJ rfl zL), H.pick [0, 1, 2, 3, 5, 6] (by decide)⟩)))
    have hF := zS c1982 hF
    refine zH (fa26_0 rfl) ?_
    refine zH (zO one22 rfl (Cells.get (Blk.cells (H.item (i := 3) rfl)) (i := 0) rfl)) ?_
    refine zH (fa122_1 rfl) ?_
    refine zH (zO one9 rfl (Cells.get (Blk.cells (H.item (i := 6) rfl)) (i := 1) rfl)) ?_
    have H1983 := H
    obtain ⟨x1984, e1985, hF⟩ := zG hF
    refine zZ rfl rfl (zT en91 rfl) (F_ref6_place_w p0.Phases x1917.To v1 _ e1985 _ _ _ (H.enter [] [0] (by decide) rfl)) ?_
    rintro _ w1986 ⟨rfl, G1987⟩
    have H := H1983.step (G1987.only : Only [] _ _)
    refine ⟨_, rfl, ?_⟩
    obtain ⟨x1988, e1989, hF⟩ := zF hF
    refine zH (zM (xI (a := x1984) (b := 0) rfl rfl) e1989) ?_
    refine zH (yF (v := .bool x1988) rfl rfl) ?_
    obtain rfl := someI hF
    exact (zD (zA (meet ⟨(), (zJ rfl zL), H.pick [0, 1, 2, 3, 5, 6] (by decide)⟩)))
   rintro _ ρ w1973 H
   have hF := hK1974
   refine yA (b := g1972) rfl (fun c1990 => ?_) (fun c1990 => ?_)
   ·have hF := zQ c1990 hF
    refine zC fun K1991 hK1991 => ?_
    refine zB ?_
    refine zI (.int .i64 4) ?_
    refine (zD (zA (hK1991 _ _ ?_)))
    obtain rfl := someI hF
    refine (yB (zW (yE (zW (zW (yE (zW (post1 (v1 := .int .i64 4) rfl rfl ?_))))))))
    exact ⟨rfl, H.pick [] (by decide)⟩
   have hF := zS c1990 hF
   refine (zX (zA (hK1956 _ _ ?_)))
   refine zC fun K2003 hK2003 => ?_
   refine zC fun K2004 hK2004 => ?_
   refine zB ?_
   refine zH (fa122_2 rfl) ?_
   refine zH (yN (yJ (cs := [.int .i64 x1917.When.Kind, .string (bs x1917.When.Name), .string (bs x1917.When.Other), .int .i64 x1917.When.Op, .int .i64 x1917.When.N, .int .i64 x1917.When.Frames, v1928]) agg70 rfl sz70 rfl (Cells.drop (Blk.cells (H.item (i := 5) rfl)) 2 7)) rfl) ?_
   have H2005 := H
   obtain ⟨x2006, e2007, hF⟩ := zG hF
   refine zZ rfl rfl (zT en30 rfl) (F_ref6_CheckCond_w x1917.When v1928 _ e2007 _ _ _ (H.enter [] [4] (by decide) rfl)) ?_
   rintro _ w2008 ⟨rfl, G2009⟩
   have H := H2005.step (G2009.only : Only [] _ _)
   refine ⟨_, rfl, ?_⟩
   refine zI (.int .i64 x2006) ?_
   refine (zD (zA (hK2004 _ _ ?_)))
   refine zC fun K2010 hK2010 => ?_
   refine zB ?_
   refine zK (.int .i64 x2006) ?_
   obtain ⟨x2011, e2012, hF⟩ := zF hF
   refine zH (zM (Do_neq (a := x2006) (b := 0) rfl rfl) e2012) ?_
   refine (zD (zA (hK2010 _ _ ?_)))
   refine yA (b := x2011) rfl (fun c2013 => ?_) (fun c2013 => ?_)
   ·have hF := zQ c2013 hF
    refine zC fun K2014 hK2014 => ?_
    refine zB ?_
    refine zK (.int .i64 x2006) ?_
    refine zI (.int .i64 x2006) ?_
    refine (zD (zA (hK2014 _ _ ?_)))
    obtain rfl := someI hF
    refine (yB (zW (yE (zW (zW (yE (zW (post1 (v1 := .int .i64 x2006) rfl rfl ?_))))))))
    exact ⟨rfl, H.pick [] (by decide)⟩
   have hF := zS c2013 hF
   refine (zX (zA (hK2003 _ _ ?_)))
   refine zC fun K2015 hK2015 => ?_
   refine zB ?_
   refine zH (fa122_2 rfl) ?_
   refine zH (yN (yJ (cs := [.int .i64 x1917.When.Kind, .string (bs x1917.When.Name), .string (bs x1917.When.Other), .int .i64 x1917.When.Op, .int .i64 x1917.When.N, .int .i64 x1917.When.Frames, v1928]) agg70 rfl sz70 rfl (Cells.drop (Blk.cells (H.item (i := 5) rfl)) 2 7)) rfl) ?_
   have H2016 := H
   obtain ⟨x2017, e2018, hF⟩ := zG hF
   refine zZ rfl rfl (zT en92 rfl) (F_ref6_refers_s x1917.When v1928 _ e2018 _ _ _ (H.enter [] [4] (by decide) rfl)) ?_
   rintro _ w2019 ⟨rfl, G2020⟩
   have H := H2016.step (G2020.only : Only [] _ _)
   refine ⟨_, rfl, ?_⟩
   refine (zD (zA (hK2015 _ _ ?_)))
   refine yA (b := x2017) rfl (fun c2021 => ?_) (fun c2021 => ?_)
   ·have hF := zQ c2021 hF
    refine zC fun K2022 hK2022 => ?_
    refine zB ?_
    refine zI (.int .i64 2) ?_
    refine (zD (zA (hK2022 _ _ ?_)))
    obtain rfl := someI hF
    refine (yB (yE (zW (zW (yE (zW (post1 (v1 := .int .i64 2) rfl rfl ?_)))))))
    exact ⟨rfl, H.pick [] (by decide)⟩
   have hF := zS c2021 hF
   refine (zX (yT (zA (hK1915 _ _ ?_))))
   refine zB ?_
   refine zK (.int .i64 g1797) ?_
   obtain ⟨x2023, e2024, hF⟩ := zF hF
   refine zH (xP (a := g1797) (b := 1) rfl rfl e2024) ?_
   refine zI (.int .i64 x2023) ?_
   exact (zD (zA (meet ⟨(n1803, x2023), (zJ rfl zL), ⟨H.pick [0, 1, 2, 3] (by decide), hF⟩, Nat.lt_succ_self _⟩)))
  have hF := zS c1822 hF
  exact (xJ (yO (yO (xB (zA (meet ⟨(), zL, ⟨H.pick [0, 1, 2, 3] (by decide), hF⟩⟩))))))
 rintro _ ρ w1380 ⟨H, hF⟩
 have hF := wB ek1382 hF
 obtain ⟨k2810, ek2811, hF⟩ := xQ hF
 refine yL [2, 7, 8, 9, 86, 87, 88, 89, 90, 91, 92, 93, 94, 95, 96, 97, 98, 99, 100, 101, 102, 103, 104, 105, 106, 107, 108, 109, 110, 111, 112, 113, 114, 115, 116, 117, 118, 119, 120, 121, 122, 123, 124, 125, 126, 127, 128, 129, 130] (fun (g : Unit) => []) (fun g wl => Hd O w wl S [] ∧ k2810 () = some r) ?_ ?_
 ·skip
  refine zC fun K2812 hK2812 => ?_
  refine zB ?_
  refine zI (.int .i64 0) ?_
  refine (zD (zA (hK2812 _ _ ?_)))
  refine yG ?_
  unfold F_ref6_Check_L3 at hF
  obtain ⟨B3591, n3592, eB3593, hF⟩ := yS hF
  refine xE [2, 7, 8, 9, 86, 87, 88, 89, 90, 91, 92, 93, 94, 95, 96, 97, 98, 99, 100, 101, 102, 103, 104, 105, 106, 107, 108, 109, 110, 111, 112, 113, 114, 115, 116, 117, 118, 119, 120, 121, 122, 123, 124, 125, 126, 127, 128, 129, 130] (fun (g : Nat × Int) => [(7, .int .i64 g.2)]) (fun g wl => Hd O w wl S [.fz (.sl Rp.str v1 p0.Phases), .fz (.sl rMoveT v2 p0.Moves), .fz (.sl rRule v3 p0.Rules), .blk b8 [v1, v2, v3] 26] ∧ loopN B3591 g.1 g.2 = some r) (fun g => g.1) (n3592, 0) (zJ rfl zL) ⟨H.pick [0, 1, 2, 3] (by decide), hF⟩ ?_
  clear H hF
  rintro ⟨n3592, g3590⟩ ρ w3595 ⟨H, hF⟩
  obtain ⟨n3596, rfl, hF⟩ := yX hF
  have hF := yY eB3593 hF
  refine zC fun K3606 hK3606 => ?_
  refine zC fun K3607 hK3607 => ?_
  refine zB ?_
  refine zK (.int .i64 g3590) ?_
  refine zH (fa26_2 rfl) ?_
  refine zH (zO one24 rfl (Cells.get (Blk.cells (H.item (i := 3) rfl)) (i := 2) rfl)) ?_
  obtain ⟨x3608, e3609, hF⟩ := zF hF
  obtain ⟨a3610, c3611, q3612⟩ := SlF.len ((H.item (i := 2) rfl))
  refine zH (yN (xM u24 q3612) (congrArg (Value.int .i64) e3609)) ?_
  obtain ⟨x3613, e3614, hF⟩ := zF hF
  refine zH (zM (xI (a := g3590) (b := x3608) rfl rfl) e3614) ?_
  refine (zD (zA (hK3607 _ _ ?_)))
  refine yA (b := x3613) rfl (fun c3615 => ?_) (fun c3615 => ?_)
  ·have hF := zQ c3615 hF
   refine (zX (zA (hK3606 _ _ ?_)))
   refine zC fun K3799 hK3799 => ?_
   refine yG ?_
   refine zC fun K3825 hK3825 => ?_
   refine zC fun K3826 hK3826 => ?_
   refine zB ?_
   refine zH (fa26_2 rfl) ?_
   refine zH (zO one24 rfl (Cells.get (Blk.cells (H.item (i := 3) rfl)) (i := 2) rfl)) ?_
   refine zK (.int .i64 g3590) ?_
   obtain ⟨x3827, e3828, hF⟩ := zG hF
   obtain ⟨b3829, o3830, c3831, cs3832, q3833, h3836, h3834, h3835, h3837⟩ := rd_at (H.item (i := 2) rfl) e3828
   obtain ⟨v3838, rfl, h3839⟩ := rRule_open h3836
   have H := H.fzs [.at b3829 (o3830 + g3590.toNat * 8) _, .sl rCond v3838 x3827.When.Kids] ⟨⟨h3834, h3835, h3837⟩, h3839, trivial⟩
   refine zH (wC u24 sz95 q3833 rfl (yP e3828).1 (yP e3828).2.1 rfl rfl) ?_
   refine zH (fa95_0 rfl) ?_
   refine zH (zO one9 rfl (Cells.get (H.item (i := 4) rfl).2.2 (i := 0) rfl)) ?_
   have H3842 := H
   obtain ⟨x3843, e3844, hF⟩ := zG hF
   refine zZ rfl rfl (zT en90 rfl) (F_ref6_IsName_w x3827.Name _ e3844 _ _ _ (H.enter [] [] (by decide) rfl)) ?_
   rintro _ w3845 ⟨rfl, G3846⟩
   have H := H3842.step (G3846.only : Only [] _ _)
   refine ⟨_, rfl, ?_⟩
   obtain ⟨x3847, e3848, hF⟩ := zF hF
   refine zH (zM (wJ (p := x3843) rfl) e3848) ?_
   refine (zD (zA (hK3826 _ _ ?_)))
   refine yA (b := x3847) rfl (fun c3849 => ?_) (fun c3849 => ?_)
   ·have hF := zQ c3849 hF
    refine zC fun K3850 hK3850 => ?_
    refine zB ?_
    refine zI (.int .i64 8) ?_
    refine (zD (zA (hK3850 _ _ ?_)))
    obtain rfl := someI hF
    refine (yB (zW (yE (zW (zW (yE (zW (post1 (v1 := .int .i64 8) rfl rfl ?_))))))))
    exact ⟨rfl, H.pick [] (by decide)⟩
   have hF := zS c3849 hF
   refine (zX (zA (hK3825 _ _ ?_)))
   refine zC fun K3878 hK3878 => ?_
   refine zC fun K3879 hK3879 => ?_
   have H3880 := H
   have H := H.rebase
   have H3881 := H
   refine WP_mix0 H [0, 1, 2, 3, 4, 5, 6, 7, 8] [.read, .pure, .read, .pure, .pure, .pure, .read, .read, .pure] mixed (by kernel_rfl) (by kernel_rfl) (by kernel_rfl) rfl ?_
   refine Mx.xO oS rfl rfl rfl (fun w' hw' => yN (yJ (cs := [v1, v2, v3]) agg26 rfl sz26 rfl (Blk.cells ((H.sees hw').item (i := 3) rfl))) rfl) ?_
   refine Mx.yD rfl rfl rfl (fun w' hw' => fa26_2 rfl) ?_
   refine Mx.xO oS rfl rfl rfl (fun w' hw' => zO one24 rfl (Cells.get (Blk.cells ((H.sees hw').item (i := 3) rfl)) (i := 2) rfl)) ?_
   refine Mx.yD rfl rfl rfl (fun w' hw' => xK (v := .int .i64 g3590) rfl) ?_
   obtain ⟨x3882, e3883, hF⟩ := zG hF
   obtain ⟨b3884, o3885, c3886, cs3887, q3888, h3891, h3889, h3890, h3892⟩ := rd_at (H.item (i := 2) rfl) e3883
   obtain ⟨v3893, rfl, h3894⟩ := rRule_open h3891
   have H := H.fzs [.at b3884 (o3885 + g3590.toNat * 8) _, .sl rCond v3893 x3882.When.Kids] ⟨⟨h3889, h3890, h3892⟩, h3894, trivial⟩
   refine Mx.yD rfl rfl rfl (fun w' hw' => wC u24 sz95 q3888 rfl (yP e3883).1 (yP e3883).2.1 rfl rfl) ?_
   refine Mx.yD rfl rfl rfl (fun w' hw' => fa95_0 rfl) ?_
   refine Mx.xO oS rfl rfl rfl (fun w' hw' => zO one9 rfl (Cells.get ((H.sees hw').item (i := 6) rfl).2.2 (i := 0) rfl)) ?_
   have H3897 := H
   obtain ⟨x3898, e3899, hF⟩ := zG hF
   refine Mx.XL_call oS rfl rfl rfl (v := .int .i64 x3898) (fun w' hw' => zT en93 rfl) (fun w' hw' => call_read (F_ref6_RuleOf_w p0 x3882.Name v1 v2 v3 _ e3899 _ _ _ ((H.sees hw').enter [] [0, 1, 2] (by decide) rfl))) ?_
   have H := H3897
   refine Mx.yD rfl rfl rfl (fun w' hw' => Do_assign (v := .int .i64 x3898) rfl) ?_
   refine Mx.XL_nil fun w3900 hS => ?_
   have H := H.sees hS
   have H := H3880.rejoin H
   refine (zA (hK3879 _ _ ?_))
   refine zC fun K3901 hK3901 => ?_
   refine zB ?_
   refine zK (.int .i64 x3898) ?_
   refine zK (.int .i64 g3590) ?_
   obtain ⟨x3902, e3903, hF⟩ := zF hF
   refine zH (zM (xI (a := x3898) (b := g3590) rfl rfl) e3903) ?_
   refine (zD (zA (hK3901 _ _ ?_)))
   refine yA (b := x3902) rfl (fun c3904 => ?_) (fun c3904 => ?_)
   ·have hF := zQ c3904 hF
    refine zC fun K3905 hK3905 => ?_
    refine zB ?_
    refine zI (.int .i64 5) ?_
    refine (zD (zA (hK3905 _ _ ?_)))
    obtain rfl := someI hF
    refine (yB (zW (yE (zW (zW (yE (zW (post1 (v1 := .int .i64 5) rfl rfl ?_))))))))
    exact ⟨rfl, H.pick [] (by decide)⟩
   have hF := zS c3904 hF
   refine (zX (zA (hK3878 _ _ ?_)))
   refine zC fun K3932 hK3932 => ?_
   refine zC fun K3933 hK3933 => ?_
   refine zB ?_
   refine zH (fa26_2 rfl) ?_
   refine zH (zO one24 rfl (Cells.get (Blk.cells (H.item (i := 3) rfl)) (i := 2) rfl)) ?_
   refine zK (.int .i64 g3590) ?_
   obtain ⟨x3934, e3935, hF⟩ := zG hF
   obtain ⟨b3936, o3937, c3938, cs3939, q3940, h3943, h3941, h3942, h3944⟩ := rd_at (H.item (i := 2) rfl) e3935
   obtain ⟨v3945, rfl, h3946⟩ := rRule_open h3943
   have H := H.fzs [.at b3936 (o3937 + g3590.toNat * 8) _, .sl rCond v3945 x3934.When.Kids] ⟨⟨h3941, h3942, h3944⟩, h3946, trivial⟩
   refine zH (wC u24 sz95 q3940 rfl (yP e3935).1 (yP e3935).2.1 rfl rfl) ?_
   refine zH (fa95_1 rfl) ?_
   refine zH (yN (yJ (cs := [.int .i64 x3934.When.Kind, .string (bs x3934.When.Name), .string (bs x3934.When.Other), .int .i64 x3934.When.Op, .int .i64 x3934.When.N, .int .i64 x3934.When.Frames, v3945]) agg70 rfl sz70 rfl (Cells.drop (H.item (i := 8) rfl).2.2 1 7)) rfl) ?_
   have H3949 := H
   obtain ⟨x3950, e3951, hF⟩ := zG hF
   refine zZ rfl rfl (zT en30 rfl) (F_ref6_CheckCond_w x3934.When v3945 _ e3951 _ _ _ (H.enter [] [9] (by decide) rfl)) ?_
   rintro _ w3952 ⟨rfl, G3953⟩
   have H := H3949.step (G3953.only : Only [] _ _)
   refine ⟨_, rfl, ?_⟩
   refine zI (.int .i64 x3950) ?_
   refine (zD (zA (hK3933 _ _ ?_)))
   refine zC fun K3954 hK3954 => ?_
   refine zB ?_
   refine zK (.int .i64 x3950) ?_
   obtain ⟨x3955, e3956, hF⟩ := zF hF
   refine zH (zM (Do_neq (a := x3950) (b := 0) rfl rfl) e3956) ?_
   refine (zD (zA (hK3954 _ _ ?_)))
   refine yA (b := x3955) rfl (fun c3957 => ?_) (fun c3957 => ?_)
   ·have hF := zQ c3957 hF
    refine zC fun K3958 hK3958 => ?_
    refine zB ?_
    refine zK (.int .i64 x3950) ?_
    refine zI (.int .i64 x3950) ?_
    refine (zD (zA (hK3958 _ _ ?_)))
    obtain rfl := someI hF
    refine (yB (zW (yE (zW (zW (yE (zW (post1 (v1 := .int .i64 x3950) rfl rfl ?_))))))))
    exact ⟨rfl, H.pick [] (by decide)⟩
   have hF := zS c3957 hF
   refine (zX (zA (hK3932 _ _ ?_)))
   refine zC fun K3959 hK3959 => ?_
   have H3960 := H
   have H := H.rebase
   have H3961 := H
   refine WP_mix0 H [0, 1, 2, 3, 4, 5, 6, 7, 8] [.read, .pure, .pure, .read, .pure, .pure, .pure, .read, .read] mixed (by kernel_rfl) (by kernel_rfl) (by kernel_rfl) rfl ?_
   refine Mx.xO oS rfl rfl rfl (fun w' hw' => yN (yJ (cs := [v1, v2, v3]) agg26 rfl sz26 rfl (Blk.cells ((H.sees hw').item (i := 3) rfl))) rfl) ?_
   refine Mx.yD rfl rfl rfl (fun w' hw' => xK (v := .int .i64 g3590) rfl) ?_
   refine Mx.yD rfl rfl rfl (fun w' hw' => fa26_2 rfl) ?_
   refine Mx.xO oS rfl rfl rfl (fun w' hw' => zO one24 rfl (Cells.get (Blk.cells ((H.sees hw').item (i := 3) rfl)) (i := 2) rfl)) ?_
   refine Mx.yD rfl rfl rfl (fun w' hw' => xK (v := .int .i64 g3590) rfl) ?_
   obtain ⟨x3962, e3963, hF⟩ := zG hF
   obtain ⟨b3964, o3965, c3966, cs3967, q3968, h3971, h3969, h3970, h3972⟩ := rd_at (H.item (i := 2) rfl) e3963
   obtain ⟨v3973, rfl, h3974⟩ := rRule_open h3971
   have H := H.fzs [.at b3964 (o3965 + g3590.toNat * 8) _, .sl rCond v3973 x3962.When.Kids] ⟨⟨h3969, h3970, h3972⟩, h3974, trivial⟩
   refine Mx.yD rfl rfl rfl (fun w' hw' => wC u24 sz95 q3968 rfl (yP e3963).1 (yP e3963).2.1 rfl rfl) ?_
   refine Mx.yD rfl rfl rfl (fun w' hw' => fa95_1 rfl) ?_
   refine Mx.xO oS rfl rfl rfl (fun w' hw' => yN (yJ (cs := [.int .i64 x3962.When.Kind, .string (bs x3962.When.Name), .string (bs x3962.When.Other), .int .i64 x3962.When.Op, .int .i64 x3962.When.N, .int .i64 x3962.When.Frames, v3973]) agg70 rfl sz70 rfl (Cells.drop ((H.sees hw').item (i := 10) rfl).2.2 1 7)) rfl) ?_
   have H3977 := H
   obtain ⟨x3978, e3979, hF⟩ := zG hF
   refine Mx.XL_call oS rfl rfl rfl (v := .bool x3978) (fun w' hw' => zT en94 rfl) (fun w' hw' => call_read (F_ref6_unnamed_s p0 g3590 x3962.When v1 v2 v3 v3973 _ e3979 _ _ _ ((H.sees hw').enter [] [0, 1, 2, 11] (by decide) rfl))) ?_
   have H := H3977
   refine Mx.XL_nil fun w3980 hS => ?_
   have H := H.sees hS
   have H := H3960.rejoin H
   refine (zA (hK3959 _ _ ?_))
   have H : Hd O w w3980 S [.fz (.sl Rp.str v1 p0.Phases), .fz (.sl rMoveT v2 p0.Moves), .fz (.sl rRule v3 p0.Rules), .blk b8 [v1, v2, v3] 26] := H.pick [0, 1, 2, 3] (by decide)
   refine yA (b := x3978) rfl (fun c3981 => ?_) (fun c3981 => ?_)
   ·have hF := zQ c3981 hF
    refine zC fun K3982 hK3982 => ?_
    refine zB ?_
    refine zI (.int .i64 4) ?_
    refine (zD (zA (hK3982 _ _ ?_)))
    obtain rfl := someI hF
    refine (yB (yE (zW (zW (yE (zW (post1 (v1 := .int .i64 4) rfl rfl ?_)))))))
    exact ⟨rfl, H.pick [] (by decide)⟩
   have hF := zS c3981 hF
   refine (zX (yT (zA (hK3799 _ _ ?_))))
   refine zB ?_
   refine zK (.int .i64 g3590) ?_
   obtain ⟨x3983, e3984, hF⟩ := zF hF
   refine zH (xP (a := g3590) (b := 1) rfl rfl e3984) ?_
   refine zI (.int .i64 x3983) ?_
   exact (zD (zA (meet ⟨(n3596, x3983), (zJ rfl zL), ⟨H.pick [0, 1, 2, 3] (by decide), hF⟩, Nat.lt_succ_self _⟩)))
  have hF := zS c3615 hF
  exact (xJ (yO (yO (xB (zA (meet ⟨(), zL, ⟨H.pick [] (by decide), hF⟩⟩))))))
 rintro _ ρ w2809 ⟨H, hF⟩
 have hF := wB ek2811 hF
 refine zC fun K3985 hK3985 => ?_
 refine zB ?_
 refine zI (.int .i64 0) ?_
 refine (zD (zA (hK3985 _ _ ?_)))
 obtain rfl := someI hF
 refine (yB (post1 (v1 := .int .i64 0) rfl rfl ?_))
 exact ⟨rfl, H.pick [] (by decide)⟩
set_option maxHeartbeats 4000000 in
theorem F_event_namesIn_1_w (p0 : Cond) (c0 : List Str) (v1 : Value) (b3 : Nat) (v4 : Value) (r : Int × (List Str)) (hF : F_event_namesIn_1 p0 c0 = some r) (O S : List Nat) (w : World) (H : Hd O w w S [.own Rp.str v4 9 c0, .blk b3 [v4] 22, .fz (.sl rCond v1 p0.Kids)]) :
  Calls Tryz.prog 196 ([.agg [.int .i64 p0.Kind, .string (bs p0.Name), .string (bs p0.Other), .int .i64 p0.Op, .int .i64 p0.N, .int .i64 p0.Frames, v1].toArray, .pointer (some ⟨b3, 0, none⟩)] : List Value).toArray w fun e w' => ∃ u7, e = .returned (.int .i64 r.1) ∧ Hd O w w' S [.own Rp.str u7 9 r.2, .blk b3 [u7] 22] := by
 unfold F_event_namesIn_1 at hF
 refine zY 23 Tryz.func196 rfl rfl rfl ?_
 refine zC fun K8 hK8 => ?_
 refine zB ?_
 refine yZ rfl rfl (wF (cs := [.int .i64 p0.Kind, .string (bs p0.Name), .string (bs p0.Other), .int .i64 p0.Op, .int .i64 p0.N, .int .i64 p0.Frames, v1]) rfl H) ?_
 rintro _ w11 ⟨b9, rfl, H⟩
 refine zI (.int .i64 0) ?_
 refine (zD (zA (hK8 _ _ ?_)))
 obtain ⟨g47, hF, hK50⟩ := zG hF
 refine yL [4, 5, 6, 7, 8, 9, 10, 11, 12, 13, 14, 15, 16, 17, 18, 19, 20, 21, 22] (fun (g : Value) => []) (fun g wl => Hd O w wl S [.own Rp.str g 9 g47, .blk b3 [g] 22]) ?_ ?_
 ·skip
  refine zC fun K51 hK51 => ?_
  refine zB ?_
  refine zH (fa70_0 rfl) ?_
  refine zH (zO one3 rfl (Cells.get (Blk.cells (H.item (i := 3) rfl)) (i := 0) rfl)) ?_
  refine (zD (zA (hK51 _ _ ?_)))
  refine yG ?_
  obtain ⟨g58, hF, hK60⟩ := zG hF
  refine yL [6, 7, 8] (fun (g : Unit) => [(6, .bool g58)]) (fun g wl => Hd O w wl S [.own Rp.str v4 9 c0, .blk b3 [v4] 22, .fz (.sl rCond v1 p0.Kids), .blk b9 [.int .i64 p0.Kind, .string (bs p0.Name), .string (bs p0.Other), .int .i64 p0.Op, .int .i64 p0.N, .int .i64 p0.Frames, v1] 70]) ?_ ?_
  ·skip
   refine zC fun K61 hK61 => ?_
   refine zB ?_
   obtain ⟨x62, e63, hF⟩ := zF hF
   refine zH (zM (yR (a := p0.Kind) (b := 3) rfl rfl) e63) ?_
   refine zI (.bool x62) ?_
   refine (zD (zA (hK61 _ _ ?_)))
   refine yA (b := x62) rfl (fun c64 => ?_) (fun c64 => ?_)
   ·have hF := zQ c64 hF
    obtain rfl := someI hF
    exact (zX (zA (meet ⟨(), (zJ rfl zL), H.pick [0, 1, 2, 3] (by decide)⟩)))
   have hF := zS c64 hF
   refine zB ?_
   obtain ⟨x65, e66, hF⟩ := zF hF
   refine zH (zM (yR (a := p0.Kind) (b := 5) rfl rfl) e66) ?_
   refine zI (.bool x65) ?_
   obtain rfl := someI hF
   exact (zD (zA (meet ⟨(), (zJ rfl zL), H.pick [0, 1, 2, 3] (by decide)⟩)))
  rintro _ ρ w59 H
  have hF := hK60
  refine yA (b := g58) rfl (fun c67 => ?_) (fun c67 => ?_)
  ·have hF := zQ c67 hF
   refine zB ?_
   refine zH (zO one22 rfl (Cells.get (Blk.cells (H.item (i := 1) rfl)) (i := 0) rfl)) ?_
   refine zH (fa70_1 rfl) ?_
   refine zH (zO one9 rfl (Cells.get (Blk.cells (H.item (i := 3) rfl)) (i := 1) rfl)) ?_
   obtain ⟨x68, e69, hF⟩ := zF hF
   subst e69
   refine yZ rfl rfl (Lx_bs (r := Rp.str) (xl := [p0.Name]) (cs := [.string (bs p0.Name)]) u22 el9 (by decide) (by decide) rfl (xU (vs := [.string (bs p0.Name)]) (by decide) rfl rfl ⟨rfl, trivial⟩ rfl) H ⟨[.string (bs p0.Name)], [], rfl, rfl, rfl⟩) ?_
   rintro v71 w72 H
   obtain ⟨x73, e74, hF⟩ := zG hF
   refine yZ rfl rfl (Lx_app H (i := 0) rfl u22 el9 rfl rfl (Sr.of_own (H.item (i := 4) rfl)) e74) ?_
   rintro v75 w76 H
   refine xH rfl (wH H 1 rfl sz22 rfl (v := v75) rfl (own_one (H.item (i := 0) rfl)) rfl) ?_
   rintro w77 H
   obtain rfl := someI hF
   exact (zD (yT (zA (meet ⟨v75, zL, H.pick [0, 1] (by decide)⟩))))
  have hF := zS c67 hF
  refine zC fun K78 hK78 => ?_
  refine zB ?_
  obtain ⟨x79, e80, hF⟩ := zF hF
  refine zH (zM (yR (a := p0.Kind) (b := 4) rfl rfl) e80) ?_
  refine zI (.bool x79) ?_
  refine (zD (zA (hK78 _ _ ?_)))
  refine yA (b := x79) rfl (fun c81 => ?_) (fun c81 => ?_)
  ·have hF := zQ c81 hF
   refine zB ?_
   refine zH (zO one22 rfl (Cells.get (Blk.cells (H.item (i := 1) rfl)) (i := 0) rfl)) ?_
   refine zH (fa70_1 rfl) ?_
   refine zH (zO one9 rfl (Cells.get (Blk.cells (H.item (i := 3) rfl)) (i := 1) rfl)) ?_
   refine zH (fa70_2 rfl) ?_
   refine zH (zO one9 rfl (Cells.get (Blk.cells (H.item (i := 3) rfl)) (i := 2) rfl)) ?_
   obtain ⟨x82, e83, hF⟩ := zF hF
   subst e83
   refine yZ rfl rfl (Lx_bs (r := Rp.str) (xl := [p0.Name, p0.Other]) (cs := [.string (bs p0.Name), .string (bs p0.Other)]) u22 el9 (by decide) (by decide) rfl (xU (vs := [.string (bs p0.Name), .string (bs p0.Other)]) (by decide) rfl rfl ⟨rfl, rfl, trivial⟩ rfl) H ⟨[.string (bs p0.Name)], [.string (bs p0.Other)], rfl, rfl, ⟨[.string (bs p0.Other)], [], rfl, rfl, rfl⟩⟩) ?_
   rintro v85 w86 H
   obtain ⟨x87, e88, hF⟩ := zG hF
   refine yZ rfl rfl (Lx_app H (i := 0) rfl u22 el9 rfl rfl (Sr.of_own (H.item (i := 4) rfl)) e88) ?_
   rintro v89 w90 H
   refine xH rfl (wH H 1 rfl sz22 rfl (v := v89) rfl (own_one (H.item (i := 0) rfl)) rfl) ?_
   rintro w91 H
   obtain rfl := someI hF
   exact (zD (yT (zA (meet ⟨v89, zL, H.pick [0, 1] (by decide)⟩))))
  have hF := zS c81 hF
  obtain rfl := someI hF
  exact (zX (yT (zA (meet ⟨v4, zL, H.pick [0, 1] (by decide)⟩))))
 rintro v48 ρ w49 H
 have hF := hK50
 refine zC fun K92 hK92 => ?_
 refine zB ?_
 refine zI (.int .i64 0) ?_
 refine (zD (zA (hK92 _ _ ?_)))
 obtain rfl := someI hF
 refine (yB (post1 (v1 := .int .i64 0) rfl rfl ?_))
 exact ⟨v48, rfl, H.pick [0, 1] (by decide)⟩
abbrev S_event_each_event_namesIn_1 (f : Cond → (List Str) → Option (Int × (List Str))) : Prop := ∀ (p0 : Cond) (p1c0 : List Str) (v1 : Value) (b3 : Nat) (v4 : Value) (r : Int × (List Str)) (_ : f p0 p1c0 = some r) (O S : List Nat) (w : World) (_ : Hd O w w S [.own Rp.str v4 9 p1c0, .blk b3 [v4] 22, .fz (.sl rCond v1 p0.Kids)]),
  Calls Tryz.prog 81 ([.agg [.int .i64 p0.Kind, .string (bs p0.Name), .string (bs p0.Other), .int .i64 p0.Op, .int .i64 p0.N, .int .i64 p0.Frames, v1].toArray, .func (.func 196) #[] #[.pointer (some ⟨b3, 0, none⟩)]] : List Value).toArray w fun e w' => ∃ u7, e = .returned (.int .i64 r.1) ∧ Hd O w w' S [.own Rp.str u7 9 r.2, .blk b3 [u7] 22]
set_option maxHeartbeats 4000000 in
theorem F_event_each_event_namesIn_1_B_w (rfL : Cond → (List Str) → Option (Int × (List Str))) (rhL : S_event_each_event_namesIn_1 rfL) (p0 : Cond) (p1c0 : List Str) (v1 : Value) (b3 : Nat) (v4 : Value) (r : Int × (List Str)) (hF : F_event_each_event_namesIn_1_B rfL p0 p1c0 = some r) (O S : List Nat) (w : World) (H : Hd O w w S [.own Rp.str v4 9 p1c0, .blk b3 [v4] 22, .fz (.sl rCond v1 p0.Kids)]) :
  Calls Tryz.prog 81 ([.agg [.int .i64 p0.Kind, .string (bs p0.Name), .string (bs p0.Other), .int .i64 p0.Op, .int .i64 p0.N, .int .i64 p0.Frames, v1].toArray, .func (.func 196) #[] #[.pointer (some ⟨b3, 0, none⟩)]] : List Value).toArray w fun e w' => ∃ u7, e = .returned (.int .i64 r.1) ∧ Hd O w w' S [.own Rp.str u7 9 r.2, .blk b3 [u7] 22] := by
 unfold F_event_each_event_namesIn_1_B at hF
 refine zY 29 Tryz.func81 rfl rfl rfl ?_
 refine zC fun K8 hK8 => ?_
 refine zB ?_
 refine yZ rfl rfl (wF (cs := [.int .i64 p0.Kind, .string (bs p0.Name), .string (bs p0.Other), .int .i64 p0.Op, .int .i64 p0.N, .int .i64 p0.Frames, v1]) rfl H) ?_
 rintro _ w11 ⟨b9, rfl, H⟩
 refine zI (.int .i64 0) ?_
 refine (zD (zA (hK8 _ _ ?_)))
 refine zC fun K25 hK25 => ?_
 refine zC fun K26 hK26 => ?_
 refine zB ?_
 refine zK (.func (.func 196) #[] #[.pointer (some ⟨b3, 0, none⟩)]) ?_
 refine zH (yN (yJ (cs := [.int .i64 p0.Kind, .string (bs p0.Name), .string (bs p0.Other), .int .i64 p0.Op, .int .i64 p0.N, .int .i64 p0.Frames, v1]) agg70 rfl sz70 rfl (Blk.cells (H.item (i := 3) rfl))) rfl) ?_
 obtain ⟨⟨x27, x28⟩, e29, hF⟩ := zG hF
 refine zZ rfl rfl (DoC_clo en196 rfl rfl) (F_event_namesIn_1_w p0 p1c0 v1 b3 v4 _ e29 _ _ _ (H.enter [0, 1] [2] (by decide) rfl)) ?_
 rintro _ w32 ⟨v30, rfl, G33⟩
 have H : Hd O _ w32 _ [.fz (.sl rCond v1 p0.Kids), .blk b9 [.int .i64 p0.Kind, .string (bs p0.Name), .string (bs p0.Other), .int .i64 p0.Op, .int .i64 p0.N, .int .i64 p0.Frames, v1] 70, .own Rp.str v30 9 x28, .blk b3 [v30] 22] := H.back [0, 1] [2] rfl G33
 refine ⟨_, rfl, ?_⟩
 refine zI (.int .i64 x27) ?_
 refine (zD (zA (hK26 _ _ ?_)))
 refine zC fun K34 hK34 => ?_
 refine zB ?_
 refine zK (.int .i64 x27) ?_
 obtain ⟨x35, e36, hF⟩ := zF hF
 refine zH (zM (Do_neq (a := x27) (b := 0) rfl rfl) e36) ?_
 refine (zD (zA (hK34 _ _ ?_)))
 refine yA (b := x35) rfl (fun c37 => ?_) (fun c37 => ?_)
 ·have hF := zQ c37 hF
  refine zC fun K38 hK38 => ?_
  refine zB ?_
  refine zK (.int .i64 x27) ?_
  refine zI (.int .i64 x27) ?_
  refine (zD (zA (hK38 _ _ ?_)))
  obtain rfl := someI hF
  refine (yB (zW (post1 (v1 := .int .i64 x27) rfl rfl ?_)))
  exact ⟨v30, rfl, H.pick [2, 3] (by decide)⟩
 have hF := zS c37 hF
 refine (zX (zA (hK25 _ _ ?_)))
 obtain ⟨k209, ek210, hF⟩ := xQ hF
 refine yL [4, 7, 8, 15, 16, 17, 18, 19, 20, 21, 22, 23, 24, 25, 26, 27, 28] (fun (g : (List Str) × Value) => []) (fun g wl => Hd O w wl S [.blk b3 [g.2] 22, .own Rp.str g.2 9 g.1] ∧ k209 g.1 = some r) ?_ ?_
 ·skip
  refine zC fun K211 hK211 => ?_
  refine zB ?_
  refine zH (fa70_6 rfl) ?_
  refine zH (zO one68 rfl (Cells.get (Blk.cells (H.item (i := 1) rfl)) (i := 6) rfl)) ?_
  obtain ⟨x212, e213, hF⟩ := zF hF
  obtain ⟨a214, c215, q216⟩ := SlF.len ((H.item (i := 0) rfl))
  refine zH (yN (xM u68 q216) (congrArg (Value.int .i64) e213)) ?_
  refine zK (.int .i64 0) ?_
  refine (zD (zA (hK211 _ _ ?_)))
  refine yG ?_
  unfold F_event_each_event_namesIn_1_B_L1 at hF
  obtain ⟨B375, n376, eB377, hF⟩ := yS hF
  refine xE [4, 7, 8, 18, 19, 20, 21, 22, 23, 24, 25, 26, 27, 28] (fun (g : Nat × Int × (List Str) × Value) => [(18, .int .i64 g.2.1)]) (fun g wl => Hd O w wl S [.fz (.sl rCond v1 p0.Kids), .blk b3 [g.2.2.2] 22, .own Rp.str g.2.2.2 9 g.2.2.1] ∧ loopN B375 g.1 (g.2.1, g.2.2.1) = some r) (fun g => g.1) (n376, 0, x28, v30) (zJ rfl zL) ⟨H.pick [0, 3, 2] (by decide), hF⟩ ?_
  clear H hF
  rintro ⟨n376, g371, g373, v374⟩ ρ w379 ⟨H, hF⟩
  obtain ⟨n380, rfl, hF⟩ := yX hF
  have hF := yY eB377 hF
  refine zC fun K381 hK381 => ?_
  refine zB ?_
  obtain ⟨x382, e383, hF⟩ := zF hF
  refine zH (zM (xI (a := g371) (b := x212) rfl rfl) e383) ?_
  refine (zD (zA (hK381 _ _ ?_)))
  refine zC fun K385 hK385 => ?_
  refine yA (b := x382) rfl (fun c386 => ?_) (fun c386 => ?_)
  ·have hF := zQ c386 hF
   refine (zX (zA (hK385 _ _ ?_)))
   refine zC fun K420 hK420 => ?_
   refine yG ?_
   refine zC fun K421 hK421 => ?_
   refine zB ?_
   obtain ⟨x422, e423, hF⟩ := zG hF
   obtain ⟨b424, o425, c426, cs427, q428, h431, h429, h430, h432⟩ := rd_at (H.item (i := 0) rfl) e423
   obtain ⟨v433, rfl, h434⟩ := wI h431
   have H := H.fzs [.at b424 (o425 + g371.toNat * 7) _, .sl rCond v433 x422.Kids] ⟨⟨h429, h430, h432⟩, h434, trivial⟩
   refine zH (wC u68 sz70 q428 rfl (yP e423).1 (yP e423).2.1 rfl rfl) ?_
   refine zH (yN (yJ (cs := [.int .i64 x422.Kind, .string (bs x422.Name), .string (bs x422.Other), .int .i64 x422.Op, .int .i64 x422.N, .int .i64 x422.Frames, v433]) agg70 rfl sz70 rfl (H.item (i := 3) rfl).2.2) rfl) ?_
   refine yZ rfl rfl (xN zero70 H) ?_
   rintro _ w439 ⟨b437, rfl, H⟩
   refine xH rfl (xC (vs := [.int .i64 x422.Kind, .string (bs x422.Name), .string (bs x422.Other), .int .i64 x422.Op, .int .i64 x422.N, .int .i64 x422.Frames, v433]) H 5 rfl sz70 rfl rfl rfl ⟨rfl, rfl, rfl, rfl, rfl, rfl, (slf_one (H.item (i := 4) rfl)), trivial⟩ rfl) ?_
   rintro w440 H
   refine (zD (zA (hK421 _ _ ?_)))
   refine zC fun K441 hK441 => ?_
   refine zB ?_
   refine zH (yN (yJ (cs := [.int .i64 x422.Kind, .string (bs x422.Name), .string (bs x422.Other), .int .i64 x422.Op, .int .i64 x422.N, .int .i64 x422.Frames, v433]) agg70 rfl sz70 rfl (Blk.cells (H.item (i := 5) rfl))) rfl) ?_
   refine zK (.func (.func 196) #[] #[.pointer (some ⟨b3, 0, none⟩)]) ?_
   obtain ⟨⟨x442, x443⟩, e444, hF⟩ := zG hF
   refine zZ rfl rfl (zT en81 rfl) (rhL x422 g373 v433 b3 v374 _ e444 _ _ _ (H.enter [2, 1] [4] (by decide) rfl)) ?_
   rintro _ w447 ⟨v445, rfl, G448⟩
   have H : Hd O _ w447 _ [.fz (.sl rCond v1 p0.Kids), .fz (.at b424 (o425 + g371.toNat * 7) [.int .i64 x422.Kind, .string (bs x422.Name), .string (bs x422.Other), .int .i64 x422.Op, .int .i64 x422.N, .int .i64 x422.Frames, v433]), .fz (.sl rCond v433 x422.Kids), .blk b437 [.int .i64 x422.Kind, .string (bs x422.Name), .string (bs x422.Other), .int .i64 x422.Op, .int .i64 x422.N, .int .i64 x422.Frames, v433] 70, .own Rp.str v445 9 x443, .blk b3 [v445] 22] := H.back [2, 1] [4] rfl G448
   refine ⟨_, rfl, ?_⟩
   refine zI (.int .i64 x442) ?_
   refine (zD (zA (hK441 _ _ ?_)))
   refine zC fun K449 hK449 => ?_
   refine zB ?_
   refine zK (.int .i64 x442) ?_
   obtain ⟨x450, e451, hF⟩ := zF hF
   refine zH (zM (Do_neq (a := x442) (b := 0) rfl rfl) e451) ?_
   refine (zD (zA (hK449 _ _ ?_)))
   refine yA (b := x450) rfl (fun c452 => ?_) (fun c452 => ?_)
   ·have hF := zQ c452 hF
    refine zC fun K453 hK453 => ?_
    refine zB ?_
    refine zK (.int .i64 x442) ?_
    refine zI (.int .i64 x442) ?_
    refine (zD (zA (hK453 _ _ ?_)))
    obtain rfl := someI hF
    refine (yB (yE (zW (zW (yE (zW (post1 (v1 := .int .i64 x442) rfl rfl ?_)))))))
    exact ⟨v445, rfl, H.pick [4, 5] (by decide)⟩
   have hF := zS c452 hF
   refine (zX (yT (zA (hK420 _ _ ?_))))
   refine zB ?_
   obtain ⟨x454, e455, hF⟩ := zF hF
   refine zH (xP (a := g371) (b := 1) rfl rfl e455) ?_
   refine zK (.int .i64 x454) ?_
   exact (zD (zA (meet ⟨(n380, x454, x443, v445), (zJ rfl zL), ⟨H.pick [0, 5, 4] (by decide), hF⟩, Nat.lt_succ_self _⟩)))
  have hF := zS c386 hF
  exact (xJ (yO (yO (xB (zA (meet ⟨(g373, v374), zL, ⟨H.pick [1, 2] (by decide), hF⟩⟩))))))
 rintro ⟨g206, v207⟩ ρ w208 ⟨H, hF⟩
 have hF := wB ek210 hF
 refine zC fun K456 hK456 => ?_
 refine zB ?_
 refine zI (.int .i64 0) ?_
 refine (zD (zA (hK456 _ _ ?_)))
 obtain rfl := someI hF
 refine (yB (post1 (v1 := .int .i64 0) rfl rfl ?_))
 exact ⟨v207, rfl, H.pick [1, 0] (by decide)⟩
theorem F_event_each_event_namesIn_1_s : S_event_each_event_namesIn_1 (F_event_each_event_namesIn_1) := by
 have h : ∀ n, S_event_each_event_namesIn_1 (F_event_each_event_namesIn_1_R n) := by
  intro n
  induction n with
  | zero => intro p0 p1c0 v1 b3 v4 r hF; cases hF
  | succ n ih => intro p0 p1c0 v1 b3 v4 r hF; exact F_event_each_event_namesIn_1_B_w (F_event_each_event_namesIn_1_R n) ih p0 p1c0 v1 b3 v4 r hF
 exact h FU
set_option maxHeartbeats 4000000 in
theorem F_event_namesIn_w (p0 : Cond) (v1 : Value) (r : (List Str)) (hF : F_event_namesIn p0 = some r) (O S : List Nat) (w : World) (H : Hd O w w S [.fz (.sl rCond v1 p0.Kids)]) :
  Calls Tryz.prog 152 ([.agg [.int .i64 p0.Kind, .string (bs p0.Name), .string (bs p0.Other), .int .i64 p0.Op, .int .i64 p0.N, .int .i64 p0.Frames, v1].toArray] : List Value).toArray w fun e w' => ∃ u3, e = .returned (u3) ∧ Hd O w w' S [.own Rp.str u3 9 r] := by
 unfold F_event_namesIn at hF
 refine zY 8 Tryz.func152 rfl rfl rfl ?_
 refine zC fun K4 hK4 => ?_
 refine zB ?_
 refine yZ rfl rfl (wF (cs := [.int .i64 p0.Kind, .string (bs p0.Name), .string (bs p0.Other), .int .i64 p0.Op, .int .i64 p0.N, .int .i64 p0.Frames, v1]) rfl H) ?_
 rintro _ w7 ⟨b5, rfl, H⟩
 refine zI (.slice none 0 0) ?_
 refine (zD (zA (hK4 _ _ ?_)))
 refine zC fun K8 hK8 => ?_
 refine zB ?_
 refine yZ rfl rfl (xN zero22 H) ?_
 rintro _ w11 ⟨b9, rfl, H⟩
 refine (zD (zA (hK8 _ _ ?_)))
 refine zC fun K12 hK12 => ?_
 refine zB ?_
 refine zH (yN (yJ (cs := [.int .i64 p0.Kind, .string (bs p0.Name), .string (bs p0.Other), .int .i64 p0.Op, .int .i64 p0.N, .int .i64 p0.Frames, v1]) agg70 rfl sz70 rfl (Blk.cells (H.item (i := 1) rfl))) rfl) ?_
 refine zH (Do_makeFunc rfl) ?_
 have H := own_nil H Rp.str 9
 obtain ⟨⟨x14, x15⟩, e16, hF⟩ := zG hF
 refine zZ rfl rfl (zT en81 rfl) (F_event_each_event_namesIn_1_s p0 [] v1 b9 (.slice none 0 0) _ e16 _ _ _ (H.enter [3, 2] [0] (by decide) rfl)) ?_
 rintro _ w19 ⟨v17, rfl, G20⟩
 have H : Hd O _ w19 _ [.fz (.sl rCond v1 p0.Kids), .blk b5 [.int .i64 p0.Kind, .string (bs p0.Name), .string (bs p0.Other), .int .i64 p0.Op, .int .i64 p0.N, .int .i64 p0.Frames, v1] 70, .own Rp.str v17 9 x15, .blk b9 [v17] 22] := H.back [3, 2] [0] rfl G20
 refine ⟨_, rfl, ?_⟩
 refine (zD (zA (hK12 _ _ ?_)))
 refine zC fun K21 hK21 => ?_
 refine zB ?_
 refine zH (zO one22 rfl (Cells.get (Blk.cells (H.item (i := 3) rfl)) (i := 0) rfl)) ?_
 refine zI v17 ?_
 refine (zD (zA (hK21 _ _ ?_)))
 obtain rfl := someI hF
 refine (yB (post1 (v1 := v17) rfl rfl ?_))
 exact ⟨v17, rfl, H.pick [2] (by decide)⟩
end Go.Proofs.YtckmiljbaejijaaGreatDoor.L
