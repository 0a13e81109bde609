/- Walks: what each function computes, for every argument; no condition but those that stand in the statements. -/
import Derived.Test.YtckmiljbaejijaaGreatDoorKV0
import Derived.Test.YtckmiljbaejijaaGreatDoorKV2
import Derived.Test.YtckmiljbaejijaaGreatDoorKV1
namespace Go.Proofs.YtckmiljbaejijaaGreatDoor.L
open Go.RowKit Go.OB Go.Lf
set_option maxHeartbeats 4000000 in
theorem F_event_each_event_checkMove_1_B_w (rfH : Cond → Option Int) (rhH : S_event_each_event_checkMove_1 rfH) (p0 : Cond) (v1 : Value) (r : Int) (hF : F_event_each_event_checkMove_1_B rfH p0 = some r) (O S : List Nat) (w : World) (H : Hd O w w S [.fz (.sl rCond v1 p0.Kids)]) :
  Calls Tryz.prog 81 ([.agg [.int .i64 p0.Kind, .string (bs p0.Name), .string (bs p0.Other), .int .i64 p0.Op, .int .i64 p0.N, .int .i64 p0.Frames, v1].toArray, .func (.func 146) #[] #[]] : List Value).toArray w fun e w' => e = .returned (.int .i64 r) ∧ Hd O w w' S [] := by
 unfold F_event_each_event_checkMove_1_B at hF
 refine zY 29 Tryz.func81 rfl rfl rfl ?_
 refine zC fun K3 hK3 => ?_
 refine zB ?_
 refine yZ rfl rfl (wF (cs := [.int .i64 p0.Kind, .string (bs p0.Name), .string (bs p0.Other), .int .i64 p0.Op, .int .i64 p0.N, .int .i64 p0.Frames, v1]) rfl H) ?_
 rintro _ w6 ⟨b4, rfl, H⟩
 refine zI (.int .i64 0) ?_
 refine (zD (zA (hK3 _ _ ?_)))
 refine zC fun K18 hK18 => ?_
 refine zC fun K19 hK19 => ?_
 refine zB ?_
 refine zK (.func (.func 146) #[] #[]) ?_
 refine zH (yN (yJ (cs := [.int .i64 p0.Kind, .string (bs p0.Name), .string (bs p0.Other), .int .i64 p0.Op, .int .i64 p0.N, .int .i64 p0.Frames, v1]) agg70 rfl sz70 rfl (Blk.cells (H.item (i := 1) rfl))) rfl) ?_
 have H20 := H
 obtain ⟨x21, e22, hF⟩ := zG hF
 refine zZ rfl rfl (DoC_clo en146 rfl rfl) (F_event_checkMove_1_w p0 v1 _ e22 _ _ _ (H.enter [] [0] (by decide) rfl)) ?_
 rintro _ w23 ⟨rfl, G24⟩
 have H := H20.step (G24.only : Only [] _ _)
 refine ⟨_, rfl, ?_⟩
 refine zI (.int .i64 x21) ?_
 refine (zD (zA (hK19 _ _ ?_)))
 refine zC fun K25 hK25 => ?_
 refine zB ?_
 refine zK (.int .i64 x21) ?_
 obtain ⟨x26, e27, hF⟩ := zF hF
 refine zH (zM (Do_neq (a := x21) (b := 0) rfl rfl) e27) ?_
 refine (zD (zA (hK25 _ _ ?_)))
 refine yA (b := x26) rfl (fun c28 => ?_) (fun c28 => ?_)
 ·have hF := zQ c28 hF
  refine zC fun K29 hK29 => ?_
  refine zB ?_
  refine zK (.int .i64 x21) ?_
  refine zI (.int .i64 x21) ?_
  refine (zD (zA (hK29 _ _ ?_)))
  obtain rfl := someI hF
  refine (yB (zW (post1 (v1 := .int .i64 x21) rfl rfl ?_)))
  exact ⟨rfl, H.pick [] (by decide)⟩
 have hF := zS c28 hF
 refine (zX (zA (hK18 _ _ ?_)))
 obtain ⟨k186, ek187, hF⟩ := xQ hF
 refine yL [4, 7, 8, 15, 16, 17, 18, 19, 20, 21, 22, 23, 24, 25, 26, 27, 28] (fun (g : Unit) => []) (fun g wl => Hd O w wl S [] ∧ k186 () = some r) ?_ ?_
 ·skip
  refine zC fun K188 hK188 => ?_
  refine zB ?_
  refine zH (fa70_6 rfl) ?_
  refine zH (zO one68 rfl (Cells.get (Blk.cells (H.item (i := 1) rfl)) (i := 6) rfl)) ?_
  obtain ⟨x189, e190, hF⟩ := zF hF
  obtain ⟨a191, c192, q193⟩ := SlF.len ((H.item (i := 0) rfl))
  refine zH (yN (xM u68 q193) (congrArg (Value.int .i64) e190)) ?_
  refine zK (.int .i64 0) ?_
  refine (zD (zA (hK188 _ _ ?_)))
  refine yG ?_
  unfold F_event_each_event_checkMove_1_B_L1 at hF
  obtain ⟨B338, n339, eB340, hF⟩ := yS hF
  refine xE [4, 7, 8, 18, 19, 20, 21, 22, 23, 24, 25, 26, 27, 28] (fun (g : Nat × Int) => [(18, .int .i64 g.2)]) (fun g wl => Hd O w wl S [.fz (.sl rCond v1 p0.Kids)] ∧ loopN B338 g.1 g.2 = some r) (fun g => g.1) (n339, 0) (zJ rfl zL) ⟨H.pick [0] (by decide), hF⟩ ?_
  clear H hF
  rintro ⟨n339, g337⟩ ρ w342 ⟨H, hF⟩
  obtain ⟨n343, rfl, hF⟩ := yX hF
  have hF := yY eB340 hF
  refine zC fun K344 hK344 => ?_
  refine zB ?_
  obtain ⟨x345, e346, hF⟩ := zF hF
  refine zH (zM (xI (a := g337) (b := x189) rfl rfl) e346) ?_
  refine (zD (zA (hK344 _ _ ?_)))
  refine zC fun K348 hK348 => ?_
  refine yA (b := x345) rfl (fun c349 => ?_) (fun c349 => ?_)
  ·have hF := zQ c349 hF
   refine (zX (zA (hK348 _ _ ?_)))
   refine zC fun K381 hK381 => ?_
   refine yG ?_
   refine zC fun K382 hK382 => ?_
   refine zB ?_
   obtain ⟨x383, e384, hF⟩ := zG hF
   obtain ⟨b385, o386, c387, cs388, q389, h392, h390, h391, h393⟩ := rd_at (H.item (i := 0) rfl) e384
   obtain ⟨v394, rfl, h395⟩ := wI h392
   have H := H.fzs [.at b385 (o386 + g337.toNat * 7) _, .sl rCond v394 x383.Kids] ⟨⟨h390, h391, h393⟩, h395, trivial⟩
   refine zH (wC u68 sz70 q389 rfl (yP e384).1 (yP e384).2.1 rfl rfl) ?_
   refine zH (yN (yJ (cs := [.int .i64 x383.Kind, .string (bs x383.Name), .string (bs x383.Other), .int .i64 x383.Op, .int .i64 x383.N, .int .i64 x383.Frames, v394]) agg70 rfl sz70 rfl (H.item (i := 1) rfl).2.2) rfl) ?_
   refine yZ rfl rfl (xN zero70 H) ?_
   rintro _ w400 ⟨b398, rfl, H⟩
   refine xH rfl (xC (vs := [.int .i64 x383.Kind, .string (bs x383.Name), .string (bs x383.Other), .int .i64 x383.Op, .int .i64 x383.N, .int .i64 x383.Frames, v394]) H 3 rfl sz70 rfl rfl rfl ⟨rfl, rfl, rfl, rfl, rfl, rfl, (slf_one (H.item (i := 2) rfl)), trivial⟩ rfl) ?_
   rintro w401 H
   refine (zD (zA (hK382 _ _ ?_)))
   refine zC fun K402 hK402 => ?_
   refine zB ?_
   refine zH (yN (yJ (cs := [.int .i64 x383.Kind, .string (bs x383.Name), .string (bs x383.Other), .int .i64 x383.Op, .int .i64 x383.N, .int .i64 x383.Frames, v394]) agg70 rfl sz70 rfl (Blk.cells (H.item (i := 3) rfl))) rfl) ?_
   refine zK (.func (.func 146) #[] #[]) ?_
   have H403 := H
   obtain ⟨x404, e405, hF⟩ := zG hF
   refine zZ rfl rfl (zT en81 rfl) (rhH x383 v394 _ e405 _ _ _ (H.enter [] [2] (by decide) rfl)) ?_
   rintro _ w406 ⟨rfl, G407⟩
   have H := H403.step (G407.only : Only [] _ _)
   refine ⟨_, rfl, ?_⟩
   refine zI (.int .i64 x404) ?_
   refine (zD (zA (hK402 _ _ ?_)))
   refine zC fun K408 hK408 => ?_
   refine zB ?_
   refine zK (.int .i64 x404) ?_
   obtain ⟨x409, e410, hF⟩ := zF hF
   refine zH (zM (Do_neq (a := x404) (b := 0) rfl rfl) e410) ?_
   refine (zD (zA (hK408 _ _ ?_)))
   refine yA (b := x409) rfl (fun c411 => ?_) (fun c411 => ?_)
   ·have hF := zQ c411 hF
    refine zC fun K412 hK412 => ?_
    refine zB ?_
    refine zK (.int .i64 x404) ?_
    refine zI (.int .i64 x404) ?_
    refine (zD (zA (hK412 _ _ ?_)))
    obtain rfl := someI hF
    refine (yB (yE (zW (zW (yE (zW (post1 (v1 := .int .i64 x404) rfl rfl ?_)))))))
    exact ⟨rfl, H.pick [] (by decide)⟩
   have hF := zS c411 hF
   refine (zX (yT (zA (hK381 _ _ ?_))))
   refine zB ?_
   obtain ⟨x413, e414, hF⟩ := zF hF
   refine zH (xP (a := g337) (b := 1) rfl rfl e414) ?_
   refine zK (.int .i64 x413) ?_
   exact (zD (zA (meet ⟨(n343, x413), (zJ rfl zL), ⟨H.pick [0] (by decide), hF⟩, Nat.lt_succ_self _⟩)))
  have hF := zS c349 hF
  exact (xJ (yO (yO (xB (zA (meet ⟨(), zL, ⟨H.pick [] (by decide), hF⟩⟩))))))
 rintro _ ρ w185 ⟨H, hF⟩
 have hF := wB ek187 hF
 refine zC fun K415 hK415 => ?_
 refine zB ?_
 refine zI (.int .i64 0) ?_
 refine (zD (zA (hK415 _ _ ?_)))
 obtain rfl := someI hF
 refine (yB (post1 (v1 := .int .i64 0) rfl rfl ?_))
 exact ⟨rfl, H.pick [] (by decide)⟩
theorem F_event_each_event_checkMove_1_s : S_event_each_event_checkMove_1 (F_event_each_event_checkMove_1) := by
 have h : ∀ n, S_event_each_event_checkMove_1 (F_event_each_event_checkMove_1_R n) := by
  intro n
  induction n with
  | zero => intro p0 v1 r hF; cases hF
  | succ n ih => intro p0 v1 r hF; exact F_event_each_event_checkMove_1_B_w (F_event_each_event_checkMove_1_R n) ih p0 v1 r hF
 exact h FU
set_option maxHeartbeats 4000000 in
theorem F_event_checkMove_w (p0 : Rules) (p1 : MoveT) (v1 : Value) (v2 : Value) (v3 : Value) (v7 : Value) (r : Int) (hF : F_event_checkMove p0 p1 = some r) (O S : List Nat) (w : World) (H : Hd O w w S [.fz (.sl Rp.str v1 p0.Phases), .fz (.sl rMoveT v2 p0.Moves), .fz (.sl rRule v3 p0.Rules), .fz (.sl rCond v7 p1.When.Kids)]) :
  Calls Tryz.prog 88 ([.agg [v1, v2, v3].toArray, .agg [.string (bs p1.From), .string (bs p1.To), .int .i64 p1.When.Kind, .string (bs p1.When.Name), .string (bs p1.When.Other), .int .i64 p1.When.Op, .int .i64 p1.When.N, .int .i64 p1.When.Frames, v7].toArray] : List Value).toArray w fun e w' => e = .returned (.int .i64 r) ∧ Hd O w w' S [] := by
 unfold F_event_checkMove at hF
 refine zY 33 Tryz.func88 rfl rfl rfl ?_
 refine zC fun K9 hK9 => ?_
 refine zB ?_
 refine yZ rfl rfl (wF (cs := [v1, v2, v3]) rfl H) ?_
 rintro _ w12 ⟨b10, rfl, H⟩
 refine yZ rfl rfl (wF (cs := [.string (bs p1.From), .string (bs p1.To), .int .i64 p1.When.Kind, .string (bs p1.When.Name), .string (bs p1.When.Other), .int .i64 p1.When.Op, .int .i64 p1.When.N, .int .i64 p1.When.Frames, v7]) rfl H) ?_
 rintro _ w15 ⟨b13, rfl, H⟩
 refine zI (.int .i64 0) ?_
 refine (zD (zA (hK9 _ _ ?_)))
 obtain ⟨k141, ek142, hF⟩ := xQ hF
 refine yL [4, 6, 8, 9, 10, 11, 12, 13, 14, 15, 16, 17, 18, 19, 20, 21, 22, 23] (fun (g : Unit) => []) (fun g wl => Hd O w wl S [.fz (.sl rCond v7 p1.When.Kids), .blk b13 [.string (bs p1.From), .string (bs p1.To), .int .i64 p1.When.Kind, .string (bs p1.When.Name), .string (bs p1.When.Other), .int .i64 p1.When.Op, .int .i64 p1.When.N, .int .i64 p1.When.Frames, v7] 122] ∧ k141 () = some r) ?_ ?_
 ·skip
  refine zC fun K143 hK143 => ?_
  refine zB ?_
  refine zH (fa122_0 rfl) ?_
  refine zH (zO one9 rfl (Cells.get (Blk.cells (H.item (i := 5) rfl)) (i := 0) rfl)) ?_
  refine zH (fa122_1 rfl) ?_
  refine zH (zO one9 rfl (Cells.get (Blk.cells (H.item (i := 5) rfl)) (i := 1) rfl)) ?_
  obtain ⟨x144, e145, hF⟩ := zF hF
  subst e145
  refine yZ rfl rfl (Lx_bs (r := Rp.str) (xl := [p1.From, p1.To]) (cs := [.string (bs p1.From), .string (bs p1.To)]) u22 el9 (by decide) (by decide) rfl (xU (vs := [.string (bs p1.From), .string (bs p1.To)]) (by decide) rfl rfl ⟨rfl, rfl, trivial⟩ rfl) H ⟨[.string (bs p1.From)], [.string (bs p1.To)], rfl, rfl, ⟨[.string (bs p1.To)], [], rfl, rfl, rfl⟩⟩) ?_
  rintro v147 w148 H
  obtain ⟨x149, e150, hF⟩ := zF hF
  obtain ⟨a151, c152, q153⟩ := Sr.len (Sr.of_own (H.item (i := 6) rfl))
  refine zH (yN (xM u22 q153) (congrArg (Value.int .i64) e150)) ?_
  refine zK (.int .i64 0) ?_
  refine (zD (zA (hK143 _ _ ?_)))
  refine yG ?_
  unfold F_event_checkMove_L1 at hF
  obtain ⟨B262, n263, eB264, hF⟩ := yS hF
  refine xE [4, 6, 14, 15, 16, 17, 18, 19, 20, 21, 22, 23] (fun (g : Nat × Int) => [(14, .int .i64 g.2)]) (fun g wl => Hd O w wl S [.fz (.sl Rp.str v1 p0.Phases), .fz (.sl rMoveT v2 p0.Moves), .fz (.sl rRule v3 p0.Rules), .fz (.sl rCond v7 p1.When.Kids), .blk b10 [v1, v2, v3] 26, .blk b13 [.string (bs p1.From), .string (bs p1.To), .int .i64 p1.When.Kind, .string (bs p1.When.Name), .string (bs p1.When.Other), .int .i64 p1.When.Op, .int .i64 p1.When.N, .int .i64 p1.When.Frames, v7] 122, .own Rp.str v147 9 ([p1.From, p1.To] : List Str)] ∧ loopN B262 g.1 g.2 = some r) (fun g => g.1) (n263, 0) (zJ rfl zL) ⟨H.pick [0, 1, 2, 3, 4, 5, 6] (by decide), hF⟩ ?_
  clear H hF
  rintro ⟨n263, g261⟩ ρ w266 ⟨H, hF⟩
  obtain ⟨n267, rfl, hF⟩ := yX hF
  have hF := yY eB264 hF
  refine zC fun K268 hK268 => ?_
  refine zB ?_
  obtain ⟨x269, e270, hF⟩ := zF hF
  refine zH (zM (xI (a := g261) (b := x149) rfl rfl) e270) ?_
  refine (zD (zA (hK268 _ _ ?_)))
  refine zC fun K272 hK272 => ?_
  refine yA (b := x269) rfl (fun c273 => ?_) (fun c273 => ?_)
  ·have hF := zQ c273 hF
   refine (zX (zA (hK272 _ _ ?_)))
   refine zC fun K296 hK296 => ?_
   refine yG ?_
   refine zC fun K297 hK297 => ?_
   refine zB ?_
   obtain ⟨x298, e299, hF⟩ := zG hF
   obtain ⟨b300, c302, cs303, q304, h307, h308⟩ := own_at (H.item (i := 6) rfl) e299
   obtain rfl : cs303 = [.string (bs x298)] := h307
   refine zH (wC u22 sz9 q304 rfl (yP e299).1 (yP e299).2.1 rfl rfl) ?_
   refine zH (zO one9 rfl (Cells.get h308 (i := 0) rfl)) ?_
   refine zI (.string (bs x298)) ?_
   refine (zD (zA (hK297 _ _ ?_)))
   refine zC fun K309 hK309 => ?_
   refine zB ?_
   refine zH (fa26_0 rfl) ?_
   refine zH (zO one22 rfl (Cells.get (Blk.cells (H.item (i := 4) rfl)) (i := 0) rfl)) ?_
   refine zK (.string (bs x298)) ?_
   have H310 := H
   obtain ⟨x311, e312, hF⟩ := zG hF
   refine zZ rfl rfl (zT en87 rfl) (F_slices_Contains___string_string__w p0.Phases x298 v1 _ e312 _ _ _ (H.enter [] [0] (by decide) rfl)) ?_
   rintro _ w313 ⟨rfl, G314⟩
   have H := H310.step (G314.only : Only [] _ _)
   refine ⟨_, rfl, ?_⟩
   obtain ⟨x315, e316, hF⟩ := zF hF
   refine zH (zM (wJ (p := x311) rfl) e316) ?_
   refine (zD (zA (hK309 _ _ ?_)))
   refine yA (b := x315) rfl (fun c317 => ?_) (fun c317 => ?_)
   ·have hF := zQ c317 hF
    refine zC fun K318 hK318 => ?_
    refine zB ?_
    refine zI (.int .i64 4) ?_
    refine (zD (zA (hK318 _ _ ?_)))
    obtain rfl := someI hF
    refine (yB (yE (zW (zW (yE (zW (post1 (v1 := .int .i64 4) rfl rfl ?_)))))))
    exact ⟨rfl, H.pick [] (by decide)⟩
   have hF := zS c317 hF
   refine (zX (yT (zA (hK296 _ _ ?_))))
   refine zB ?_
   obtain ⟨x319, e320, hF⟩ := zF hF
   refine zH (xP (a := g261) (b := 1) rfl rfl e320) ?_
   refine zK (.int .i64 x319) ?_
   exact (zD (zA (meet ⟨(n267, x319), (zJ rfl zL), ⟨H.pick [0, 1, 2, 3, 4, 5, 6] (by decide), hF⟩, Nat.lt_succ_self _⟩)))
  have hF := zS c273 hF
  exact (xJ (yO (yO (xB (zA (meet ⟨(), zL, ⟨H.pick [3, 5] (by decide), hF⟩⟩))))))
 rintro _ ρ w140 ⟨H, hF⟩
 have hF := wB ek142 hF
 refine zC fun K332 hK332 => ?_
 refine zC fun K333 hK333 => ?_
 refine zB ?_
 refine zH (fa122_2 rfl) ?_
 refine zH (yN (yJ (cs := [.int .i64 p1.When.Kind, .string (bs p1.When.Name), .string (bs p1.When.Other), .int .i64 p1.When.Op, .int .i64 p1.When.N, .int .i64 p1.When.Frames, v7]) agg70 rfl sz70 rfl (Cells.drop (Blk.cells (H.item (i := 1) rfl)) 2 7)) rfl) ?_
 have H334 := H
 obtain ⟨x335, e336, hF⟩ := zG hF
 refine zZ rfl rfl (zT en29 rfl) (F_event_CheckCond_w p1.When v7 _ e336 _ _ _ (H.enter [] [0] (by decide) rfl)) ?_
 rintro _ w337 ⟨rfl, G338⟩
 have H := H334.step (G338.only : Only [] _ _)
 refine ⟨_, rfl, ?_⟩
 refine zI (.int .i64 x335) ?_
 refine (zD (zA (hK333 _ _ ?_)))
 refine zC fun K339 hK339 => ?_
 refine zB ?_
 refine zK (.int .i64 x335) ?_
 obtain ⟨x340, e341, hF⟩ := zF hF
 refine zH (zM (Do_neq (a := x335) (b := 0) rfl rfl) e341) ?_
 refine (zD (zA (hK339 _ _ ?_)))
 refine yA (b := x340) rfl (fun c342 => ?_) (fun c342 => ?_)
 ·have hF := zQ c342 hF
  refine zC fun K343 hK343 => ?_
  refine zB ?_
  refine zK (.int .i64 x335) ?_
  refine zI (.int .i64 x335) ?_
  refine (zD (zA (hK343 _ _ ?_)))
  obtain rfl := someI hF
  refine (yB (zW (post1 (v1 := .int .i64 x335) rfl rfl ?_)))
  exact ⟨rfl, H.pick [] (by decide)⟩
 have hF := zS c342 hF
 refine (zX (zA (hK332 _ _ ?_)))
 refine zC fun K344 hK344 => ?_
 refine zB ?_
 refine zH (fa122_2 rfl) ?_
 refine zH (yN (yJ (cs := [.int .i64 p1.When.Kind, .string (bs p1.When.Name), .string (bs p1.When.Other), .int .i64 p1.When.Op, .int .i64 p1.When.N, .int .i64 p1.When.Frames, v7]) agg70 rfl sz70 rfl (Cells.drop (Blk.cells (H.item (i := 1) rfl)) 2 7)) rfl) ?_
 have H345 := H
 obtain ⟨x346, e347, hF⟩ := zG hF
 refine zZ rfl rfl (zT en81 rfl) (F_event_each_event_checkMove_1_s p1.When v7 _ e347 _ _ _ (H.enter [] [0] (by decide) rfl)) ?_
 rintro _ w348 ⟨rfl, G349⟩
 have H := H345.step (G349.only : Only [] _ _)
 refine ⟨_, rfl, ?_⟩
 refine zI (.int .i64 x346) ?_
 refine (zD (zA (hK344 _ _ ?_)))
 obtain rfl := someI hF
 refine (yB (post1 (v1 := .int .i64 x346) rfl rfl ?_))
 exact ⟨rfl, H.pick [] (by decide)⟩
set_option maxHeartbeats 4000000 in
theorem F_event_checkRule_1_1_w (p0 : Rule) (c0 : Str) (v1 : Value) (b3 : Nat) (r : Bool) (hF : F_event_checkRule_1_1 p0 c0 = some r) (O S : List Nat) (w : World) (H : Hd O w w S [.blk b3 [.string (bs c0)] 9, .fz (.sl rCond v1 p0.When.Kids)]) :
  Calls Tryz.prog 149 ([.agg [.string (bs p0.Name), .int .i64 p0.When.Kind, .string (bs p0.When.Name), .string (bs p0.When.Other), .int .i64 p0.When.Op, .int .i64 p0.When.N, .int .i64 p0.When.Frames, v1].toArray, .pointer (some ⟨b3, 0, none⟩)] : List Value).toArray w fun e w' => e = .returned (.bool r) ∧ Hd O w w' S [.blk b3 [.string (bs c0)] 9] := by
 unfold F_event_checkRule_1_1 at hF
 refine zY 8 Tryz.func149 rfl rfl rfl ?_
 refine zC fun K5 hK5 => ?_
 refine zB ?_
 refine yZ rfl rfl (wF (cs := [.string (bs p0.Name), .int .i64 p0.When.Kind, .string (bs p0.When.Name), .string (bs p0.When.Other), .int .i64 p0.When.Op, .int .i64 p0.When.N, .int .i64 p0.When.Frames, v1]) rfl H) ?_
 rintro _ w8 ⟨b6, rfl, H⟩
 refine zI (.bool false) ?_
 refine (zD (zA (hK5 _ _ ?_)))
 refine zC fun K9 hK9 => ?_
 refine zB ?_
 refine zH (fa95_0 rfl) ?_
 refine zH (zO one9 rfl (Cells.get (Blk.cells (H.item (i := 2) rfl)) (i := 0) rfl)) ?_
 refine zH (zO one9 rfl (Cells.get (Blk.cells (H.item (i := 0) rfl)) (i := 0) rfl)) ?_
 obtain ⟨x10, e11, hF⟩ := zF hF
 refine zH (zM (xW (s1 := p0.Name) (s2 := c0) rfl rfl) e11) ?_
 refine zI (.bool x10) ?_
 refine (zD (zA (hK9 _ _ ?_)))
 obtain rfl := someI hF
 refine (yB (post1 (v1 := .bool x10) rfl rfl ?_))
 exact ⟨rfl, H.pick [0] (by decide)⟩
set_option maxHeartbeats 4000000 in
theorem F_slices_IndexFunc___api_Rule_api_Rule__event_checkRule_1_1_w (p0 : List Rule) (p1c0 : Str) (v1 : Value) (b3 : Nat) (r : Int) (hF : F_slices_IndexFunc___api_Rule_api_Rule__event_checkRule_1_1 p0 p1c0 = some r) (O S : List Nat) (w : World) (H : Hd O w w S [.blk b3 [.string (bs p1c0)] 9, .fz (.sl rRule v1 p0)]) :
  Calls Tryz.prog 194 ([v1, .func (.func 149) #[] #[.pointer (some ⟨b3, 0, none⟩)]] : List Value).toArray w fun e w' => e = .returned (.int .i64 r) ∧ Hd O w w' S [.blk b3 [.string (bs p1c0)] 9] := by
 unfold F_slices_IndexFunc___api_Rule_api_Rule__event_checkRule_1_1 at hF
 refine zY 19 Tryz.func194 rfl rfl rfl ?_
 refine zC fun K5 hK5 => ?_
 refine zB ?_
 refine zI (.int .i64 0) ?_
 refine (zD (zA (hK5 _ _ ?_)))
 obtain ⟨k130, ek131, hF⟩ := xQ hF
 refine yL [4, 5, 6, 7, 8, 9, 10, 11, 12, 13, 14, 15, 16, 17, 18] (fun (g : Unit) => []) (fun g wl => Hd O w wl S [.blk b3 [.string (bs p1c0)] 9] ∧ k130 () = some r) ?_ ?_
 ·skip
  refine zC fun K132 hK132 => ?_
  refine zB ?_
  refine zK v1 ?_
  obtain ⟨x133, e134, hF⟩ := zF hF
  obtain ⟨a135, c136, q137⟩ := SlF.len ((H.item (i := 1) rfl))
  refine zH (yN (xM u24 q137) (congrArg (Value.int .i64) e134)) ?_
  refine zK (.int .i64 0) ?_
  refine (zD (zA (hK132 _ _ ?_)))
  refine yG ?_
  unfold F_slices_IndexFunc___api_Rule_api_Rule__event_checkRule_1_1_L1 at hF
  obtain ⟨B250, n251, eB252, hF⟩ := yS hF
  refine xE [4, 5, 8, 9, 10, 11, 12, 13, 14, 15, 16, 17, 18] (fun (g : Nat × Int) => [(8, .int .i64 g.2)]) (fun g wl => Hd O w wl S [.blk b3 [.string (bs p1c0)] 9, .fz (.sl rRule v1 p0)] ∧ loopN B250 g.1 g.2 = some r) (fun g => g.1) (n251, 0) (zJ rfl zL) ⟨H.pick [0, 1] (by decide), hF⟩ ?_
  clear H hF
  rintro ⟨n251, g249⟩ ρ w254 ⟨H, hF⟩
  obtain ⟨n255, rfl, hF⟩ := yX hF
  have hF := yY eB252 hF
  refine zC fun K256 hK256 => ?_
  refine zB ?_
  obtain ⟨x257, e258, hF⟩ := zF hF
  refine zH (zM (xI (a := g249) (b := x133) rfl rfl) e258) ?_
  refine (zD (zA (hK256 _ _ ?_)))
  refine zC fun K260 hK260 => ?_
  refine yA (b := x257) rfl (fun c261 => ?_) (fun c261 => ?_)
  ·have hF := zQ c261 hF
   refine (zX (zA (hK260 _ _ ?_)))
   refine zC fun K285 hK285 => ?_
   refine yG ?_
   refine zC fun K286 hK286 => ?_
   refine zB ?_
   refine zK (.int .i64 g249) ?_
   refine zI (.int .i64 g249) ?_
   refine (zD (zA (hK286 _ _ ?_)))
   refine zC fun K287 hK287 => ?_
   refine zB ?_
   refine zK (.func (.func 149) #[] #[.pointer (some ⟨b3, 0, none⟩)]) ?_
   refine zK v1 ?_
   refine zK (.int .i64 g249) ?_
   obtain ⟨x288, e289, hF⟩ := zG hF
   obtain ⟨b290, o291, c292, cs293, q294, h297, h295, h296, h298⟩ := rd_at (H.item (i := 1) rfl) e289
   obtain ⟨v299, rfl, h300⟩ := rRule_open h297
   have H := H.fzs [.at b290 (o291 + g249.toNat * 8) _, .sl rCond v299 x288.When.Kids] ⟨⟨h295, h296, h298⟩, h300, trivial⟩
   refine zH (wC u24 sz95 q294 rfl (yP e289).1 (yP e289).2.1 rfl rfl) ?_
   refine zH (yN (yJ (cs := [.string (bs x288.Name), .int .i64 x288.When.Kind, .string (bs x288.When.Name), .string (bs x288.When.Other), .int .i64 x288.When.Op, .int .i64 x288.When.N, .int .i64 x288.When.Frames, v299]) agg95 rfl sz95 rfl (H.item (i := 2) rfl).2.2) rfl) ?_
   obtain ⟨x303, e304, hF⟩ := zG hF
   refine zZ rfl rfl (DoC_clo en149 rfl rfl) (F_event_checkRule_1_1_w x288 p1c0 v299 b3 _ e304 _ _ _ (H.enter [0] [3] (by decide) rfl)) ?_
   rintro _ w305 ⟨rfl, G306⟩
   have H : Hd O _ w305 _ [.fz (.sl rRule v1 p0), .fz (.at b290 (o291 + g249.toNat * 8) [.string (bs x288.Name), .int .i64 x288.When.Kind, .string (bs x288.When.Name), .string (bs x288.When.Other), .int .i64 x288.When.Op, .int .i64 x288.When.N, .int .i64 x288.When.Frames, v299]), .fz (.sl rCond v299 x288.When.Kids), .blk b3 [.string (bs p1c0)] 9] := H.back [0] [3] rfl G306
   refine ⟨_, rfl, ?_⟩
   refine (zD (zA (hK287 _ _ ?_)))
   refine yA (b := x303) rfl (fun c307 => ?_) (fun c307 => ?_)
   ·have hF := zQ c307 hF
    refine zC fun K308 hK308 => ?_
    refine zB ?_
    refine zK (.int .i64 g249) ?_
    refine zI (.int .i64 g249) ?_
    refine (zD (zA (hK308 _ _ ?_)))
    obtain rfl := someI hF
    refine (yB (yE (zW (zW (yE (zW (post1 (v1 := .int .i64 g249) rfl rfl ?_)))))))
    exact ⟨rfl, H.pick [3] (by decide)⟩
   have hF := zS c307 hF
   refine (zX (yT (zA (hK285 _ _ ?_))))
   refine zB ?_
   obtain ⟨x309, e310, hF⟩ := zF hF
   refine zH (xP (a := g249) (b := 1) rfl rfl e310) ?_
   refine zK (.int .i64 x309) ?_
   exact (zD (zA (meet ⟨(n255, x309), (zJ rfl zL), ⟨H.pick [3, 0] (by decide), hF⟩, Nat.lt_succ_self _⟩)))
  have hF := zS c261 hF
  exact (xJ (yO (yO (xB (zA (meet ⟨(), zL, ⟨H.pick [0] (by decide), hF⟩⟩))))))
 rintro _ ρ w129 ⟨H, hF⟩
 have hF := wB ek131 hF
 refine zC fun K311 hK311 => ?_
 refine zB ?_
 refine zI (.int .i64 (-1)) ?_
 refine (zD (zA (hK311 _ _ ?_)))
 obtain rfl := someI hF
 refine (yB (post1 (v1 := .int .i64 (-1)) rfl rfl ?_))
 exact ⟨rfl, H.pick [0] (by decide)⟩
set_option maxHeartbeats 4000000 in
theorem F_slices_ContainsFunc___api_Rule_api_Rule__event_checkRule_1_1_w (p0 : List Rule) (p1c0 : Str) (v1 : Value) (b3 : Nat) (r : Bool) (hF : F_slices_ContainsFunc___api_Rule_api_Rule__event_checkRule_1_1 p0 p1c0 = some r) (O S : List Nat) (w : World) (H : Hd O w w S [.blk b3 [.string (bs p1c0)] 9, .fz (.sl rRule v1 p0)]) :
  Calls Tryz.prog 148 ([v1, .func (.func 149) #[] #[.pointer (some ⟨b3, 0, none⟩)]] : List Value).toArray w fun e w' => e = .returned (.bool r) ∧ Hd O w w' S [.blk b3 [.string (bs p1c0)] 9] := by
 unfold F_slices_ContainsFunc___api_Rule_api_Rule__event_checkRule_1_1 at hF
 refine zY 9 Tryz.func148 rfl rfl rfl ?_
 refine zC fun K5 hK5 => ?_
 refine zB ?_
 refine zI (.bool false) ?_
 refine (zD (zA (hK5 _ _ ?_)))
 refine zC fun K6 hK6 => ?_
 refine zB ?_
 refine zK v1 ?_
 refine zK (.func (.func 149) #[] #[.pointer (some ⟨b3, 0, none⟩)]) ?_
 obtain ⟨x7, e8, hF⟩ := zG hF
 refine zZ rfl rfl (zT en194 rfl) (F_slices_IndexFunc___api_Rule_api_Rule__event_checkRule_1_1_w p0 p1c0 v1 b3 _ e8 _ _ _ (H.enter [0] [1] (by decide) rfl)) ?_
 rintro _ w9 ⟨rfl, G10⟩
 have H : Hd O _ w9 _ [.fz (.sl rRule v1 p0), .blk b3 [.string (bs p1c0)] 9] := H.back [0] [1] rfl G10
 refine ⟨_, rfl, ?_⟩
 obtain ⟨x11, e12, hF⟩ := zF hF
 refine zH (zM (Do_geq (a := x7) (b := 0) rfl rfl) e12) ?_
 refine zI (.bool x11) ?_
 refine (zD (zA (hK6 _ _ ?_)))
 obtain rfl := someI hF
 refine (yB (post1 (v1 := .bool x11) rfl rfl ?_))
 exact ⟨rfl, H.pick [1] (by decide)⟩
set_option maxHeartbeats 4000000 in
theorem F_event_checkRule_1_w (p0 : Str) (c0 : Rules) (c1 : Int) (b1 : Nat) (v2 : Value) (v3 : Value) (v4 : Value) (b9 : Nat) (r : Bool) (hF : F_event_checkRule_1 p0 c0 c1 = some r) (O S : List Nat) (w : World) (H : Hd O w w S [.blk b1 [v2, v3, v4] 26, .blk b9 [.int .i64 c1] 3, .fz (.sl Rp.str v2 c0.Phases), .fz (.sl rMoveT v3 c0.Moves), .fz (.sl rRule v4 c0.Rules)]) :
  Calls Tryz.prog 147 ([.string (bs p0), .pointer (some ⟨b1, 0, none⟩), .pointer (some ⟨b9, 0, none⟩)] : List Value).toArray w fun e w' => e = .returned (.bool r) ∧ Hd O w w' S [.blk b1 [v2, v3, v4] 26, .blk b9 [.int .i64 c1] 3] := by
 unfold F_event_checkRule_1 at hF
 refine zY 11 Tryz.func147 rfl rfl rfl ?_
 refine zC fun K11 hK11 => ?_
 refine zB ?_
 refine yZ rfl rfl (Lx_box1 rfl rfl H) ?_
 rintro _ w14 ⟨b12, rfl, H⟩
 refine zI (.bool false) ?_
 refine (zD (zA (hK11 _ _ ?_)))
 refine zC fun K15 hK15 => ?_
 refine zB ?_
 refine zH (fa26_2 rfl) ?_
 refine zH (zO one24 rfl (Cells.get (Blk.cells (H.item (i := 0) rfl)) (i := 2) rfl)) ?_
 refine zH (zO one3 rfl (Cells.get (Blk.cells (H.item (i := 1) rfl)) (i := 0) rfl)) ?_
 obtain ⟨x16, e17, hF⟩ := zG hF
 refine RL_exP rfl rfl (Lx_slice_h u24 sz95 (H.item (i := 4) rfl) rfl rfl e17) ?_
 rintro v18 h19
 have H := H.fz (.sl rRule v18 x16) h19
 refine zH (Do_makeFunc rfl) ?_
 obtain ⟨x21, e22, hF⟩ := zG hF
 refine zZ rfl rfl (zT en148 rfl) (F_slices_ContainsFunc___api_Rule_api_Rule__event_checkRule_1_1_w x16 p0 v18 b12 _ e22 _ _ _ (H.enter [5] [6] (by decide) rfl)) ?_
 rintro _ w23 ⟨rfl, G24⟩
 have H : Hd O _ w23 _ [.blk b1 [v2, v3, v4] 26, .blk b9 [.int .i64 c1] 3, .fz (.sl Rp.str v2 c0.Phases), .fz (.sl rMoveT v3 c0.Moves), .fz (.sl rRule v4 c0.Rules), .fz (.sl rRule v18 x16), .blk b12 [.string (bs p0)] 9] := H.back [5] [6] rfl G24
 refine ⟨_, rfl, ?_⟩
 refine zI (.bool x21) ?_
 refine (zD (zA (hK15 _ _ ?_)))
 obtain rfl := someI hF
 refine (yB (post1 (v1 := .bool x21) rfl rfl ?_))
 exact ⟨rfl, H.pick [0, 1] (by decide)⟩
set_option maxHeartbeats 4000000 in
theorem F_event_checkRule_2_dfevent_checkRule_1_a0de_w (p0 : Cond) (c0 : Rules) (c1f1 : Int) (v1 : Value) (b3 : Nat) (v4 : Value) (v5 : Value) (v6 : Value) (b11 : Nat) (b13 : Nat) (r : Int) (hF : F_event_checkRule_2_dfevent_checkRule_1_a0de p0 c0 c1f1 = some r) (O S : List Nat) (w : World) (H : Hd O w w S [.blk b3 [v4, v5, v6] 26, .blk b13 [.int .i64 c1f1] 3, .blk b11 [.func (.func 147) #[] #[.pointer (some ⟨b3, 0, none⟩), .pointer (some ⟨b13, 0, none⟩)]] 48, .fz (.sl rCond v1 p0.Kids), .fz (.sl Rp.str v4 c0.Phases), .fz (.sl rMoveT v5 c0.Moves), .fz (.sl rRule v6 c0.Rules)]) :
  Calls Tryz.prog 150 ([.agg [.int .i64 p0.Kind, .string (bs p0.Name), .string (bs p0.Other), .int .i64 p0.Op, .int .i64 p0.N, .int .i64 p0.Frames, v1].toArray, .pointer (some ⟨b3, 0, none⟩), .pointer (some ⟨b11, 0, none⟩)] : List Value).toArray w fun e w' => e = .returned (.int .i64 r) ∧ Hd O w w' S [.blk b3 [v4, v5, v6] 26, .blk b13 [.int .i64 c1f1] 3, .blk b11 [.func (.func 147) #[] #[.pointer (some ⟨b3, 0, none⟩), .pointer (some ⟨b13, 0, none⟩)]] 48] := by
 unfold F_event_checkRule_2_dfevent_checkRule_1_a0de at hF
 refine zY 28 Tryz.func150 rfl rfl rfl ?_
 refine zC fun K15 hK15 => ?_
 refine zB ?_
 refine yZ rfl rfl (wF (cs := [.int .i64 p0.Kind, .string (bs p0.Name), .string (bs p0.Other), .int .i64 p0.Op, .int .i64 p0.N, .int .i64 p0.Frames, v1]) rfl H) ?_
 rintro _ w18 ⟨b16, rfl, H⟩
 refine zI (.int .i64 0) ?_
 refine (zD (zA (hK15 _ _ ?_)))
 refine zC fun K47 hK47 => ?_
 obtain ⟨g71, hF, hK73⟩ := zG hF
 refine yL [5, 6, 7, 8, 9, 10, 11, 12, 13, 14, 15, 16, 17, 18, 19, 20, 21, 22, 23, 24, 25, 26, 27] (fun (g : Unit) => [(27, .bool g71)]) (fun g wl => Hd O w wl S [.blk b3 [v4, v5, v6] 26, .fz (.sl Rp.str v4 c0.Phases), .fz (.sl rMoveT v5 c0.Moves), .fz (.sl rRule v6 c0.Rules), .blk b13 [.int .i64 c1f1] 3, .blk b11 [.func (.func 147) #[] #[.pointer (some ⟨b3, 0, none⟩), .pointer (some ⟨b13, 0, none⟩)]] 48]) ?_ ?_
 ·skip
  refine zB ?_
  refine zH (fa70_0 rfl) ?_
  refine zH (zO one3 rfl (Cells.get (Blk.cells (H.item (i := 7) rfl)) (i := 0) rfl)) ?_
  obtain ⟨x74, e75, hF⟩ := zF hF
  refine zH (zM (yR (a := p0.Kind) (b := 6) rfl rfl) e75) ?_
  obtain ⟨j76, hF, hK77⟩ := zG hF
  refine RL_cutS 8 [8, 9, 10, 11, 12, 13, 14, 15] [(15, .bool j76)] (fun wl => Hd O w wl S [.blk b3 [v4, v5, v6] 26, .blk b13 [.int .i64 c1f1] 3, .blk b11 [.func (.func 147) #[] #[.pointer (some ⟨b3, 0, none⟩), .pointer (some ⟨b13, 0, none⟩)]] 48, .fz (.sl rCond v1 p0.Kids), .fz (.sl Rp.str v4 c0.Phases), .fz (.sl rMoveT v5 c0.Moves), .fz (.sl rRule v6 c0.Rules), .blk b16 [.int .i64 p0.Kind, .string (bs p0.Name), .string (bs p0.Other), .int .i64 p0.Op, .int .i64 p0.N, .int .i64 p0.Frames, v1] 70]) ?_ ?_
  ·skip
   refine yK (b := x74) rfl rfl rfl (fun c79 => ?_) (fun c79 => ?_)
   ·have hF := zQ c79 hF
    refine zH (fa26_0 rfl) ?_
    refine zH (zO one22 rfl (Cells.get (Blk.cells (H.item (i := 0) rfl)) (i := 0) rfl)) ?_
    refine zH (fa70_1 rfl) ?_
    refine zH (zO one9 rfl (Cells.get (Blk.cells (H.item (i := 7) rfl)) (i := 1) rfl)) ?_
    have H80 := H
    obtain ⟨x81, e82, hF⟩ := zG hF
    refine zZ rfl rfl (zT en87 rfl) (F_slices_Contains___string_string__w c0.Phases p0.Name v4 _ e82 _ _ _ (H.enter [] [4] (by decide) rfl)) ?_
    rintro _ w83 ⟨rfl, G84⟩
    have H := H80.step (G84.only : Only [] _ _)
    refine ⟨_, rfl, ?_⟩
    obtain ⟨x85, e86, hF⟩ := zF hF
    refine zH (zM (wJ (p := x81) rfl) e86) ?_
    refine zH (yI (v := .bool x85) rfl rfl) ?_
    obtain rfl := someI hF
    exact zD (zA (meet ⟨(zJ rfl zL), H.pick [0, 1, 2, 3, 4, 5, 6, 7] (by decide)⟩))
   have hF := zS c79 hF
   refine yC ?_
   refine yC ?_
   refine yC ?_
   refine yC ?_
   refine yC ?_
   refine yC ?_
   refine zH (yF (v := .bool false) rfl rfl) ?_
   obtain rfl := someI hF
   exact zD (zA (meet ⟨(zJ rfl zL), H.pick [0, 1, 2, 3, 4, 5, 6, 7] (by decide)⟩))
  rintro ρ w78 H
  have hF := hK77
  refine yK (b := j76) rfl rfl rfl (fun c87 => ?_) (fun c87 => ?_)
  ·have hF := zQ c87 hF
   refine yC ?_
   refine yC ?_
   refine yC ?_
   refine yC ?_
   refine yC ?_
   refine yC ?_
   refine yC ?_
   refine yC ?_
   refine yC ?_
   refine yC ?_
   refine zH (yI (v := .bool true) rfl rfl) ?_
   obtain rfl := someI hF
   exact (zD (zA (meet ⟨(), (zJ rfl zL), H.pick [0, 4, 5, 6, 1, 2] (by decide)⟩)))
  have hF := zS c87 hF
  refine zH (fa70_0 rfl) ?_
  refine zH (zO one3 rfl (Cells.get (Blk.cells (H.item (i := 7) rfl)) (i := 0) rfl)) ?_
  obtain ⟨x88, e89, hF⟩ := zF hF
  refine zH (zM (yR (a := p0.Kind) (b := 7) rfl rfl) e89) ?_
  refine yK (b := x88) rfl rfl rfl (fun c90 => ?_) (fun c90 => ?_)
  ·have hF := zQ c90 hF
   refine zH (zO one48 rfl (Cells.get (Blk.cells (H.item (i := 2) rfl)) (i := 0) rfl)) ?_
   refine zH (fa70_1 rfl) ?_
   refine zH (zO one9 rfl (Cells.get (Blk.cells (H.item (i := 7) rfl)) (i := 1) rfl)) ?_
   obtain ⟨x91, e92, hF⟩ := zG hF
   refine zZ rfl rfl (DoC_clo en147 rfl rfl) (F_event_checkRule_1_w p0.Name c0 c1f1 b3 v4 v5 v6 b13 _ e92 _ _ _ (H.enter [0, 1] [4, 5, 6] (by decide) rfl)) ?_
   rintro _ w93 ⟨rfl, G94⟩
   have H : Hd O _ w93 _ [.blk b11 [.func (.func 147) #[] #[.pointer (some ⟨b3, 0, none⟩), .pointer (some ⟨b13, 0, none⟩)]] 48, .fz (.sl rCond v1 p0.Kids), .fz (.sl Rp.str v4 c0.Phases), .fz (.sl rMoveT v5 c0.Moves), .fz (.sl rRule v6 c0.Rules), .blk b16 [.int .i64 p0.Kind, .string (bs p0.Name), .string (bs p0.Other), .int .i64 p0.Op, .int .i64 p0.N, .int .i64 p0.Frames, v1] 70, .blk b3 [v4, v5, v6] 26, .blk b13 [.int .i64 c1f1] 3] := H.back [0, 1] [4, 5, 6] rfl G94
   refine ⟨_, rfl, ?_⟩
   obtain ⟨x95, e96, hF⟩ := zF hF
   refine zH (zM (wJ (p := x91) rfl) e96) ?_
   refine zH (yI (v := .bool x95) rfl rfl) ?_
   refine zH (yF (v := .bool x95) rfl rfl) ?_
   obtain rfl := someI hF
   exact (zD (zA (meet ⟨(), (zJ rfl zL), H.pick [6, 2, 3, 4, 7, 0] (by decide)⟩)))
  have hF := zS c90 hF
  refine yC ?_
  refine yC ?_
  refine yC ?_
  refine yC ?_
  refine yC ?_
  refine zH (yF (v := .bool false) rfl rfl) ?_
  refine zH (yF (v := .bool false) rfl rfl) ?_
  obtain rfl := someI hF
  exact (zD (zA (meet ⟨(), (zJ rfl zL), H.pick [0, 4, 5, 6, 1, 2] (by decide)⟩)))
 rintro _ ρ w72 H
 have hF := hK73
 refine yA (b := g71) rfl (fun c97 => ?_) (fun c97 => ?_)
 ·have hF := zQ c97 hF
  refine zC fun K98 hK98 => ?_
  refine zB ?_
  refine zI (.int .i64 4) ?_
  refine (zD (zA (hK98 _ _ ?_)))
  obtain rfl := someI hF
  refine (yB (zW (post1 (v1 := .int .i64 4) rfl rfl ?_)))
  exact ⟨rfl, H.pick [0, 4, 5] (by decide)⟩
 have hF := zS c97 hF
 refine (zX (zA (hK47 _ _ ?_)))
 refine zC fun K99 hK99 => ?_
 refine zB ?_
 refine zI (.int .i64 0) ?_
 refine (zD (zA (hK99 _ _ ?_)))
 obtain rfl := someI hF
 refine (yB (post1 (v1 := .int .i64 0) rfl rfl ?_))
 exact ⟨rfl, H.pick [0, 4, 5] (by decide)⟩
abbrev S_event_each_event_checkRule_2_dfevent_checkRule_1_a0de (f : Cond → Rules → Int → Option Int) : Prop := ∀ (p0 : Cond) (p1c0 : Rules) (p1c1f1 : Int) (v1 : Value) (b3 : Nat) (v4 : Value) (v5 : Value) (v6 : Value) (b11 : Nat) (b13 : Nat) (r : Int) (_ : f p0 p1c0 p1c1f1 = some r) (O S : List Nat) (w : World) (_ : Hd O w w S [.blk b3 [v4, v5, v6] 26, .blk b13 [.int .i64 p1c1f1] 3, .blk b11 [.func (.func 147) #[] #[.pointer (some ⟨b3, 0, none⟩), .pointer (some ⟨b13, 0, none⟩)]] 48, .fz (.sl rCond v1 p0.Kids), .fz (.sl Rp.str v4 p1c0.Phases), .fz (.sl rMoveT v5 p1c0.Moves), .fz (.sl rRule v6 p1c0.Rules)]),
  Calls Tryz.prog 81 ([.agg [.int .i64 p0.Kind, .string (bs p0.Name), .string (bs p0.Other), .int .i64 p0.Op, .int .i64 p0.N, .int .i64 p0.Frames, v1].toArray, .func (.func 150) #[] #[.pointer (some ⟨b3, 0, none⟩), .pointer (some ⟨b11, 0, none⟩)]] : List Value).toArray w fun e w' => e = .returned (.int .i64 r) ∧ Hd O w w' S [.blk b3 [v4, v5, v6] 26, .blk b13 [.int .i64 p1c1f1] 3, .blk b11 [.func (.func 147) #[] #[.pointer (some ⟨b3, 0, none⟩), .pointer (some ⟨b13, 0, none⟩)]] 48]
set_option maxHeartbeats 4000000 in
theorem F_event_each_event_checkRule_2_dfevent_checkRule_1_a0de_B_w (rfI : Cond → Rules → Int → Option Int) (rhI : S_event_each_event_checkRule_2_dfevent_checkRule_1_a0de rfI) (p0 : Cond) (p1c0 : Rules) (p1c1f1 : Int) (v1 : Value) (b3 : Nat) (v4 : Value) (v5 : Value) (v6 : Value) (b11 : Nat) (b13 : Nat) (r : Int) (hF : F_event_each_event_checkRule_2_dfevent_checkRule_1_a0de_B rfI p0 p1c0 p1c1f1 = some r) (O S : List Nat) (w : World) (H : Hd O w w S [.blk b3 [v4, v5, v6] 26, .blk b13 [.int .i64 p1c1f1] 3, .blk b11 [.func (.func 147) #[] #[.pointer (some ⟨b3, 0, none⟩), .pointer (some ⟨b13, 0, none⟩)]] 48, .fz (.sl rCond v1 p0.Kids), .fz (.sl Rp.str v4 p1c0.Phases), .fz (.sl rMoveT v5 p1c0.Moves), .fz (.sl rRule v6 p1c0.Rules)]) :
  Calls Tryz.prog 81 ([.agg [.int .i64 p0.Kind, .string (bs p0.Name), .string (bs p0.Other), .int .i64 p0.Op, .int .i64 p0.N, .int .i64 p0.Frames, v1].toArray, .func (.func 150) #[] #[.pointer (some ⟨b3, 0, none⟩), .pointer (some ⟨b11, 0, none⟩)]] : List Value).toArray w fun e w' => e = .returned (.int .i64 r) ∧ Hd O w w' S [.blk b3 [v4, v5, v6] 26, .blk b13 [.int .i64 p1c1f1] 3, .blk b11 [.func (.func 147) #[] #[.pointer (some ⟨b3, 0, none⟩), .pointer (some ⟨b13, 0, none⟩)]] 48] := by
 unfold F_event_each_event_checkRule_2_dfevent_checkRule_1_a0de_B at hF
 refine zY 29 Tryz.func81 rfl rfl rfl ?_
 refine zC fun K15 hK15 => ?_
 refine zB ?_
 refine yZ rfl rfl (wF (cs := [.int .i64 p0.Kind, .string (bs p0.Name), .string (bs p0.Other), .int .i64 p0.Op, .int .i64 p0.N, .int .i64 p0.Frames, v1]) rfl H) ?_
 rintro _ w18 ⟨b16, rfl, H⟩
 refine zI (.int .i64 0) ?_
 refine (zD (zA (hK15 _ _ ?_)))
 refine zC fun K29 hK29 => ?_
 refine zC fun K30 hK30 => ?_
 refine zB ?_
 refine zK (.func (.func 150) #[] #[.pointer (some ⟨b3, 0, none⟩), .pointer (some ⟨b11, 0, none⟩)]) ?_
 refine zH (yN (yJ (cs := [.int .i64 p0.Kind, .string (bs p0.Name), .string (bs p0.Other), .int .i64 p0.Op, .int .i64 p0.N, .int .i64 p0.Frames, v1]) agg70 rfl sz70 rfl (Blk.cells (H.item (i := 7) rfl))) rfl) ?_
 obtain ⟨x31, e32, hF⟩ := zG hF
 refine zZ rfl rfl (DoC_clo en150 rfl rfl) (F_event_checkRule_2_dfevent_checkRule_1_a0de_w p0 p1c0 p1c1f1 v1 b3 v4 v5 v6 b11 b13 _ e32 _ _ _ (H.enter [0, 1, 2] [3, 4, 5, 6] (by decide) rfl)) ?_
 rintro _ w33 ⟨rfl, G34⟩
 have H : Hd O _ w33 _ [.fz (.sl rCond v1 p0.Kids), .fz (.sl Rp.str v4 p1c0.Phases), .fz (.sl rMoveT v5 p1c0.Moves), .fz (.sl rRule v6 p1c0.Rules), .blk b16 [.int .i64 p0.Kind, .string (bs p0.Name), .string (bs p0.Other), .int .i64 p0.Op, .int .i64 p0.N, .int .i64 p0.Frames, v1] 70, .blk b3 [v4, v5, v6] 26, .blk b13 [.int .i64 p1c1f1] 3, .blk b11 [.func (.func 147) #[] #[.pointer (some ⟨b3, 0, none⟩), .pointer (some ⟨b13, 0, none⟩)]] 48] := H.back [0, 1, 2] [3, 4, 5, 6] rfl G34
 refine ⟨_, rfl, ?_⟩
 refine zI (.int .i64 x31) ?_
 refine (zD (zA (hK30 _ _ ?_)))
 refine zC fun K35 hK35 => ?_
 refine zB ?_
 refine zK (.int .i64 x31) ?_
 obtain ⟨x36, e37, hF⟩ := zF hF
 refine zH (zM (Do_neq (a := x31) (b := 0) rfl rfl) e37) ?_
 refine (zD (zA (hK35 _ _ ?_)))
 refine yA (b := x36) rfl (fun c38 => ?_) (fun c38 => ?_)
 ·have hF := zQ c38 hF
  refine zC fun K39 hK39 => ?_
  refine zB ?_
  refine zK (.int .i64 x31) ?_
  refine zI (.int .i64 x31) ?_
  refine (zD (zA (hK39 _ _ ?_)))
  obtain rfl := someI hF
  refine (yB (zW (post1 (v1 := .int .i64 x31) rfl rfl ?_)))
  exact ⟨rfl, H.pick [5, 6, 7] (by decide)⟩
 have hF := zS c38 hF
 refine (zX (zA (hK29 _ _ ?_)))
 obtain ⟨k192, ek193, hF⟩ := xQ hF
 refine yL [4, 7, 8, 15, 16, 17, 18, 19, 20, 21, 22, 23, 24, 25, 26, 27, 28] (fun (g : Unit) => []) (fun g wl => Hd O w wl S [.fz (.sl Rp.str v4 p1c0.Phases), .fz (.sl rMoveT v5 p1c0.Moves), .fz (.sl rRule v6 p1c0.Rules), .blk b3 [v4, v5, v6] 26, .blk b13 [.int .i64 p1c1f1] 3, .blk b11 [.func (.func 147) #[] #[.pointer (some ⟨b3, 0, none⟩), .pointer (some ⟨b13, 0, none⟩)]] 48] ∧ k192 () = some r) ?_ ?_
 ·skip
  refine zC fun K194 hK194 => ?_
  refine zB ?_
  refine zH (fa70_6 rfl) ?_
  refine zH (zO one68 rfl (Cells.get (Blk.cells (H.item (i := 4) rfl)) (i := 6) rfl)) ?_
  obtain ⟨x195, e196, hF⟩ := zF hF
  obtain ⟨a197, c198, q199⟩ := SlF.len ((H.item (i := 0) rfl))
  refine zH (yN (xM u68 q199) (congrArg (Value.int .i64) e196)) ?_
  refine zK (.int .i64 0) ?_
  refine (zD (zA (hK194 _ _ ?_)))
  refine yG ?_
  unfold F_event_each_event_checkRule_2_dfevent_checkRule_1_a0de_B_L1 at hF
  obtain ⟨B340, n341, eB342, hF⟩ := yS hF
  refine xE [4, 7, 8, 18, 19, 20, 21, 22, 23, 24, 25, 26, 27, 28] (fun (g : Nat × Int) => [(18, .int .i64 g.2)]) (fun g wl => Hd O w wl S [.fz (.sl rCond v1 p0.Kids), .fz (.sl Rp.str v4 p1c0.Phases), .fz (.sl rMoveT v5 p1c0.Moves), .fz (.sl rRule v6 p1c0.Rules), .blk b3 [v4, v5, v6] 26, .blk b13 [.int .i64 p1c1f1] 3, .blk b11 [.func (.func 147) #[] #[.pointer (some ⟨b3, 0, none⟩), .pointer (some ⟨b13, 0, none⟩)]] 48] ∧ loopN B340 g.1 g.2 = some r) (fun g => g.1) (n341, 0) (zJ rfl zL) ⟨H.pick [0, 1, 2, 3, 5, 6, 7] (by decide), hF⟩ ?_
  clear H hF
  rintro ⟨n341, g339⟩ ρ w344 ⟨H, hF⟩
  obtain ⟨n345, rfl, hF⟩ := yX hF
  have hF := yY eB342 hF
  refine zC fun K346 hK346 => ?_
  refine zB ?_
  obtain ⟨x347, e348, hF⟩ := zF hF
  refine zH (zM (xI (a := g339) (b := x195) rfl rfl) e348) ?_
  refine (zD (zA (hK346 _ _ ?_)))
  refine zC fun K350 hK350 => ?_
  refine yA (b := x347) rfl (fun c351 => ?_) (fun c351 => ?_)
  ·have hF := zQ c351 hF
   refine (zX (zA (hK350 _ _ ?_)))
   refine zC fun K382 hK382 => ?_
   refine yG ?_
   refine zC fun K383 hK383 => ?_
   refine zB ?_
   obtain ⟨x384, e385, hF⟩ := zG hF
   obtain ⟨b386, o387, c388, cs389, q390, h393, h391, h392, h394⟩ := rd_at (H.item (i := 0) rfl) e385
   obtain ⟨v395, rfl, h396⟩ := wI h393
   have H := H.fzs [.at b386 (o387 + g339.toNat * 7) _, .sl rCond v395 x384.Kids] ⟨⟨h391, h392, h394⟩, h396, trivial⟩
   refine zH (wC u68 sz70 q390 rfl (yP e385).1 (yP e385).2.1 rfl rfl) ?_
   refine zH (yN (yJ (cs := [.int .i64 x384.Kind, .string (bs x384.Name), .string (bs x384.Other), .int .i64 x384.Op, .int .i64 x384.N, .int .i64 x384.Frames, v395]) agg70 rfl sz70 rfl (H.item (i := 7) rfl).2.2) rfl) ?_
   refine yZ rfl rfl (xN zero70 H) ?_
   rintro _ w401 ⟨b399, rfl, H⟩
   refine xH rfl (xC (vs := [.int .i64 x384.Kind, .string (bs x384.Name), .string (bs x384.Other), .int .i64 x384.Op, .int .i64 x384.N, .int .i64 x384.Frames, v395]) H 9 rfl sz70 rfl rfl rfl ⟨rfl, rfl, rfl, rfl, rfl, rfl, (slf_one (H.item (i := 8) rfl)), trivial⟩ rfl) ?_
   rintro w402 H
   refine (zD (zA (hK383 _ _ ?_)))
   refine zC fun K403 hK403 => ?_
   refine zB ?_
   refine zH (yN (yJ (cs := [.int .i64 x384.Kind, .string (bs x384.Name), .string (bs x384.Other), .int .i64 x384.Op, .int .i64 x384.N, .int .i64 x384.Frames, v395]) agg70 rfl sz70 rfl (Blk.cells (H.item (i := 9) rfl))) rfl) ?_
   refine zK (.func (.func 150) #[] #[.pointer (some ⟨b3, 0, none⟩), .pointer (some ⟨b11, 0, none⟩)]) ?_
   obtain ⟨x404, e405, hF⟩ := zG hF
   refine zZ rfl rfl (zT en81 rfl) (rhI x384 p1c0 p1c1f1 v395 b3 v4 v5 v6 b11 b13 _ e405 _ _ _ (H.enter [4, 5, 6] [8, 1, 2, 3] (by decide) rfl)) ?_
   rintro _ w406 ⟨rfl, G407⟩
   have H : Hd O _ w406 _ [.fz (.sl rCond v1 p0.Kids), .fz (.sl Rp.str v4 p1c0.Phases), .fz (.sl rMoveT v5 p1c0.Moves), .fz (.sl rRule v6 p1c0.Rules), .fz (.at b386 (o387 + g339.toNat * 7) [.int .i64 x384.Kind, .string (bs x384.Name), .string (bs x384.Other), .int .i64 x384.Op, .int .i64 x384.N, .int .i64 x384.Frames, v395]), .fz (.sl rCond v395 x384.Kids), .blk b399 [.int .i64 x384.Kind, .string (bs x384.Name), .string (bs x384.Other), .int .i64 x384.Op, .int .i64 x384.N, .int .i64 x384.Frames, v395] 70, .blk b3 [v4, v5, v6] 26, .blk b13 [.int .i64 p1c1f1] 3, .blk b11 [.func (.func 147) #[] #[.pointer (some ⟨b3, 0, none⟩), .pointer (some ⟨b13, 0, none⟩)]] 48] := H.back [4, 5, 6] [8, 1, 2, 3] rfl G407
   refine ⟨_, rfl, ?_⟩
   refine zI (.int .i64 x404) ?_
   refine (zD (zA (hK403 _ _ ?_)))
   refine zC fun K408 hK408 => ?_
   refine zB ?_
   refine zK (.int .i64 x404) ?_
   obtain ⟨x409, e410, hF⟩ := zF hF
   refine zH (zM (Do_neq (a := x404) (b := 0) rfl rfl) e410) ?_
   refine (zD (zA (hK408 _ _ ?_)))
   refine yA (b := x409) rfl (fun c411 => ?_) (fun c411 => ?_)
   ·have hF := zQ c411 hF
    refine zC fun K412 hK412 => ?_
    refine zB ?_
    refine zK (.int .i64 x404) ?_
    refine zI (.int .i64 x404) ?_
    refine (zD (zA (hK412 _ _ ?_)))
    obtain rfl := someI hF
    refine (yB (yE (zW (zW (yE (zW (post1 (v1 := .int .i64 x404) rfl rfl ?_)))))))
    exact ⟨rfl, H.pick [7, 8, 9] (by decide)⟩
   have hF := zS c411 hF
   refine (zX (yT (zA (hK382 _ _ ?_))))
   refine zB ?_
   obtain ⟨x413, e414, hF⟩ := zF hF
   refine zH (xP (a := g339) (b := 1) rfl rfl e414) ?_
   refine zK (.int .i64 x413) ?_
   exact (zD (zA (meet ⟨(n345, x413), (zJ rfl zL), ⟨H.pick [0, 1, 2, 3, 7, 8, 9] (by decide), hF⟩, Nat.lt_succ_self _⟩)))
  have hF := zS c351 hF
  exact (xJ (yO (yO (xB (zA (meet ⟨(), zL, ⟨H.pick [1, 2, 3, 4, 5, 6] (by decide), hF⟩⟩))))))
 rintro _ ρ w191 ⟨H, hF⟩
 have hF := wB ek193 hF
 refine zC fun K415 hK415 => ?_
 refine zB ?_
 refine zI (.int .i64 0) ?_
 refine (zD (zA (hK415 _ _ ?_)))
 obtain rfl := someI hF
 refine (yB (post1 (v1 := .int .i64 0) rfl rfl ?_))
 exact ⟨rfl, H.pick [3, 4, 5] (by decide)⟩
theorem F_event_each_event_checkRule_2_dfevent_checkRule_1_a0de_s : S_event_each_event_checkRule_2_dfevent_checkRule_1_a0de (F_event_each_event_checkRule_2_dfevent_checkRule_1_a0de) := by
 have h : ∀ n, S_event_each_event_checkRule_2_dfevent_checkRule_1_a0de (F_event_each_event_checkRule_2_dfevent_checkRule_1_a0de_R n) := by
  intro n
  induction n with
  | zero => intro p0 p1c0 p1c1f1 v1 b3 v4 v5 v6 b11 b13 r hF; cases hF
  | succ n ih => intro p0 p1c0 p1c1f1 v1 b3 v4 v5 v6 b11 b13 r hF; exact F_event_each_event_checkRule_2_dfevent_checkRule_1_a0de_B_w (F_event_each_event_checkRule_2_dfevent_checkRule_1_a0de_R n) ih p0 p1c0 p1c1f1 v1 b3 v4 v5 v6 b11 b13 r hF
 exact h FU
set_option maxHeartbeats 4000000 in
theorem F_event_checkRule_w (p0 : Rules) (p1 : Int) (v1 : Value) (v2 : Value) (v3 : Value) (r : Int) (hF : F_event_checkRule p0 p1 = some r) (O S : List Nat) (w : World) (H : Hd O w w S [.fz (.sl Rp.str v1 p0.Phases), .fz (.sl rMoveT v2 p0.Moves), .fz (.sl rRule v3 p0.Rules)]) :
  Calls Tryz.prog 89 ([.agg [v1, v2, v3].toArray, .int .i64 p1] : List Value).toArray w fun e w' => e = .returned (.int .i64 r) ∧ Hd O w w' S [] := by
 unfold F_event_checkRule at hF
 refine zY 34 Tryz.func89 rfl rfl rfl ?_
 refine zC fun K7 hK7 => ?_
 refine zB ?_
 refine yZ rfl rfl (wF (cs := [v1, v2, v3]) rfl H) ?_
 rintro _ w10 ⟨b8, rfl, H⟩
 refine yZ rfl rfl (Lx_box1 rfl rfl H) ?_
 rintro _ w13 ⟨b11, rfl, H⟩
 refine zI (.int .i64 0) ?_
 refine (zD (zA (hK7 _ _ ?_)))
 refine zC fun K14 hK14 => ?_
 refine zB ?_
 refine zH (fa26_2 rfl) ?_
 refine zH (zO one24 rfl (Cells.get (Blk.cells (H.item (i := 3) rfl)) (i := 2) rfl)) ?_
 refine zH (zO one3 rfl (Cells.get (Blk.cells (H.item (i := 4) rfl)) (i := 0) rfl)) ?_
 obtain ⟨x15, e16, hF⟩ := zG hF
 obtain ⟨b17, o18, c19, cs20, q21, h24, h22, h23, h25⟩ := rd_at (H.item (i := 2) rfl) e16
 obtain ⟨v26, rfl, h27⟩ := rRule_open h24
 have H := H.fzs [.at b17 (o18 + p1.toNat * 8) _, .sl rCond v26 x15.When.Kids] ⟨⟨h22, h23, h25⟩, h27, trivial⟩
 refine zH (wC u24 sz95 q21 rfl (yP e16).1 (yP e16).2.1 rfl rfl) ?_
 refine zH (yN (yJ (cs := [.string (bs x15.Name), .int .i64 x15.When.Kind, .string (bs x15.When.Name), .string (bs x15.When.Other), .int .i64 x15.When.Op, .int .i64 x15.When.N, .int .i64 x15.When.Frames, v26]) agg95 rfl sz95 rfl (H.item (i := 5) rfl).2.2) rfl) ?_
 refine yZ rfl rfl (xN zero95 H) ?_
 rintro _ w32 ⟨b30, rfl, H⟩
 refine xH rfl (xC (vs := [.string (bs x15.Name), .int .i64 x15.When.Kind, .string (bs x15.When.Name), .string (bs x15.When.Other), .int .i64 x15.When.Op, .int .i64 x15.When.N, .int .i64 x15.When.Frames, v26]) H 7 rfl sz95 rfl rfl rfl ⟨rfl, rfl, rfl, rfl, rfl, rfl, rfl, (slf_one (H.item (i := 6) rfl)), trivial⟩ rfl) ?_
 rintro w33 H
 refine (zD (zA (hK14 _ _ ?_)))
 refine zC fun K34 hK34 => ?_
 refine zB ?_
 refine zH (Do_makeFunc rfl) ?_
 refine yZ rfl rfl (xN zero48 H) ?_
 rintro _ w37 ⟨b35, rfl, H⟩
 refine xH rfl (wH H 8 rfl sz48 rfl (v := .func (.func 147) #[] #[.pointer (some ⟨b8, 0, none⟩), .pointer (some ⟨b11, 0, none⟩)]) rfl rfl rfl) ?_
 rintro w38 H
 refine (zD (zA (hK34 _ _ ?_)))
 refine zC fun K56 hK56 => ?_
 refine yG ?_
 refine zC fun K57 hK57 => ?_
 refine zB ?_
 refine zH (fa95_0 rfl) ?_
 refine zH (zO one9 rfl (Cells.get (Blk.cells (H.item (i := 7) rfl)) (i := 0) rfl)) ?_
 have H58 := H
 obtain ⟨x59, e60, hF⟩ := zG hF
 refine zZ rfl rfl (zT en86 rfl) (F_event_isName_w x15.Name _ e60 _ _ _ (H.enter [] [] (by decide) rfl)) ?_
 rintro _ w61 ⟨rfl, G62⟩
 have H := H58.step (G62.only : Only [] _ _)
 refine ⟨_, rfl, ?_⟩
 obtain ⟨x63, e64, hF⟩ := zF hF
 refine zH (zM (wJ (p := x59) rfl) e64) ?_
 refine zI (.bool x63) ?_
 refine (zD (zA (hK57 _ _ ?_)))
 refine yA (b := x63) rfl (fun c65 => ?_) (fun c65 => ?_)
 ·have hF := zQ c65 hF
  refine zC fun K66 hK66 => ?_
  refine zB ?_
  refine zI (.int .i64 8) ?_
  refine (zD (zA (hK66 _ _ ?_)))
  obtain rfl := someI hF
  refine (yB (yE (zW (post1 (v1 := .int .i64 8) rfl rfl ?_))))
  exact ⟨rfl, H.pick [] (by decide)⟩
 have hF := zS c65 hF
 refine zC fun K67 hK67 => ?_
 refine zB ?_
 refine zH (zO one48 rfl (Cells.get (Blk.cells (H.item (i := 8) rfl)) (i := 0) rfl)) ?_
 refine zH (fa95_0 rfl) ?_
 refine zH (zO one9 rfl (Cells.get (Blk.cells (H.item (i := 7) rfl)) (i := 0) rfl)) ?_
 obtain ⟨x68, e69, hF⟩ := zG hF
 refine zZ rfl rfl (DoC_clo en147 rfl rfl) (F_event_checkRule_1_w x15.Name p0 p1 b8 v1 v2 v3 b11 _ e69 _ _ _ (H.enter [3, 4] [0, 1, 2] (by decide) rfl)) ?_
 rintro _ w70 ⟨rfl, G71⟩
 have H : Hd O _ w70 _ [.fz (.sl Rp.str v1 p0.Phases), .fz (.sl rMoveT v2 p0.Moves), .fz (.sl rRule v3 p0.Rules), .fz (.at b17 (o18 + p1.toNat * 8) [.string (bs x15.Name), .int .i64 x15.When.Kind, .string (bs x15.When.Name), .string (bs x15.When.Other), .int .i64 x15.When.Op, .int .i64 x15.When.N, .int .i64 x15.When.Frames, v26]), .fz (.sl rCond v26 x15.When.Kids), .blk b30 [.string (bs x15.Name), .int .i64 x15.When.Kind, .string (bs x15.When.Name), .string (bs x15.When.Other), .int .i64 x15.When.Op, .int .i64 x15.When.N, .int .i64 x15.When.Frames, v26] 95, .blk b35 [.func (.func 147) #[] #[.pointer (some ⟨b8, 0, none⟩), .pointer (some ⟨b11, 0, none⟩)]] 48, .blk b8 [v1, v2, v3] 26, .blk b11 [.int .i64 p1] 3] := H.back [3, 4] [0, 1, 2] rfl G71
 refine ⟨_, rfl, ?_⟩
 refine zI (.bool x68) ?_
 refine (zD (zA (hK67 _ _ ?_)))
 refine yA (b := x68) rfl (fun c72 => ?_) (fun c72 => ?_)
 ·have hF := zQ c72 hF
  refine zC fun K73 hK73 => ?_
  refine zB ?_
  refine zI (.int .i64 5) ?_
  refine (zD (zA (hK73 _ _ ?_)))
  obtain rfl := someI hF
  refine (yB (yE (zW (post1 (v1 := .int .i64 5) rfl rfl ?_))))
  exact ⟨rfl, H.pick [] (by decide)⟩
 have hF := zS c72 hF
 refine (zX (yT (zA (hK56 _ _ ?_))))
 refine zC fun K85 hK85 => ?_
 refine zC fun K86 hK86 => ?_
 refine zB ?_
 refine zH (fa95_1 rfl) ?_
 refine zH (yN (yJ (cs := [.int .i64 x15.When.Kind, .string (bs x15.When.Name), .string (bs x15.When.Other), .int .i64 x15.When.Op, .int .i64 x15.When.N, .int .i64 x15.When.Frames, v26]) agg70 rfl sz70 rfl (Cells.drop (Blk.cells (H.item (i := 5) rfl)) 1 7)) rfl) ?_
 have H87 := H
 obtain ⟨x88, e89, hF⟩ := zG hF
 refine zZ rfl rfl (zT en29 rfl) (F_event_CheckCond_w x15.When v26 _ e89 _ _ _ (H.enter [] [4] (by decide) rfl)) ?_
 rintro _ w90 ⟨rfl, G91⟩
 have H := H87.step (G91.only : Only [] _ _)
 refine ⟨_, rfl, ?_⟩
 refine zI (.int .i64 x88) ?_
 refine (zD (zA (hK86 _ _ ?_)))
 refine zC fun K92 hK92 => ?_
 refine zB ?_
 refine zK (.int .i64 x88) ?_
 obtain ⟨x93, e94, hF⟩ := zF hF
 refine zH (zM (Do_neq (a := x88) (b := 0) rfl rfl) e94) ?_
 refine (zD (zA (hK92 _ _ ?_)))
 refine yA (b := x93) rfl (fun c95 => ?_) (fun c95 => ?_)
 ·have hF := zQ c95 hF
  refine zC fun K96 hK96 => ?_
  refine zB ?_
  refine zK (.int .i64 x88) ?_
  refine zI (.int .i64 x88) ?_
  refine (zD (zA (hK96 _ _ ?_)))
  obtain rfl := someI hF
  refine (yB (zW (post1 (v1 := .int .i64 x88) rfl rfl ?_)))
  exact ⟨rfl, H.pick [] (by decide)⟩
 have hF := zS c95 hF
 refine (zX (zA (hK85 _ _ ?_)))
 refine zC fun K97 hK97 => ?_
 refine zB ?_
 refine zH (fa95_1 rfl) ?_
 refine zH (yN (yJ (cs := [.int .i64 x15.When.Kind, .string (bs x15.When.Name), .string (bs x15.When.Other), .int .i64 x15.When.Op, .int .i64 x15.When.N, .int .i64 x15.When.Frames, v26]) agg70 rfl sz70 rfl (Cells.drop (Blk.cells (H.item (i := 5) rfl)) 1 7)) rfl) ?_
 refine zH (Do_makeFunc rfl) ?_
 obtain ⟨x98, e99, hF⟩ := zG hF
 refine zZ rfl rfl (zT en81 rfl) (F_event_each_event_checkRule_2_dfevent_checkRule_1_a0de_s x15.When p0 p1 v26 b8 v1 v2 v3 b35 b11 _ e99 _ _ _ (H.enter [7, 8, 6] [4, 0, 1, 2] (by decide) rfl)) ?_
 rintro _ w100 ⟨rfl, G101⟩
 have H : Hd O _ w100 _ [.fz (.sl Rp.str v1 p0.Phases), .fz (.sl rMoveT v2 p0.Moves), .fz (.sl rRule v3 p0.Rules), .fz (.at b17 (o18 + p1.toNat * 8) [.string (bs x15.Name), .int .i64 x15.When.Kind, .string (bs x15.When.Name), .string (bs x15.When.Other), .int .i64 x15.When.Op, .int .i64 x15.When.N, .int .i64 x15.When.Frames, v26]), .fz (.sl rCond v26 x15.When.Kids), .blk b30 [.string (bs x15.Name), .int .i64 x15.When.Kind, .string (bs x15.When.Name), .string (bs x15.When.Other), .int .i64 x15.When.Op, .int .i64 x15.When.N, .int .i64 x15.When.Frames, v26] 95, .blk b8 [v1, v2, v3] 26, .blk b11 [.int .i64 p1] 3, .blk b35 [.func (.func 147) #[] #[.pointer (some ⟨b8, 0, none⟩), .pointer (some ⟨b11, 0, none⟩)]] 48] := H.back [7, 8, 6] [4, 0, 1, 2] rfl G101
 refine ⟨_, rfl, ?_⟩
 refine zI (.int .i64 x98) ?_
 refine (zD (zA (hK97 _ _ ?_)))
 obtain rfl := someI hF
 refine (yB (post1 (v1 := .int .i64 x98) rfl rfl ?_))
 exact ⟨rfl, H.pick [] (by decide)⟩
set_option maxHeartbeats 4000000 in
set_option maxRecDepth 100000 in
theorem F_event_Check_w (p0 : Rules) (v1 : Value) (v2 : Value) (v3 : Value) (r : Int) (hF : F_event_Check p0 = some r) (O S : List Nat) (w : World) (H : Hd O w w S [.fz (.sl Rp.str v1 p0.Phases), .fz (.sl rMoveT v2 p0.Moves), .fz (.sl rRule v3 p0.Rules)]) :
  Calls Tryz.prog 31 ([.agg [v1, v2, v3].toArray] : List Value).toArray w fun e w' => e = .returned (.int .i64 r) ∧ Hd O w w' S [] := by
 unfold F_event_Check at hF
 refine zY 71 Tryz.func31 rfl rfl rfl ?_
 refine zC fun K7 hK7 => ?_
 refine zB ?_
 refine yZ rfl rfl (wF (cs := [v1, v2, v3]) rfl H) ?_
 rintro _ w10 ⟨b8, rfl, H⟩
 refine zI (.int .i64 0) ?_
 refine (zD (zA (hK7 _ _ ?_)))
 refine zC fun K42 hK42 => ?_
 obtain ⟨g69, hF, hK71⟩ := zG hF
 refine yL [10, 11, 12, 13, 14, 15, 16, 17, 18, 19, 20, 21, 22, 23, 24, 25] (fun (g : Unit) => [(25, .bool g69)]) (fun g wl => Hd O w wl S [.fz (.sl Rp.str v1 p0.Phases), .fz (.sl rMoveT v2 p0.Moves), .fz (.sl rRule v3 p0.Rules), .blk b8 [v1, v2, v3] 26]) ?_ ?_
 ·skip
  refine zB ?_
  refine zH (fa26_0 rfl) ?_
  refine zH (zO one22 rfl (Cells.get (Blk.cells (H.item (i := 3) rfl)) (i := 0) rfl)) ?_
  obtain ⟨x72, e73, hF⟩ := zF hF
  obtain ⟨a74, c75, q76⟩ := SlF.len ((H.item (i := 0) rfl))
  refine zH (yN (xM u22 q76) (congrArg (Value.int .i64) e73)) ?_
  obtain ⟨x77, e78, hF⟩ := zF hF
  refine zH (zM (Do_gtr (a := x72) (b := 20) rfl rfl) e78) ?_
  obtain ⟨j79, hF, hK80⟩ := zG hF
  refine RL_cutS 6 [14, 15, 16, 17, 18, 19] [(19, .bool j79)] (fun wl => Hd O w wl S [.fz (.sl Rp.str v1 p0.Phases), .fz (.sl rMoveT v2 p0.Moves), .fz (.sl rRule v3 p0.Rules), .blk b8 [v1, v2, v3] 26]) ?_ ?_
  ·skip
   refine yK (b := x77) rfl rfl rfl (fun c82 => ?_) (fun c82 => ?_)
   ·have hF := zQ c82 hF
    refine yC ?_
    refine yC ?_
    refine yC ?_
    refine yC ?_
    refine zH (yI (v := .bool true) rfl rfl) ?_
    obtain rfl := someI hF
    exact zD (zA (meet ⟨(zJ rfl zL), H.pick [0, 1, 2, 3] (by decide)⟩))
   have hF := zS c82 hF
   refine zH (fa26_1 rfl) ?_
   refine zH (zO one23 rfl (Cells.get (Blk.cells (H.item (i := 3) rfl)) (i := 1) rfl)) ?_
   obtain ⟨x83, e84, hF⟩ := zF hF
   obtain ⟨a85, c86, q87⟩ := SlF.len ((H.item (i := 1) rfl))
   refine zH (yN (xM u23 q87) (congrArg (Value.int .i64) e84)) ?_
   obtain ⟨x88, e89, hF⟩ := zF hF
   refine zH (zM (Do_gtr (a := x83) (b := 60) rfl rfl) e89) ?_
   refine zH (yF (v := .bool x88) rfl rfl) ?_
   obtain rfl := someI hF
   exact zD (zA (meet ⟨(zJ rfl zL), H.pick [0, 1, 2, 3] (by decide)⟩))
  rintro ρ w81 H
  have hF := hK80
  refine yK (b := j79) rfl rfl rfl (fun c90 => ?_) (fun c90 => ?_)
  ·have hF := zQ c90 hF
   refine yC ?_
   refine yC ?_
   refine yC ?_
   refine yC ?_
   refine zH (yI (v := .bool true) rfl rfl) ?_
   obtain rfl := someI hF
   exact (zD (zA (meet ⟨(), (zJ rfl zL), H.pick [0, 1, 2, 3] (by decide)⟩)))
  have hF := zS c90 hF
  refine zH (fa26_2 rfl) ?_
  refine zH (zO one24 rfl (Cells.get (Blk.cells (H.item (i := 3) rfl)) (i := 2) rfl)) ?_
  obtain ⟨x91, e92, hF⟩ := zF hF
  obtain ⟨a93, c94, q95⟩ := SlF.len ((H.item (i := 2) rfl))
  refine zH (yN (xM u24 q95) (congrArg (Value.int .i64) e92)) ?_
  obtain ⟨x96, e97, hF⟩ := zF hF
  refine zH (zM (Do_gtr (a := x91) (b := 60) rfl rfl) e97) ?_
  refine zH (yF (v := .bool x96) rfl rfl) ?_
  obtain rfl := someI hF
  exact (zD (zA (meet ⟨(), (zJ rfl zL), H.pick [0, 1, 2, 3] (by decide)⟩)))
 rintro _ ρ w70 H
 have hF := hK71
 refine yA (b := g69) rfl (fun c98 => ?_) (fun c98 => ?_)
 ·have hF := zQ c98 hF
  refine zC fun K99 hK99 => ?_
  refine zB ?_
  refine zI (.int .i64 3) ?_
  refine (zD (zA (hK99 _ _ ?_)))
  obtain rfl := someI hF
  refine (yB (zW (post1 (v1 := .int .i64 3) rfl rfl ?_)))
  exact ⟨rfl, H.pick [] (by decide)⟩
 have hF := zS c98 hF
 refine (zX (zA (hK42 _ _ ?_)))
 obtain ⟨k320, ek321, hF⟩ := xQ hF
 refine yL [2, 3, 4, 26, 27, 28, 29, 30, 31, 32, 33, 34, 35, 36, 37, 38, 39, 40, 41, 42, 43] (fun (g : Unit) => []) (fun g wl => Hd O w wl S [.fz (.sl Rp.str v1 p0.Phases), .fz (.sl rMoveT v2 p0.Moves), .fz (.sl rRule v3 p0.Rules), .blk b8 [v1, v2, v3] 26] ∧ k320 () = some r) ?_ ?_
 ·skip
  refine zC fun K322 hK322 => ?_
  refine zB ?_
  refine zH (fa26_0 rfl) ?_
  refine zH (zO one22 rfl (Cells.get (Blk.cells (H.item (i := 3) rfl)) (i := 0) rfl)) ?_
  obtain ⟨x323, e324, hF⟩ := zF hF
  obtain ⟨a325, c326, q327⟩ := SlF.len ((H.item (i := 0) rfl))
  refine zH (yN (xM u22 q327) (congrArg (Value.int .i64) e324)) ?_
  refine zK (.int .i64 0) ?_
  refine (zD (zA (hK322 _ _ ?_)))
  refine yG ?_
  unfold F_event_Check_L1 at hF
  obtain ⟨B536, n537, eB538, hF⟩ := yS hF
  refine xE [2, 3, 4, 29, 30, 31, 32, 33, 34, 35, 36, 37, 38, 39, 40, 41, 42, 43] (fun (g : Nat × Int) => [(29, .int .i64 g.2)]) (fun g wl => Hd O w wl S [.fz (.sl Rp.str v1 p0.Phases), .fz (.sl rMoveT v2 p0.Moves), .fz (.sl rRule v3 p0.Rules), .blk b8 [v1, v2, v3] 26] ∧ loopN B536 g.1 g.2 = some r) (fun g => g.1) (n537, 0) (zJ rfl zL) ⟨H.pick [0, 1, 2, 3] (by decide), hF⟩ ?_
  clear H hF
  rintro ⟨n537, g535⟩ ρ w540 ⟨H, hF⟩
  obtain ⟨n541, rfl, hF⟩ := yX hF
  have hF := yY eB538 hF
  refine zC fun K542 hK542 => ?_
  refine zB ?_
  obtain ⟨x543, e544, hF⟩ := zF hF
  refine zH (zM (xI (a := g535) (b := x323) rfl rfl) e544) ?_
  refine (zD (zA (hK542 _ _ ?_)))
  refine zC fun K546 hK546 => ?_
  refine yA (b := x543) rfl (fun c547 => ?_) (fun c547 => ?_)
  ·have hF := zQ c547 hF
   refine (zX (zA (hK546 _ _ ?_)))
   refine zC fun K595 hK595 => ?_
   refine yG ?_
   refine zC fun K596 hK596 => ?_
   refine zB ?_
   refine zK (.int .i64 g535) ?_
   obtain ⟨x597, e598, hF⟩ := zG hF
   obtain ⟨b599, o600, c601, cs602, q603, h606, h604, h605, h607⟩ := rd_at (H.item (i := 0) rfl) e598
   obtain rfl : cs602 = [.string (bs x597)] := h606
   have H := H.fz (.at b599 (o600 + g535.toNat * 1) _) ⟨h604, h605, h607⟩
   refine zH (wC u22 sz9 q603 rfl (yP e598).1 (yP e598).2.1 rfl rfl) ?_
   refine zH (zO one9 rfl (Cells.get (H.item (i := 4) rfl).2.2 (i := 0) rfl)) ?_
   refine zI (.int .i64 g535) ?_
   refine zI (.string (bs x597)) ?_
   refine (zD (zA (hK596 _ _ ?_)))
   refine zC fun K619 hK619 => ?_
   refine zC fun K620 hK620 => ?_
   refine zB ?_
   refine zK (.string (bs x597)) ?_
   have H621 := H
   obtain ⟨x622, e623, hF⟩ := zG hF
   refine zZ rfl rfl (zT en86 rfl) (F_event_isName_w x597 _ e623 _ _ _ (H.enter [] [] (by decide) rfl)) ?_
   rintro _ w624 ⟨rfl, G625⟩
   have H := H621.step (G625.only : Only [] _ _)
   refine ⟨_, rfl, ?_⟩
   obtain ⟨x626, e627, hF⟩ := zF hF
   refine zH (zM (wJ (p := x622) rfl) e627) ?_
   refine (zD (zA (hK620 _ _ ?_)))
   refine yA (b := x626) rfl (fun c628 => ?_) (fun c628 => ?_)
   ·have hF := zQ c628 hF
    refine zC fun K629 hK629 => ?_
    refine zB ?_
    refine zI (.int .i64 8) ?_
    refine (zD (zA (hK629 _ _ ?_)))
    obtain rfl := someI hF
    refine (yB (zW (yE (zW (zW (yE (zW (post1 (v1 := .int .i64 8) rfl rfl ?_))))))))
    exact ⟨rfl, H.pick [] (by decide)⟩
   have hF := zS c628 hF
   refine (zX (zA (hK619 _ _ ?_)))
   refine zC fun K630 hK630 => ?_
   refine zB ?_
   refine zH (fa26_0 rfl) ?_
   refine zH (zO one22 rfl (Cells.get (Blk.cells (H.item (i := 3) rfl)) (i := 0) rfl)) ?_
   refine zK (.int .i64 g535) ?_
   obtain ⟨x631, e632, hF⟩ := zG hF
   refine RL_exP rfl rfl (Lx_slice_h u22 sz9 (H.item (i := 0) rfl) rfl rfl e632) ?_
   rintro v633 h634
   have H := H.fz (.sl Rp.str v633 x631) h634
   refine zK (.string (bs x597)) ?_
   have H636 := H
   obtain ⟨x637, e638, hF⟩ := zG hF
   refine zZ rfl rfl (zT en87 rfl) (F_slices_Contains___string_string__w x631 x597 v633 _ e638 _ _ _ (H.enter [] [5] (by decide) rfl)) ?_
   rintro _ w639 ⟨rfl, G640⟩
   have H := H636.step (G640.only : Only [] _ _)
   refine ⟨_, rfl, ?_⟩
   refine (zD (zA (hK630 _ _ ?_)))
   refine yA (b := x637) rfl (fun c641 => ?_) (fun c641 => ?_)
   ·have hF := zQ c641 hF
    refine zC fun K642 hK642 => ?_
    refine zB ?_
    refine zI (.int .i64 5) ?_
    refine (zD (zA (hK642 _ _ ?_)))
    obtain rfl := someI hF
    refine (yB (yE (zW (zW (yE (zW (post1 (v1 := .int .i64 5) rfl rfl ?_)))))))
    exact ⟨rfl, H.pick [] (by decide)⟩
   have hF := zS c641 hF
   refine (zX (yT (zA (hK595 _ _ ?_))))
   refine zB ?_
   obtain ⟨x643, e644, hF⟩ := zF hF
   refine zH (xP (a := g535) (b := 1) rfl rfl e644) ?_
   refine zK (.int .i64 x643) ?_
   exact (zD (zA (meet ⟨(n541, x643), (zJ rfl zL), ⟨H.pick [0, 1, 2, 3] (by decide), hF⟩, Nat.lt_succ_self _⟩)))
  have hF := zS c547 hF
  exact (xJ (yO (yO (xB (zA (meet ⟨(), zL, ⟨H.pick [0, 1, 2, 3] (by decide), hF⟩⟩))))))
 rintro _ ρ w319 ⟨H, hF⟩
 have hF := wB ek321 hF
 obtain ⟨k801, ek802, hF⟩ := xQ hF
 refine yL [2, 6, 7, 44, 45, 46, 47, 48, 49, 50, 51, 52, 53, 54, 55, 56, 57] (fun (g : Unit) => []) (fun g wl => Hd O w wl S [.fz (.sl Rp.str v1 p0.Phases), .fz (.sl rMoveT v2 p0.Moves), .fz (.sl rRule v3 p0.Rules), .blk b8 [v1, v2, v3] 26] ∧ k801 () = some r) ?_ ?_
 ·skip
  refine zC fun K803 hK803 => ?_
  refine zB ?_
  refine zH (fa26_1 rfl) ?_
  refine zH (zO one23 rfl (Cells.get (Blk.cells (H.item (i := 3) rfl)) (i := 1) rfl)) ?_
  obtain ⟨x804, e805, hF⟩ := zF hF
  obtain ⟨a806, c807, q808⟩ := SlF.len ((H.item (i := 1) rfl))
  refine zH (yN (xM u23 q808) (congrArg (Value.int .i64) e805)) ?_
  refine zK (.int .i64 0) ?_
  refine (zD (zA (hK803 _ _ ?_)))
  refine yG ?_
  unfold F_event_Check_L2 at hF
  obtain ⟨B953, n954, eB955, hF⟩ := yS hF
  refine xE [2, 6, 7, 47, 48, 49, 50, 51, 52, 53, 54, 55, 56, 57] (fun (g : Nat × Int) => [(47, .int .i64 g.2)]) (fun g wl => Hd O w wl S [.fz (.sl Rp.str v1 p0.Phases), .fz (.sl rMoveT v2 p0.Moves), .fz (.sl rRule v3 p0.Rules), .blk b8 [v1, v2, v3] 26] ∧ loopN B953 g.1 g.2 = some r) (fun g => g.1) (n954, 0) (zJ rfl zL) ⟨H.pick [0, 1, 2, 3] (by decide), hF⟩ ?_
  clear H hF
  rintro ⟨n954, g952⟩ ρ w957 ⟨H, hF⟩
  obtain ⟨n958, rfl, hF⟩ := yX hF
  have hF := yY eB955 hF
  refine zC fun K959 hK959 => ?_
  refine zB ?_
  obtain ⟨x960, e961, hF⟩ := zF hF
  refine zH (zM (xI (a := g952) (b := x804) rfl rfl) e961) ?_
  refine (zD (zA (hK959 _ _ ?_)))
  refine zC fun K963 hK963 => ?_
  refine yA (b := x960) rfl (fun c964 => ?_) (fun c964 => ?_)
  ·have hF := zQ c964 hF
   refine (zX (zA (hK963 _ _ ?_)))
   refine zC fun K996 hK996 => ?_
   refine yG ?_
   refine zC fun K997 hK997 => ?_
   refine zB ?_
   obtain ⟨x998, e999, hF⟩ := zG hF
   obtain ⟨b1000, o1001, c1002, cs1003, q1004, h1007, h1005, h1006, h1008⟩ := rd_at (H.item (i := 1) rfl) e999
   obtain ⟨v1009, rfl, h1010⟩ := rMoveT_open h1007
   have H := H.fzs [.at b1000 (o1001 + g952.toNat * 9) _, .sl rCond v1009 x998.When.Kids] ⟨⟨h1005, h1006, h1008⟩, h1010, trivial⟩
   refine zH (wC u23 sz122 q1004 rfl (yP e999).1 (yP e999).2.1 rfl rfl) ?_
   refine zH (yN (yJ (cs := [.string (bs x998.From), .string (bs x998.To), .int .i64 x998.When.Kind, .string (bs x998.When.Name), .string (bs x998.When.Other), .int .i64 x998.When.Op, .int .i64 x998.When.N, .int .i64 x998.When.Frames, v1009]) agg122 rfl sz122 rfl (H.item (i := 4) rfl).2.2) rfl) ?_
   refine yZ rfl rfl (xN zero122 H) ?_
   rintro _ w1015 ⟨b1013, rfl, H⟩
   refine xH rfl (xC (vs := [.string (bs x998.From), .string (bs x998.To), .int .i64 x998.When.Kind, .string (bs x998.When.Name), .string (bs x998.When.Other), .int .i64 x998.When.Op, .int .i64 x998.When.N, .int .i64 x998.When.Frames, v1009]) H 6 rfl sz122 rfl rfl rfl ⟨rfl, rfl, rfl, rfl, rfl, rfl, rfl, rfl, (slf_one (H.item (i := 5) rfl)), trivial⟩ rfl) ?_
   rintro w1016 H
   refine (zD (zA (hK997 _ _ ?_)))
   refine zC fun K1017 hK1017 => ?_
   refine zB ?_
   refine zH (yN (yJ (cs := [v1, v2, v3]) agg26 rfl sz26 rfl (Blk.cells (H.item (i := 3) rfl))) rfl) ?_
   refine zH (yN (yJ (cs := [.string (bs x998.From), .string (bs x998.To), .int .i64 x998.When.Kind, .string (bs x998.When.Name), .string (bs x998.When.Other), .int .i64 x998.When.Op, .int .i64 x998.When.N, .int .i64 x998.When.Frames, v1009]) agg122 rfl sz122 rfl (Blk.cells (H.item (i := 6) rfl))) rfl) ?_
   have H1018 := H
   obtain ⟨x1019, e1020, hF⟩ := zG hF
   refine zZ rfl rfl (zT en88 rfl) (F_event_checkMove_w p0 x998 v1 v2 v3 v1009 _ e1020 _ _ _ (H.enter [] [0, 1, 2, 5] (by decide) rfl)) ?_
   rintro _ w1021 ⟨rfl, G1022⟩
   have H := H1018.step (G1022.only : Only [] _ _)
   refine ⟨_, rfl, ?_⟩
   refine zI (.int .i64 x1019) ?_
   refine (zD (zA (hK1017 _ _ ?_)))
   refine zC fun K1023 hK1023 => ?_
   refine zB ?_
   refine zK (.int .i64 x1019) ?_
   obtain ⟨x1024, e1025, hF⟩ := zF hF
   refine zH (zM (Do_neq (a := x1019) (b := 0) rfl rfl) e1025) ?_
   refine (zD (zA (hK1023 _ _ ?_)))
   refine yA (b := x1024) rfl (fun c1026 => ?_) (fun c1026 => ?_)
   ·have hF := zQ c1026 hF
    refine zC fun K1027 hK1027 => ?_
    refine zB ?_
    refine zK (.int .i64 x1019) ?_
    refine zI (.int .i64 x1019) ?_
    refine (zD (zA (hK1027 _ _ ?_)))
    obtain rfl := someI hF
    refine (yB (yE (zW (zW (yE (zW (post1 (v1 := .int .i64 x1019) rfl rfl ?_)))))))
    exact ⟨rfl, H.pick [] (by decide)⟩
   have hF := zS c1026 hF
   refine (zX (yT (zA (hK996 _ _ ?_))))
   refine zB ?_
   obtain ⟨x1028, e1029, hF⟩ := zF hF
   refine zH (xP (a := g952) (b := 1) rfl rfl e1029) ?_
   refine zK (.int .i64 x1028) ?_
   exact (zD (zA (meet ⟨(n958, x1028), (zJ rfl zL), ⟨H.pick [0, 1, 2, 3] (by decide), hF⟩, Nat.lt_succ_self _⟩)))
  have hF := zS c964 hF
  exact (xJ (yO (yO (xB (zA (meet ⟨(), zL, ⟨H.pick [0, 1, 2, 3] (by decide), hF⟩⟩))))))
 rintro _ ρ w800 ⟨H, hF⟩
 have hF := wB ek802 hF
 obtain ⟨k1110, ek1111, hF⟩ := xQ hF
 refine yL [2, 8, 9, 58, 59, 60, 61, 62, 63, 64, 65, 66, 67, 68, 69, 70] (fun (g : Unit) => []) (fun g wl => Hd O w wl S [] ∧ k1110 () = some r) ?_ ?_
 ·skip
  refine zC fun K1112 hK1112 => ?_
  refine zB ?_
  refine zH (fa26_2 rfl) ?_
  refine zH (zO one24 rfl (Cells.get (Blk.cells (H.item (i := 3) rfl)) (i := 2) rfl)) ?_
  obtain ⟨x1113, e1114, hF⟩ := zF hF
  obtain ⟨a1115, c1116, q1117⟩ := SlF.len ((H.item (i := 2) rfl))
  refine zH (yN (xM u24 q1117) (congrArg (Value.int .i64) e1114)) ?_
  refine zK (.int .i64 0) ?_
  refine (zD (zA (hK1112 _ _ ?_)))
  refine yG ?_
  unfold F_event_Check_L3 at hF
  obtain ⟨B1186, n1187, eB1188, hF⟩ := yS hF
  refine xE [2, 8, 9, 61, 62, 63, 64, 65, 66, 67, 68, 69, 70] (fun (g : Nat × Int) => [(61, .int .i64 g.2)]) (fun g wl => Hd O w wl S [.fz (.sl Rp.str v1 p0.Phases), .fz (.sl rMoveT v2 p0.Moves), .fz (.sl rRule v3 p0.Rules), .blk b8 [v1, v2, v3] 26] ∧ loopN B1186 g.1 g.2 = some r) (fun g => g.1) (n1187, 0) (zJ rfl zL) ⟨H.pick [0, 1, 2, 3] (by decide), hF⟩ ?_
  clear H hF
  rintro ⟨n1187, g1185⟩ ρ w1190 ⟨H, hF⟩
  obtain ⟨n1191, rfl, hF⟩ := yX hF
  have hF := yY eB1188 hF
  refine zC fun K1192 hK1192 => ?_
  refine zB ?_
  obtain ⟨x1193, e1194, hF⟩ := zF hF
  refine zH (zM (xI (a := g1185) (b := x1113) rfl rfl) e1194) ?_
  refine (zD (zA (hK1192 _ _ ?_)))
  refine zC fun K1196 hK1196 => ?_
  refine yA (b := x1193) rfl (fun c1197 => ?_) (fun c1197 => ?_)
  ·have hF := zQ c1197 hF
   refine (zX (zA (hK1196 _ _ ?_)))
   refine zC fun K1210 hK1210 => ?_
   refine yG ?_
   refine zC fun K1211 hK1211 => ?_
   refine zB ?_
   refine zK (.int .i64 g1185) ?_
   refine zI (.int .i64 g1185) ?_
   refine (zD (zA (hK1211 _ _ ?_)))
   refine zC fun K1212 hK1212 => ?_
   refine zB ?_
   refine zH (yN (yJ (cs := [v1, v2, v3]) agg26 rfl sz26 rfl (Blk.cells (H.item (i := 3) rfl))) rfl) ?_
   refine zK (.int .i64 g1185) ?_
   have H1213 := H
   obtain ⟨x1214, e1215, hF⟩ := zG hF
   refine zZ rfl rfl (zT en89 rfl) (F_event_checkRule_w p0 g1185 v1 v2 v3 _ e1215 _ _ _ (H.enter [] [0, 1, 2] (by decide) rfl)) ?_
   rintro _ w1216 ⟨rfl, G1217⟩
   have H := H1213.step (G1217.only : Only [] _ _)
   refine ⟨_, rfl, ?_⟩
   refine zI (.int .i64 x1214) ?_
   refine (zD (zA (hK1212 _ _ ?_)))
   refine zC fun K1218 hK1218 => ?_
   refine zB ?_
   refine zK (.int .i64 x1214) ?_
   obtain ⟨x1219, e1220, hF⟩ := zF hF
   refine zH (zM (Do_neq (a := x1214) (b := 0) rfl rfl) e1220) ?_
   refine (zD (zA (hK1218 _ _ ?_)))
   refine yA (b := x1219) rfl (fun c1221 => ?_) (fun c1221 => ?_)
   ·have hF := zQ c1221 hF
    refine zC fun K1222 hK1222 => ?_
    refine zB ?_
    refine zK (.int .i64 x1214) ?_
    refine zI (.int .i64 x1214) ?_
    refine (zD (zA (hK1222 _ _ ?_)))
    obtain rfl := someI hF
    refine (yB (yE (zW (zW (yE (zW (post1 (v1 := .int .i64 x1214) rfl rfl ?_)))))))
    exact ⟨rfl, H.pick [] (by decide)⟩
   have hF := zS c1221 hF
   refine (zX (yT (zA (hK1210 _ _ ?_))))
   refine zB ?_
   obtain ⟨x1223, e1224, hF⟩ := zF hF
   refine zH (xP (a := g1185) (b := 1) rfl rfl e1224) ?_
   refine zK (.int .i64 x1223) ?_
   exact (zD (zA (meet ⟨(n1191, x1223), (zJ rfl zL), ⟨H.pick [0, 1, 2, 3] (by decide), hF⟩, Nat.lt_succ_self _⟩)))
  have hF := zS c1197 hF
  exact (xJ (yO (yO (xB (zA (meet ⟨(), zL, ⟨H.pick [] (by decide), hF⟩⟩))))))
 rintro _ ρ w1109 ⟨H, hF⟩
 have hF := wB ek1111 hF
 refine zC fun K1225 hK1225 => ?_
 refine zB ?_
 refine zI (.int .i64 0) ?_
 refine (zD (zA (hK1225 _ _ ?_)))
 obtain rfl := someI hF
 refine (yB (post1 (v1 := .int .i64 0) rfl rfl ?_))
 exact ⟨rfl, H.pick [] (by decide)⟩
set_option maxHeartbeats 4000000 in
theorem F_ref6_place_w (p0 : List Str) (p1 : Str) (v1 : Value) (r : Int) (hF : F_ref6_place p0 p1 = some r) (O S : List Nat) (w : World) (H : Hd O w w S [.fz (.sl Rp.str v1 p0)]) :
  Calls Tryz.prog 91 ([v1, .string (bs p1)] : List Value).toArray w fun e w' => e = .returned (.int .i64 r) ∧ Hd O w w' S [] := by
 unfold F_ref6_place at hF
 refine zY 19 Tryz.func91 rfl rfl rfl ?_
 refine zC fun K3 hK3 => ?_
 refine zB ?_
 refine zI (.int .i64 0) ?_
 refine (zD (zA (hK3 _ _ ?_)))
 obtain ⟨k125, ek126, hF⟩ := xQ hF
 refine yL [4, 5, 6, 7, 8, 9, 10, 11, 12, 13, 14, 15, 16, 17, 18] (fun (g : Unit) => []) (fun g wl => Hd O w wl S [] ∧ k125 () = some r) ?_ ?_
 ·skip
  refine zC fun K127 hK127 => ?_
  refine zB ?_
  refine zI (.int .i64 0) ?_
  refine (zD (zA (hK127 _ _ ?_)))
  refine yG ?_
  unfold F_ref6_place_L1 at hF
  obtain ⟨B242, n243, eB244, hF⟩ := yS hF
  refine xE [4, 5, 6, 7, 8, 9, 10, 11, 12, 13, 14, 15, 16, 17, 18] (fun (g : Nat × Int) => [(5, .int .i64 g.2)]) (fun g wl => Hd O w wl S [.fz (.sl Rp.str v1 p0)] ∧ loopN B242 g.1 g.2 = some r) (fun g => g.1) (n243, 0) (zJ rfl zL) ⟨H.pick [0] (by decide), hF⟩ ?_
  clear H hF
  rintro ⟨n243, g241⟩ ρ w246 ⟨H, hF⟩
  obtain ⟨n247, rfl, hF⟩ := yX hF
  have hF := yY eB244 hF
  refine zC fun K257 hK257 => ?_
  refine zC fun K258 hK258 => ?_
  refine zB ?_
  refine zK (.int .i64 g241) ?_
  refine zK v1 ?_
  obtain ⟨x259, e260, hF⟩ := zF hF
  obtain ⟨a261, c262, q263⟩ := SlF.len ((H.item (i := 0) rfl))
  refine zH (yN (xM u22 q263) (congrArg (Value.int .i64) e260)) ?_
  obtain ⟨x264, e265, hF⟩ := zF hF
  refine zH (zM (xI (a := g241) (b := x259) rfl rfl) e265) ?_
  refine (zD (zA (hK258 _ _ ?_)))
  refine yA (b := x264) rfl (fun c266 => ?_) (fun c266 => ?_)
  ·have hF := zQ c266 hF
   refine (zX (zA (hK257 _ _ ?_)))
   refine zC fun K284 hK284 => ?_
   refine yG ?_
   refine zC fun K285 hK285 => ?_
   refine zB ?_
   refine zK v1 ?_
   refine zK (.int .i64 g241) ?_
   obtain ⟨x286, e287, hF⟩ := zG hF
   obtain ⟨b288, o289, c290, cs291, q292, h295, h293, h294, h296⟩ := rd_at (H.item (i := 0) rfl) e287
   obtain rfl : cs291 = [.string (bs x286)] := h295
   have H := H.fz (.at b288 (o289 + g241.toNat * 1) _) ⟨h293, h294, h296⟩
   refine zH (wC u22 sz9 q292 rfl (yP e287).1 (yP e287).2.1 rfl rfl) ?_
   refine zH (zO one9 rfl (Cells.get (H.item (i := 1) rfl).2.2 (i := 0) rfl)) ?_
   refine zK (.string (bs p1)) ?_
   obtain ⟨x298, e299, hF⟩ := zF hF
   refine zH (zM (xW (s1 := x286) (s2 := p1) rfl rfl) e299) ?_
   refine (zD (zA (hK285 _ _ ?_)))
   refine yA (b := x298) rfl (fun c300 => ?_) (fun c300 => ?_)
   ·have hF := zQ c300 hF
    refine zC fun K301 hK301 => ?_
    refine zB ?_
    refine zK (.int .i64 g241) ?_
    refine zI (.int .i64 g241) ?_
    refine (zD (zA (hK301 _ _ ?_)))
    obtain rfl := someI hF
    refine (yB (yE (zW (zW (yE (zW (post1 (v1 := .int .i64 g241) rfl rfl ?_)))))))
    exact ⟨rfl, H.pick [] (by decide)⟩
   have hF := zS c300 hF
   refine (zX (yT (zA (hK284 _ _ ?_))))
   refine zB ?_
   refine zK (.int .i64 g241) ?_
   obtain ⟨x302, e303, hF⟩ := zF hF
   refine zH (xP (a := g241) (b := 1) rfl rfl e303) ?_
   refine zI (.int .i64 x302) ?_
   exact (zD (zA (meet ⟨(n247, x302), (zJ rfl zL), ⟨H.pick [0] (by decide), hF⟩, Nat.lt_succ_self _⟩)))
  have hF := zS c266 hF
  exact (xJ (yO (yO (xB (zA (meet ⟨(), zL, ⟨H.pick [] (by decide), hF⟩⟩))))))
 rintro _ ρ w124 ⟨H, hF⟩
 have hF := wB ek126 hF
 refine zC fun K304 hK304 => ?_
 refine zB ?_
 refine zI (.int .i64 (-1)) ?_
 refine (zD (zA (hK304 _ _ ?_)))
 obtain rfl := someI hF
 refine (yB (post1 (v1 := .int .i64 (-1)) rfl rfl ?_))
 exact ⟨rfl, H.pick [] (by decide)⟩
abbrev S_ref6_refers (f : Cond → Option Bool) : Prop := ∀ (p0 : Cond) (v1 : Value) (r : Bool) (_ : f p0 = some r) (O S : List Nat) (w : World) (_ : Hd O w w S [.fz (.sl rCond v1 p0.Kids)]),
  Calls Tryz.prog 92 ([.agg [.int .i64 p0.Kind, .string (bs p0.Name), .string (bs p0.Other), .int .i64 p0.Op, .int .i64 p0.N, .int .i64 p0.Frames, v1].toArray] : List Value).toArray w fun e w' => e = .returned (.bool r) ∧ Hd O w w' S []
end Go.Proofs.YtckmiljbaejijaaGreatDoor.L
