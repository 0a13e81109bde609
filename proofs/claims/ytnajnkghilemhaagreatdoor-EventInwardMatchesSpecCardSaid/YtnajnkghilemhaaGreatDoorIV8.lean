/- Walks: what each function computes, for every argument; no condition but those that stand in the statements. -/
import Derived.Test.YtnajnkghilemhaaGreatDoorIV0
import Derived.Test.YtnajnkghilemhaaGreatDoorIV7
import Derived.Test.YtnajnkghilemhaaGreatDoorIV1
import Derived.Test.YtnajnkghilemhaaGreatDoorIV5
namespace Go.Proofs.YtnajnkghilemhaaGreatDoor.L
open Go.RowKit Go.OB Go.Lf
set_option maxHeartbeats 4000000 in
theorem F_event_each_event_checkRule_2_df146_a0de_B_w (rfL : Cond → Rules → Int → Option Int) (rhL : S_event_each_event_checkRule_2_df146_a0de rfL) (p0 : Cond) (p1c0 : Rules) (p1c1f1 : Int) (v1 : Value) (b3 : Nat) (v4 : Value) (v5 : Value) (v6 : Value) (b11 : Nat) (b13 : Nat) (r : Int) (hF : F_event_each_event_checkRule_2_df146_a0de_B rfL p0 p1c0 p1c1f1 = some r) (O S : List Nat) (w : World) (H : Hd O w w S [.blk b3 [v4, v5, v6] 26, .blk b13 [.int .i64 p1c1f1] 3, .blk b11 [.func (.func 146) #[] #[.pointer (some ⟨b3, 0, none⟩), .pointer (some ⟨b13, 0, none⟩)]] 48, .fz (.sl rCond v1 p0.Kids), .fz (.sl Rp.str v4 p1c0.Phases), .fz (.sl rMoveT v5 p1c0.Moves), .fz (.sl rRule v6 p1c0.Rules)]) :
  Calls Tryz.prog 108 ([.agg [.int .i64 p0.Kind, .string (bs p0.Name), .string (bs p0.Other), .int .i64 p0.Op, .int .i64 p0.N, .int .i64 p0.Frames, v1].toArray, .func (.func 149) #[] #[.pointer (some ⟨b3, 0, none⟩), .pointer (some ⟨b11, 0, none⟩)]] : List Value).toArray w fun e w' => e = .returned (.int .i64 r) ∧ Hd O w w' S [.blk b3 [v4, v5, v6] 26, .blk b13 [.int .i64 p1c1f1] 3, .blk b11 [.func (.func 146) #[] #[.pointer (some ⟨b3, 0, none⟩), .pointer (some ⟨b13, 0, none⟩)]] 48] := by
 unfold F_event_each_event_checkRule_2_df146_a0de_B at hF
 refine yB 29 Tryz.func108 rfl rfl rfl ?_
 refine zC fun K15 hK15 => ?_
 refine zB ?_
 refine yX rfl rfl (Lx_box (cs := [.int .i64 p0.Kind, .string (bs p0.Name), .string (bs p0.Other), .int .i64 p0.Op, .int .i64 p0.N, .int .i64 p0.Frames, v1]) rfl H) ?_
 rintro _ w18 ⟨b16, rfl, H⟩
 refine zI (.int .i64 0) ?_
 refine (zF (zA (hK15 _ _ ?_)))
 refine zC fun K29 hK29 => ?_
 refine zC fun K30 hK30 => ?_
 refine zB ?_
 refine zM (.func (.func 149) #[] #[.pointer (some ⟨b3, 0, none⟩), .pointer (some ⟨b11, 0, none⟩)]) ?_
 refine zH (yQ (yM (cs := [.int .i64 p0.Kind, .string (bs p0.Name), .string (bs p0.Other), .int .i64 p0.Op, .int .i64 p0.N, .int .i64 p0.Frames, v1]) agg54 rfl sz54 rfl (Blk.cells (H.item (i := 7) rfl))) rfl) ?_
 obtain ⟨x31, e32, hF⟩ := zD hF
 refine zV rfl rfl (DoC_clo en149 rfl rfl) (F_event_checkRule_2_df146_a0de_w p0 p1c0 p1c1f1 v1 b3 v4 v5 v6 b11 b13 _ e32 _ _ _ (H.enter [0, 1, 2] [3, 4, 5, 6] (by decide) rfl)) ?_
 rintro _ w33 ⟨rfl, G34⟩
 have H : Hd O _ w33 _ [.fz (.sl rCond v1 p0.Kids), .fz (.sl Rp.str v4 p1c0.Phases), .fz (.sl rMoveT v5 p1c0.Moves), .fz (.sl rRule v6 p1c0.Rules), .blk b16 [.int .i64 p0.Kind, .string (bs p0.Name), .string (bs p0.Other), .int .i64 p0.Op, .int .i64 p0.N, .int .i64 p0.Frames, v1] 54, .blk b3 [v4, v5, v6] 26, .blk b13 [.int .i64 p1c1f1] 3, .blk b11 [.func (.func 146) #[] #[.pointer (some ⟨b3, 0, none⟩), .pointer (some ⟨b13, 0, none⟩)]] 48] := H.back [0, 1, 2] [3, 4, 5, 6] rfl G34
 refine ⟨_, rfl, ?_⟩
 refine zI (.int .i64 x31) ?_
 refine (zF (zA (hK30 _ _ ?_)))
 refine zC fun K35 hK35 => ?_
 refine zB ?_
 refine zM (.int .i64 x31) ?_
 obtain ⟨x36, e37, hF⟩ := zG hF
 refine zH (zS (Do_neq (a := x31) (b := 0) rfl rfl) e37) ?_
 refine (zF (zA (hK35 _ _ ?_)))
 refine zW (b := x36) rfl (fun c38 => ?_) (fun c38 => ?_)
 ·have hF := zO c38 hF
  refine zC fun K39 hK39 => ?_
  refine zB ?_
  refine zM (.int .i64 x31) ?_
  refine zI (.int .i64 x31) ?_
  refine (zF (zA (hK39 _ _ ?_)))
  obtain rfl := someI hF
  refine (zZ (zY (post1 (v1 := .int .i64 x31) rfl rfl ?_)))
  exact ⟨rfl, H.pick [5, 6, 7] (by decide)⟩
 have hF := zN c38 hF
 refine (yA (zA (hK29 _ _ ?_)))
 obtain ⟨k192, ek193, hF⟩ := joinO_some hF
 refine yL [4, 7, 8, 15, 16, 17, 18, 19, 20, 21, 22, 23, 24, 25, 26, 27, 28] (fun (g : Unit) => []) (fun g wl => Hd O w wl S [.fz (.sl Rp.str v4 p1c0.Phases), .fz (.sl rMoveT v5 p1c0.Moves), .fz (.sl rRule v6 p1c0.Rules), .blk b3 [v4, v5, v6] 26, .blk b13 [.int .i64 p1c1f1] 3, .blk b11 [.func (.func 146) #[] #[.pointer (some ⟨b3, 0, none⟩), .pointer (some ⟨b13, 0, none⟩)]] 48] ∧ k192 () = some r) ?_ ?_
 ·skip
  refine zC fun K194 hK194 => ?_
  refine zB ?_
  refine zH (fa54_6 rfl) ?_
  refine zH (zT one52 rfl (Cells.get (Blk.cells (H.item (i := 4) rfl)) (i := 6) rfl)) ?_
  obtain ⟨x195, e196, hF⟩ := zG hF
  obtain ⟨a197, c198, q199⟩ := SlF.len ((H.item (i := 0) rfl))
  refine zH (yQ (Do_len u52 q199) (congrArg (Value.int .i64) e196)) ?_
  refine zM (.int .i64 0) ?_
  refine (zF (zA (hK194 _ _ ?_)))
  refine yJ ?_
  unfold F_event_each_event_checkRule_2_df146_a0de_B_L1 at hF
  obtain ⟨B340, n341, eB342, hF⟩ := yY hF
  refine xK [4, 7, 8, 18, 19, 20, 21, 22, 23, 24, 25, 26, 27, 28] (fun (g : Nat × Int) => [(18, .int .i64 g.2)]) (fun g wl => Hd O w wl S [.fz (.sl rCond v1 p0.Kids), .fz (.sl Rp.str v4 p1c0.Phases), .fz (.sl rMoveT v5 p1c0.Moves), .fz (.sl rRule v6 p1c0.Rules), .blk b3 [v4, v5, v6] 26, .blk b13 [.int .i64 p1c1f1] 3, .blk b11 [.func (.func 146) #[] #[.pointer (some ⟨b3, 0, none⟩), .pointer (some ⟨b13, 0, none⟩)]] 48] ∧ loopN B340 g.1 g.2 = some r) (fun g => g.1) (n341, 0) (zK rfl zL) ⟨H.pick [0, 1, 2, 3, 5, 6, 7] (by decide), hF⟩ ?_
  clear H hF
  rintro ⟨n341, g339⟩ ρ w344 ⟨H, hF⟩
  obtain ⟨n345, rfl, hF⟩ := xE hF
  have hF := xC eB342 hF
  refine zC fun K346 hK346 => ?_
  refine zB ?_
  obtain ⟨x347, e348, hF⟩ := zG hF
  refine zH (zS (xZ (a := g339) (b := x195) rfl rfl) e348) ?_
  refine (zF (zA (hK346 _ _ ?_)))
  refine zC fun K350 hK350 => ?_
  refine zW (b := x347) rfl (fun c351 => ?_) (fun c351 => ?_)
  ·have hF := zO c351 hF
   refine (yA (zA (hK350 _ _ ?_)))
   refine zC fun K382 hK382 => ?_
   refine yJ ?_
   refine zC fun K383 hK383 => ?_
   refine zB ?_
   obtain ⟨x384, e385, hF⟩ := zD hF
   obtain ⟨b386, o387, c388, cs389, q390, h393, h391, h392, h394⟩ := rd_at (H.item (i := 0) rfl) e385
   obtain ⟨v395, rfl, h396⟩ := xX h393
   have H := H.fzs [.at b386 (o387 + g339.toNat * 7) _, .sl rCond v395 x384.Kids] ⟨⟨h391, h392, h394⟩, h396, trivial⟩
   refine zH (Do_idx u52 sz54 q390 rfl (yU e385).1 (yU e385).2.1 rfl rfl) ?_
   refine zH (yQ (yM (cs := [.int .i64 x384.Kind, .string (bs x384.Name), .string (bs x384.Other), .int .i64 x384.Op, .int .i64 x384.N, .int .i64 x384.Frames, v395]) agg54 rfl sz54 rfl (H.item (i := 7) rfl).2.2) rfl) ?_
   refine yX rfl rfl (xB zero54 H) ?_
   rintro _ w401 ⟨b399, rfl, H⟩
   refine yN rfl (yH (vs := [.int .i64 x384.Kind, .string (bs x384.Name), .string (bs x384.Other), .int .i64 x384.Op, .int .i64 x384.N, .int .i64 x384.Frames, v395]) H 9 rfl sz54 rfl rfl rfl ⟨rfl, rfl, rfl, rfl, rfl, rfl, (wE (H.item (i := 8) rfl)), trivial⟩ rfl) ?_
   rintro w402 H
   refine (zF (zA (hK383 _ _ ?_)))
   refine zC fun K403 hK403 => ?_
   refine zB ?_
   refine zH (yQ (yM (cs := [.int .i64 x384.Kind, .string (bs x384.Name), .string (bs x384.Other), .int .i64 x384.Op, .int .i64 x384.N, .int .i64 x384.Frames, v395]) agg54 rfl sz54 rfl (Blk.cells (H.item (i := 9) rfl))) rfl) ?_
   refine zM (.func (.func 149) #[] #[.pointer (some ⟨b3, 0, none⟩), .pointer (some ⟨b11, 0, none⟩)]) ?_
   obtain ⟨x404, e405, hF⟩ := zD hF
   refine zV rfl rfl (zU en108 rfl) (rhL x384 p1c0 p1c1f1 v395 b3 v4 v5 v6 b11 b13 _ e405 _ _ _ (H.enter [4, 5, 6] [8, 1, 2, 3] (by decide) rfl)) ?_
   rintro _ w406 ⟨rfl, G407⟩
   have H : Hd O _ w406 _ [.fz (.sl rCond v1 p0.Kids), .fz (.sl Rp.str v4 p1c0.Phases), .fz (.sl rMoveT v5 p1c0.Moves), .fz (.sl rRule v6 p1c0.Rules), .fz (.at b386 (o387 + g339.toNat * 7) [.int .i64 x384.Kind, .string (bs x384.Name), .string (bs x384.Other), .int .i64 x384.Op, .int .i64 x384.N, .int .i64 x384.Frames, v395]), .fz (.sl rCond v395 x384.Kids), .blk b399 [.int .i64 x384.Kind, .string (bs x384.Name), .string (bs x384.Other), .int .i64 x384.Op, .int .i64 x384.N, .int .i64 x384.Frames, v395] 54, .blk b3 [v4, v5, v6] 26, .blk b13 [.int .i64 p1c1f1] 3, .blk b11 [.func (.func 146) #[] #[.pointer (some ⟨b3, 0, none⟩), .pointer (some ⟨b13, 0, none⟩)]] 48] := H.back [4, 5, 6] [8, 1, 2, 3] rfl G407
   refine ⟨_, rfl, ?_⟩
   refine zI (.int .i64 x404) ?_
   refine (zF (zA (hK403 _ _ ?_)))
   refine zC fun K408 hK408 => ?_
   refine zB ?_
   refine zM (.int .i64 x404) ?_
   obtain ⟨x409, e410, hF⟩ := zG hF
   refine zH (zS (Do_neq (a := x404) (b := 0) rfl rfl) e410) ?_
   refine (zF (zA (hK408 _ _ ?_)))
   refine zW (b := x409) rfl (fun c411 => ?_) (fun c411 => ?_)
   ·have hF := zO c411 hF
    refine zC fun K412 hK412 => ?_
    refine zB ?_
    refine zM (.int .i64 x404) ?_
    refine zI (.int .i64 x404) ?_
    refine (zF (zA (hK412 _ _ ?_)))
    obtain rfl := someI hF
    refine (zZ (yF (zY (zY (yF (zY (post1 (v1 := .int .i64 x404) rfl rfl ?_)))))))
    exact ⟨rfl, H.pick [7, 8, 9] (by decide)⟩
   have hF := zN c411 hF
   refine (yA (yR (zA (hK382 _ _ ?_))))
   refine zB ?_
   obtain ⟨x413, e414, hF⟩ := zG hF
   refine zH (wC (a := g339) (b := 1) rfl rfl e414) ?_
   refine zM (.int .i64 x413) ?_
   exact (zF (zA (meet ⟨(n345, x413), (zK rfl zL), ⟨H.pick [0, 1, 2, 3, 7, 8, 9] (by decide), hF⟩, Nat.lt_succ_self _⟩)))
  have hF := zN c351 hF
  exact (xW (yT (yT (xG (zA (meet ⟨(), zL, ⟨H.pick [1, 2, 3, 4, 5, 6] (by decide), hF⟩⟩))))))
 rintro _ ρ w191 ⟨H, hF⟩
 have hF := join_body ek193 hF
 refine zC fun K415 hK415 => ?_
 refine zB ?_
 refine zI (.int .i64 0) ?_
 refine (zF (zA (hK415 _ _ ?_)))
 obtain rfl := someI hF
 refine (zZ (post1 (v1 := .int .i64 0) rfl rfl ?_))
 exact ⟨rfl, H.pick [3, 4, 5] (by decide)⟩
theorem F_event_each_event_checkRule_2_df146_a0de_s : S_event_each_event_checkRule_2_df146_a0de (F_event_each_event_checkRule_2_df146_a0de) := by
 have h : ∀ n, S_event_each_event_checkRule_2_df146_a0de (F_event_each_event_checkRule_2_df146_a0de_R n) := by
  intro n
  induction n with
  | zero => intro p0 p1c0 p1c1f1 v1 b3 v4 v5 v6 b11 b13 r hF; cases hF
  | succ n ih => intro p0 p1c0 p1c1f1 v1 b3 v4 v5 v6 b11 b13 r hF; exact F_event_each_event_checkRule_2_df146_a0de_B_w (F_event_each_event_checkRule_2_df146_a0de_R n) ih p0 p1c0 p1c1f1 v1 b3 v4 v5 v6 b11 b13 r hF
 exact h FU
set_option maxHeartbeats 4000000 in
theorem F_event_checkRule_w (p0 : Rules) (p1 : Int) (v1 : Value) (v2 : Value) (v3 : Value) (r : Int) (hF : F_event_checkRule p0 p1 = some r) (O S : List Nat) (w : World) (H : Hd O w w S [.fz (.sl Rp.str v1 p0.Phases), .fz (.sl rMoveT v2 p0.Moves), .fz (.sl rRule v3 p0.Rules)]) :
  Calls Tryz.prog 94 ([.agg [v1, v2, v3].toArray, .int .i64 p1] : List Value).toArray w fun e w' => e = .returned (.int .i64 r) ∧ Hd O w w' S [] := by
 unfold F_event_checkRule at hF
 refine yB 34 Tryz.func94 rfl rfl rfl ?_
 refine zC fun K7 hK7 => ?_
 refine zB ?_
 refine yX rfl rfl (Lx_box (cs := [v1, v2, v3]) rfl H) ?_
 rintro _ w10 ⟨b8, rfl, H⟩
 refine yX rfl rfl (Lx_box1 rfl rfl H) ?_
 rintro _ w13 ⟨b11, rfl, H⟩
 refine zI (.int .i64 0) ?_
 refine (zF (zA (hK7 _ _ ?_)))
 refine zC fun K14 hK14 => ?_
 refine zB ?_
 refine zH (fa26_2 rfl) ?_
 refine zH (zT one24 rfl (Cells.get (Blk.cells (H.item (i := 3) rfl)) (i := 2) rfl)) ?_
 refine zH (zT one3 rfl (Cells.get (Blk.cells (H.item (i := 4) rfl)) (i := 0) rfl)) ?_
 obtain ⟨x15, e16, hF⟩ := zD hF
 obtain ⟨b17, o18, c19, cs20, q21, h24, h22, h23, h25⟩ := rd_at (H.item (i := 2) rfl) e16
 obtain ⟨v26, rfl, h27⟩ := rRule_open h24
 have H := H.fzs [.at b17 (o18 + p1.toNat * 8) _, .sl rCond v26 x15.When.Kids] ⟨⟨h22, h23, h25⟩, h27, trivial⟩
 refine zH (Do_idx u24 sz106 q21 rfl (yU e16).1 (yU e16).2.1 rfl rfl) ?_
 refine zH (yQ (yM (cs := [.string (bs x15.Name), .int .i64 x15.When.Kind, .string (bs x15.When.Name), .string (bs x15.When.Other), .int .i64 x15.When.Op, .int .i64 x15.When.N, .int .i64 x15.When.Frames, v26]) agg106 rfl sz106 rfl (H.item (i := 5) rfl).2.2) rfl) ?_
 refine yX rfl rfl (xB zero106 H) ?_
 rintro _ w32 ⟨b30, rfl, H⟩
 refine yN rfl (yH (vs := [.string (bs x15.Name), .int .i64 x15.When.Kind, .string (bs x15.When.Name), .string (bs x15.When.Other), .int .i64 x15.When.Op, .int .i64 x15.When.N, .int .i64 x15.When.Frames, v26]) H 7 rfl sz106 rfl rfl rfl ⟨rfl, rfl, rfl, rfl, rfl, rfl, rfl, (wE (H.item (i := 6) rfl)), trivial⟩ rfl) ?_
 rintro w33 H
 refine (zF (zA (hK14 _ _ ?_)))
 refine zC fun K34 hK34 => ?_
 refine zB ?_
 refine zH (Do_makeFunc rfl) ?_
 refine yX rfl rfl (xB zero48 H) ?_
 rintro _ w37 ⟨b35, rfl, H⟩
 refine yN rfl (xA H 8 rfl sz48 rfl (v := .func (.func 146) #[] #[.pointer (some ⟨b8, 0, none⟩), .pointer (some ⟨b11, 0, none⟩)]) rfl rfl rfl) ?_
 rintro w38 H
 refine (zF (zA (hK34 _ _ ?_)))
 refine zC fun K56 hK56 => ?_
 refine yJ ?_
 refine zC fun K57 hK57 => ?_
 refine zB ?_
 refine zH (fa106_0 rfl) ?_
 refine zH (zT one9 rfl (Cells.get (Blk.cells (H.item (i := 7) rfl)) (i := 0) rfl)) ?_
 have H58 := H
 obtain ⟨x59, e60, hF⟩ := zD hF
 refine zV rfl rfl (zU en68 rfl) (F_event_isName_w x15.Name _ e60 _ _ _ (H.enter [] [] (by decide) rfl)) ?_
 rintro _ w61 ⟨rfl, G62⟩
 have H := H58.step (G62.only : Only [] _ _)
 refine ⟨_, rfl, ?_⟩
 obtain ⟨x63, e64, hF⟩ := zG hF
 refine zH (zS (xY (p := x59) rfl) e64) ?_
 refine zI (.bool x63) ?_
 refine (zF (zA (hK57 _ _ ?_)))
 refine zW (b := x63) rfl (fun c65 => ?_) (fun c65 => ?_)
 ·have hF := zO c65 hF
  refine zC fun K66 hK66 => ?_
  refine zB ?_
  refine zI (.int .i64 8) ?_
  refine (zF (zA (hK66 _ _ ?_)))
  obtain rfl := someI hF
  refine (zZ (yF (zY (post1 (v1 := .int .i64 8) rfl rfl ?_))))
  exact ⟨rfl, H.pick [] (by decide)⟩
 have hF := zN c65 hF
 refine zC fun K67 hK67 => ?_
 refine zB ?_
 refine zH (zT one48 rfl (Cells.get (Blk.cells (H.item (i := 8) rfl)) (i := 0) rfl)) ?_
 refine zH (fa106_0 rfl) ?_
 refine zH (zT one9 rfl (Cells.get (Blk.cells (H.item (i := 7) rfl)) (i := 0) rfl)) ?_
 obtain ⟨x68, e69, hF⟩ := zD hF
 refine zV rfl rfl (DoC_clo en146 rfl rfl) (F_event_checkRule_1_w x15.Name p0 p1 b8 v1 v2 v3 b11 _ e69 _ _ _ (H.enter [3, 4] [0, 1, 2] (by decide) rfl)) ?_
 rintro _ w70 ⟨rfl, G71⟩
 have H : Hd O _ w70 _ [.fz (.sl Rp.str v1 p0.Phases), .fz (.sl rMoveT v2 p0.Moves), .fz (.sl rRule v3 p0.Rules), .fz (.at b17 (o18 + p1.toNat * 8) [.string (bs x15.Name), .int .i64 x15.When.Kind, .string (bs x15.When.Name), .string (bs x15.When.Other), .int .i64 x15.When.Op, .int .i64 x15.When.N, .int .i64 x15.When.Frames, v26]), .fz (.sl rCond v26 x15.When.Kids), .blk b30 [.string (bs x15.Name), .int .i64 x15.When.Kind, .string (bs x15.When.Name), .string (bs x15.When.Other), .int .i64 x15.When.Op, .int .i64 x15.When.N, .int .i64 x15.When.Frames, v26] 106, .blk b35 [.func (.func 146) #[] #[.pointer (some ⟨b8, 0, none⟩), .pointer (some ⟨b11, 0, none⟩)]] 48, .blk b8 [v1, v2, v3] 26, .blk b11 [.int .i64 p1] 3] := H.back [3, 4] [0, 1, 2] rfl G71
 refine ⟨_, rfl, ?_⟩
 refine zI (.bool x68) ?_
 refine (zF (zA (hK67 _ _ ?_)))
 refine zW (b := x68) rfl (fun c72 => ?_) (fun c72 => ?_)
 ·have hF := zO c72 hF
  refine zC fun K73 hK73 => ?_
  refine zB ?_
  refine zI (.int .i64 5) ?_
  refine (zF (zA (hK73 _ _ ?_)))
  obtain rfl := someI hF
  refine (zZ (yF (zY (post1 (v1 := .int .i64 5) rfl rfl ?_))))
  exact ⟨rfl, H.pick [] (by decide)⟩
 have hF := zN c72 hF
 refine (yA (yR (zA (hK56 _ _ ?_))))
 refine zC fun K85 hK85 => ?_
 refine zC fun K86 hK86 => ?_
 refine zB ?_
 refine zH (fa106_1 rfl) ?_
 refine zH (yQ (yM (cs := [.int .i64 x15.When.Kind, .string (bs x15.When.Name), .string (bs x15.When.Other), .int .i64 x15.When.Op, .int .i64 x15.When.N, .int .i64 x15.When.Frames, v26]) agg54 rfl sz54 rfl (Cells.drop (Blk.cells (H.item (i := 5) rfl)) 1 7)) rfl) ?_
 have H87 := H
 obtain ⟨x88, e89, hF⟩ := zD hF
 refine zV rfl rfl (zU en56 rfl) (F_event_CheckCond_w x15.When v26 _ e89 _ _ _ (H.enter [] [4] (by decide) rfl)) ?_
 rintro _ w90 ⟨rfl, G91⟩
 have H := H87.step (G91.only : Only [] _ _)
 refine ⟨_, rfl, ?_⟩
 refine zI (.int .i64 x88) ?_
 refine (zF (zA (hK86 _ _ ?_)))
 refine zC fun K92 hK92 => ?_
 refine zB ?_
 refine zM (.int .i64 x88) ?_
 obtain ⟨x93, e94, hF⟩ := zG hF
 refine zH (zS (Do_neq (a := x88) (b := 0) rfl rfl) e94) ?_
 refine (zF (zA (hK92 _ _ ?_)))
 refine zW (b := x93) rfl (fun c95 => ?_) (fun c95 => ?_)
 ·have hF := zO c95 hF
  refine zC fun K96 hK96 => ?_
  refine zB ?_
  refine zM (.int .i64 x88) ?_
  refine zI (.int .i64 x88) ?_
  refine (zF (zA (hK96 _ _ ?_)))
  obtain rfl := someI hF
  refine (zZ (zY (post1 (v1 := .int .i64 x88) rfl rfl ?_)))
  exact ⟨rfl, H.pick [] (by decide)⟩
 have hF := zN c95 hF
 refine (yA (zA (hK85 _ _ ?_)))
 refine zC fun K97 hK97 => ?_
 refine zB ?_
 refine zH (fa106_1 rfl) ?_
 refine zH (yQ (yM (cs := [.int .i64 x15.When.Kind, .string (bs x15.When.Name), .string (bs x15.When.Other), .int .i64 x15.When.Op, .int .i64 x15.When.N, .int .i64 x15.When.Frames, v26]) agg54 rfl sz54 rfl (Cells.drop (Blk.cells (H.item (i := 5) rfl)) 1 7)) rfl) ?_
 refine zH (Do_makeFunc rfl) ?_
 obtain ⟨x98, e99, hF⟩ := zD hF
 refine zV rfl rfl (zU en108 rfl) (F_event_each_event_checkRule_2_df146_a0de_s x15.When p0 p1 v26 b8 v1 v2 v3 b35 b11 _ e99 _ _ _ (H.enter [7, 8, 6] [4, 0, 1, 2] (by decide) rfl)) ?_
 rintro _ w100 ⟨rfl, G101⟩
 have H : Hd O _ w100 _ [.fz (.sl Rp.str v1 p0.Phases), .fz (.sl rMoveT v2 p0.Moves), .fz (.sl rRule v3 p0.Rules), .fz (.at b17 (o18 + p1.toNat * 8) [.string (bs x15.Name), .int .i64 x15.When.Kind, .string (bs x15.When.Name), .string (bs x15.When.Other), .int .i64 x15.When.Op, .int .i64 x15.When.N, .int .i64 x15.When.Frames, v26]), .fz (.sl rCond v26 x15.When.Kids), .blk b30 [.string (bs x15.Name), .int .i64 x15.When.Kind, .string (bs x15.When.Name), .string (bs x15.When.Other), .int .i64 x15.When.Op, .int .i64 x15.When.N, .int .i64 x15.When.Frames, v26] 106, .blk b8 [v1, v2, v3] 26, .blk b11 [.int .i64 p1] 3, .blk b35 [.func (.func 146) #[] #[.pointer (some ⟨b8, 0, none⟩), .pointer (some ⟨b11, 0, none⟩)]] 48] := H.back [7, 8, 6] [4, 0, 1, 2] rfl G101
 refine ⟨_, rfl, ?_⟩
 refine zI (.int .i64 x98) ?_
 refine (zF (zA (hK97 _ _ ?_)))
 obtain rfl := someI hF
 refine (zZ (post1 (v1 := .int .i64 x98) rfl rfl ?_))
 exact ⟨rfl, H.pick [] (by decide)⟩
set_option maxHeartbeats 4000000 in
set_option maxRecDepth 100000 in
theorem F_event_Check_w (p0 : Rules) (v1 : Value) (v2 : Value) (v3 : Value) (r : Int) (hF : F_event_Check p0 = some r) (O S : List Nat) (w : World) (H : Hd O w w S [.fz (.sl Rp.str v1 p0.Phases), .fz (.sl rMoveT v2 p0.Moves), .fz (.sl rRule v3 p0.Rules)]) :
  Calls Tryz.prog 40 ([.agg [v1, v2, v3].toArray] : List Value).toArray w fun e w' => e = .returned (.int .i64 r) ∧ Hd O w w' S [] := by
 unfold F_event_Check at hF
 refine yB 71 Tryz.func40 rfl rfl rfl ?_
 refine zC fun K7 hK7 => ?_
 refine zB ?_
 refine yX rfl rfl (Lx_box (cs := [v1, v2, v3]) rfl H) ?_
 rintro _ w10 ⟨b8, rfl, H⟩
 refine zI (.int .i64 0) ?_
 refine (zF (zA (hK7 _ _ ?_)))
 refine zC fun K42 hK42 => ?_
 obtain ⟨g69, hF, hK71⟩ := zD hF
 refine yL [10, 11, 12, 13, 14, 15, 16, 17, 18, 19, 20, 21, 22, 23, 24, 25] (fun (g : Unit) => [(25, .bool g69)]) (fun g wl => Hd O w wl S [.fz (.sl Rp.str v1 p0.Phases), .fz (.sl rMoveT v2 p0.Moves), .fz (.sl rRule v3 p0.Rules), .blk b8 [v1, v2, v3] 26]) ?_ ?_
 ·skip
  refine zB ?_
  refine zH (fa26_0 rfl) ?_
  refine zH (zT one22 rfl (Cells.get (Blk.cells (H.item (i := 3) rfl)) (i := 0) rfl)) ?_
  obtain ⟨x72, e73, hF⟩ := zG hF
  obtain ⟨a74, c75, q76⟩ := SlF.len ((H.item (i := 0) rfl))
  refine zH (yQ (Do_len u22 q76) (congrArg (Value.int .i64) e73)) ?_
  obtain ⟨x77, e78, hF⟩ := zG hF
  refine zH (zS (Do_gtr (a := x72) (b := 20) rfl rfl) e78) ?_
  obtain ⟨j79, hF, hK80⟩ := zD hF
  refine RL_cutS 6 [14, 15, 16, 17, 18, 19] [(19, .bool j79)] (fun wl => Hd O w wl S [.fz (.sl Rp.str v1 p0.Phases), .fz (.sl rMoveT v2 p0.Moves), .fz (.sl rRule v3 p0.Rules), .blk b8 [v1, v2, v3] 26]) ?_ ?_
  ·skip
   refine yK (b := x77) rfl rfl rfl (fun c82 => ?_) (fun c82 => ?_)
   ·have hF := zO c82 hF
    refine yD ?_
    refine yD ?_
    refine yD ?_
    refine yD ?_
    refine zH (yI (v := .bool true) rfl rfl) ?_
    obtain rfl := someI hF
    exact zF (zA (meet ⟨(zK rfl zL), H.pick [0, 1, 2, 3] (by decide)⟩))
   have hF := zN c82 hF
   refine zH (fa26_1 rfl) ?_
   refine zH (zT one23 rfl (Cells.get (Blk.cells (H.item (i := 3) rfl)) (i := 1) rfl)) ?_
   obtain ⟨x83, e84, hF⟩ := zG hF
   obtain ⟨a85, c86, q87⟩ := SlF.len ((H.item (i := 1) rfl))
   refine zH (yQ (Do_len u23 q87) (congrArg (Value.int .i64) e84)) ?_
   obtain ⟨x88, e89, hF⟩ := zG hF
   refine zH (zS (Do_gtr (a := x83) (b := 60) rfl rfl) e89) ?_
   refine zH (yE (v := .bool x88) rfl rfl) ?_
   obtain rfl := someI hF
   exact zF (zA (meet ⟨(zK rfl zL), H.pick [0, 1, 2, 3] (by decide)⟩))
  rintro ρ w81 H
  have hF := hK80
  refine yK (b := j79) rfl rfl rfl (fun c90 => ?_) (fun c90 => ?_)
  ·have hF := zO c90 hF
   refine yD ?_
   refine yD ?_
   refine yD ?_
   refine yD ?_
   refine zH (yI (v := .bool true) rfl rfl) ?_
   obtain rfl := someI hF
   exact (zF (zA (meet ⟨(), (zK rfl zL), H.pick [0, 1, 2, 3] (by decide)⟩)))
  have hF := zN c90 hF
  refine zH (fa26_2 rfl) ?_
  refine zH (zT one24 rfl (Cells.get (Blk.cells (H.item (i := 3) rfl)) (i := 2) rfl)) ?_
  obtain ⟨x91, e92, hF⟩ := zG hF
  obtain ⟨a93, c94, q95⟩ := SlF.len ((H.item (i := 2) rfl))
  refine zH (yQ (Do_len u24 q95) (congrArg (Value.int .i64) e92)) ?_
  obtain ⟨x96, e97, hF⟩ := zG hF
  refine zH (zS (Do_gtr (a := x91) (b := 60) rfl rfl) e97) ?_
  refine zH (yE (v := .bool x96) rfl rfl) ?_
  obtain rfl := someI hF
  exact (zF (zA (meet ⟨(), (zK rfl zL), H.pick [0, 1, 2, 3] (by decide)⟩)))
 rintro _ ρ w70 H
 have hF := hK71
 refine zW (b := g69) rfl (fun c98 => ?_) (fun c98 => ?_)
 ·have hF := zO c98 hF
  refine zC fun K99 hK99 => ?_
  refine zB ?_
  refine zI (.int .i64 3) ?_
  refine (zF (zA (hK99 _ _ ?_)))
  obtain rfl := someI hF
  refine (zZ (zY (post1 (v1 := .int .i64 3) rfl rfl ?_)))
  exact ⟨rfl, H.pick [] (by decide)⟩
 have hF := zN c98 hF
 refine (yA (zA (hK42 _ _ ?_)))
 obtain ⟨k320, ek321, hF⟩ := joinO_some hF
 refine yL [2, 3, 4, 26, 27, 28, 29, 30, 31, 32, 33, 34, 35, 36, 37, 38, 39, 40, 41, 42, 43] (fun (g : Unit) => []) (fun g wl => Hd O w wl S [.fz (.sl Rp.str v1 p0.Phases), .fz (.sl rMoveT v2 p0.Moves), .fz (.sl rRule v3 p0.Rules), .blk b8 [v1, v2, v3] 26] ∧ k320 () = some r) ?_ ?_
 ·skip
  refine zC fun K322 hK322 => ?_
  refine zB ?_
  refine zH (fa26_0 rfl) ?_
  refine zH (zT one22 rfl (Cells.get (Blk.cells (H.item (i := 3) rfl)) (i := 0) rfl)) ?_
  obtain ⟨x323, e324, hF⟩ := zG hF
  obtain ⟨a325, c326, q327⟩ := SlF.len ((H.item (i := 0) rfl))
  refine zH (yQ (Do_len u22 q327) (congrArg (Value.int .i64) e324)) ?_
  refine zM (.int .i64 0) ?_
  refine (zF (zA (hK322 _ _ ?_)))
  refine yJ ?_
  unfold F_event_Check_L1 at hF
  obtain ⟨B536, n537, eB538, hF⟩ := yY hF
  refine xK [2, 3, 4, 29, 30, 31, 32, 33, 34, 35, 36, 37, 38, 39, 40, 41, 42, 43] (fun (g : Nat × Int) => [(29, .int .i64 g.2)]) (fun g wl => Hd O w wl S [.fz (.sl Rp.str v1 p0.Phases), .fz (.sl rMoveT v2 p0.Moves), .fz (.sl rRule v3 p0.Rules), .blk b8 [v1, v2, v3] 26] ∧ loopN B536 g.1 g.2 = some r) (fun g => g.1) (n537, 0) (zK rfl zL) ⟨H.pick [0, 1, 2, 3] (by decide), hF⟩ ?_
  clear H hF
  rintro ⟨n537, g535⟩ ρ w540 ⟨H, hF⟩
  obtain ⟨n541, rfl, hF⟩ := xE hF
  have hF := xC eB538 hF
  refine zC fun K542 hK542 => ?_
  refine zB ?_
  obtain ⟨x543, e544, hF⟩ := zG hF
  refine zH (zS (xZ (a := g535) (b := x323) rfl rfl) e544) ?_
  refine (zF (zA (hK542 _ _ ?_)))
  refine zC fun K546 hK546 => ?_
  refine zW (b := x543) rfl (fun c547 => ?_) (fun c547 => ?_)
  ·have hF := zO c547 hF
   refine (yA (zA (hK546 _ _ ?_)))
   refine zC fun K595 hK595 => ?_
   refine yJ ?_
   refine zC fun K596 hK596 => ?_
   refine zB ?_
   refine zM (.int .i64 g535) ?_
   obtain ⟨x597, e598, hF⟩ := zD hF
   obtain ⟨b599, o600, c601, cs602, q603, h606, h604, h605, h607⟩ := rd_at (H.item (i := 0) rfl) e598
   obtain rfl : cs602 = [.string (bs x597)] := h606
   have H := H.fz (.at b599 (o600 + g535.toNat * 1) _) ⟨h604, h605, h607⟩
   refine zH (Do_idx u22 sz9 q603 rfl (yU e598).1 (yU e598).2.1 rfl rfl) ?_
   refine zH (zT one9 rfl (Cells.get (H.item (i := 4) rfl).2.2 (i := 0) rfl)) ?_
   refine zI (.int .i64 g535) ?_
   refine zI (.string (bs x597)) ?_
   refine (zF (zA (hK596 _ _ ?_)))
   refine zC fun K619 hK619 => ?_
   refine zC fun K620 hK620 => ?_
   refine zB ?_
   refine zM (.string (bs x597)) ?_
   have H621 := H
   obtain ⟨x622, e623, hF⟩ := zD hF
   refine zV rfl rfl (zU en68 rfl) (F_event_isName_w x597 _ e623 _ _ _ (H.enter [] [] (by decide) rfl)) ?_
   rintro _ w624 ⟨rfl, G625⟩
   have H := H621.step (G625.only : Only [] _ _)
   refine ⟨_, rfl, ?_⟩
   obtain ⟨x626, e627, hF⟩ := zG hF
   refine zH (zS (xY (p := x622) rfl) e627) ?_
   refine (zF (zA (hK620 _ _ ?_)))
   refine zW (b := x626) rfl (fun c628 => ?_) (fun c628 => ?_)
   ·have hF := zO c628 hF
    refine zC fun K629 hK629 => ?_
    refine zB ?_
    refine zI (.int .i64 8) ?_
    refine (zF (zA (hK629 _ _ ?_)))
    obtain rfl := someI hF
    refine (zZ (zY (yF (zY (zY (yF (zY (post1 (v1 := .int .i64 8) rfl rfl ?_))))))))
    exact ⟨rfl, H.pick [] (by decide)⟩
   have hF := zN c628 hF
   refine (yA (zA (hK619 _ _ ?_)))
   refine zC fun K630 hK630 => ?_
   refine zB ?_
   refine zH (fa26_0 rfl) ?_
   refine zH (zT one22 rfl (Cells.get (Blk.cells (H.item (i := 3) rfl)) (i := 0) rfl)) ?_
   refine zM (.int .i64 g535) ?_
   obtain ⟨x631, e632, hF⟩ := zD hF
   refine RL_exP rfl rfl (Lx_slice_h u22 sz9 (H.item (i := 0) rfl) rfl rfl e632) ?_
   rintro v633 h634
   have H := H.fz (.sl Rp.str v633 x631) h634
   refine zM (.string (bs x597)) ?_
   have H636 := H
   obtain ⟨x637, e638, hF⟩ := zD hF
   refine zV rfl rfl (zU en65 rfl) (F_slices_Contains___string_string__w x631 x597 v633 _ e638 _ _ _ (H.enter [] [5] (by decide) rfl)) ?_
   rintro _ w639 ⟨rfl, G640⟩
   have H := H636.step (G640.only : Only [] _ _)
   refine ⟨_, rfl, ?_⟩
   refine (zF (zA (hK630 _ _ ?_)))
   refine zW (b := x637) rfl (fun c641 => ?_) (fun c641 => ?_)
   ·have hF := zO c641 hF
    refine zC fun K642 hK642 => ?_
    refine zB ?_
    refine zI (.int .i64 5) ?_
    refine (zF (zA (hK642 _ _ ?_)))
    obtain rfl := someI hF
    refine (zZ (yF (zY (zY (yF (zY (post1 (v1 := .int .i64 5) rfl rfl ?_)))))))
    exact ⟨rfl, H.pick [] (by decide)⟩
   have hF := zN c641 hF
   refine (yA (yR (zA (hK595 _ _ ?_))))
   refine zB ?_
   obtain ⟨x643, e644, hF⟩ := zG hF
   refine zH (wC (a := g535) (b := 1) rfl rfl e644) ?_
   refine zM (.int .i64 x643) ?_
   exact (zF (zA (meet ⟨(n541, x643), (zK rfl zL), ⟨H.pick [0, 1, 2, 3] (by decide), hF⟩, Nat.lt_succ_self _⟩)))
  have hF := zN c547 hF
  exact (xW (yT (yT (xG (zA (meet ⟨(), zL, ⟨H.pick [0, 1, 2, 3] (by decide), hF⟩⟩))))))
 rintro _ ρ w319 ⟨H, hF⟩
 have hF := join_body ek321 hF
 obtain ⟨k801, ek802, hF⟩ := joinO_some hF
 refine yL [2, 6, 7, 44, 45, 46, 47, 48, 49, 50, 51, 52, 53, 54, 55, 56, 57] (fun (g : Unit) => []) (fun g wl => Hd O w wl S [.fz (.sl Rp.str v1 p0.Phases), .fz (.sl rMoveT v2 p0.Moves), .fz (.sl rRule v3 p0.Rules), .blk b8 [v1, v2, v3] 26] ∧ k801 () = some r) ?_ ?_
 ·skip
  refine zC fun K803 hK803 => ?_
  refine zB ?_
  refine zH (fa26_1 rfl) ?_
  refine zH (zT one23 rfl (Cells.get (Blk.cells (H.item (i := 3) rfl)) (i := 1) rfl)) ?_
  obtain ⟨x804, e805, hF⟩ := zG hF
  obtain ⟨a806, c807, q808⟩ := SlF.len ((H.item (i := 1) rfl))
  refine zH (yQ (Do_len u23 q808) (congrArg (Value.int .i64) e805)) ?_
  refine zM (.int .i64 0) ?_
  refine (zF (zA (hK803 _ _ ?_)))
  refine yJ ?_
  unfold F_event_Check_L2 at hF
  obtain ⟨B953, n954, eB955, hF⟩ := yY hF
  refine xK [2, 6, 7, 47, 48, 49, 50, 51, 52, 53, 54, 55, 56, 57] (fun (g : Nat × Int) => [(47, .int .i64 g.2)]) (fun g wl => Hd O w wl S [.fz (.sl Rp.str v1 p0.Phases), .fz (.sl rMoveT v2 p0.Moves), .fz (.sl rRule v3 p0.Rules), .blk b8 [v1, v2, v3] 26] ∧ loopN B953 g.1 g.2 = some r) (fun g => g.1) (n954, 0) (zK rfl zL) ⟨H.pick [0, 1, 2, 3] (by decide), hF⟩ ?_
  clear H hF
  rintro ⟨n954, g952⟩ ρ w957 ⟨H, hF⟩
  obtain ⟨n958, rfl, hF⟩ := xE hF
  have hF := xC eB955 hF
  refine zC fun K959 hK959 => ?_
  refine zB ?_
  obtain ⟨x960, e961, hF⟩ := zG hF
  refine zH (zS (xZ (a := g952) (b := x804) rfl rfl) e961) ?_
  refine (zF (zA (hK959 _ _ ?_)))
  refine zC fun K963 hK963 => ?_
  refine zW (b := x960) rfl (fun c964 => ?_) (fun c964 => ?_)
  ·have hF := zO c964 hF
   refine (yA (zA (hK963 _ _ ?_)))
   refine zC fun K996 hK996 => ?_
   refine yJ ?_
   refine zC fun K997 hK997 => ?_
   refine zB ?_
   obtain ⟨x998, e999, hF⟩ := zD hF
   obtain ⟨b1000, o1001, c1002, cs1003, q1004, h1007, h1005, h1006, h1008⟩ := rd_at (H.item (i := 1) rfl) e999
   obtain ⟨v1009, rfl, h1010⟩ := rMoveT_open h1007
   have H := H.fzs [.at b1000 (o1001 + g952.toNat * 9) _, .sl rCond v1009 x998.When.Kids] ⟨⟨h1005, h1006, h1008⟩, h1010, trivial⟩
   refine zH (Do_idx u23 sz102 q1004 rfl (yU e999).1 (yU e999).2.1 rfl rfl) ?_
   refine zH (yQ (yM (cs := [.string (bs x998.From), .string (bs x998.To), .int .i64 x998.When.Kind, .string (bs x998.When.Name), .string (bs x998.When.Other), .int .i64 x998.When.Op, .int .i64 x998.When.N, .int .i64 x998.When.Frames, v1009]) agg102 rfl sz102 rfl (H.item (i := 4) rfl).2.2) rfl) ?_
   refine yX rfl rfl (xB zero102 H) ?_
   rintro _ w1015 ⟨b1013, rfl, H⟩
   refine yN rfl (yH (vs := [.string (bs x998.From), .string (bs x998.To), .int .i64 x998.When.Kind, .string (bs x998.When.Name), .string (bs x998.When.Other), .int .i64 x998.When.Op, .int .i64 x998.When.N, .int .i64 x998.When.Frames, v1009]) H 6 rfl sz102 rfl rfl rfl ⟨rfl, rfl, rfl, rfl, rfl, rfl, rfl, rfl, (wE (H.item (i := 5) rfl)), trivial⟩ rfl) ?_
   rintro w1016 H
   refine (zF (zA (hK997 _ _ ?_)))
   refine zC fun K1017 hK1017 => ?_
   refine zB ?_
   refine zH (yQ (yM (cs := [v1, v2, v3]) agg26 rfl sz26 rfl (Blk.cells (H.item (i := 3) rfl))) rfl) ?_
   refine zH (yQ (yM (cs := [.string (bs x998.From), .string (bs x998.To), .int .i64 x998.When.Kind, .string (bs x998.When.Name), .string (bs x998.When.Other), .int .i64 x998.When.Op, .int .i64 x998.When.N, .int .i64 x998.When.Frames, v1009]) agg102 rfl sz102 rfl (Blk.cells (H.item (i := 6) rfl))) rfl) ?_
   have H1018 := H
   obtain ⟨x1019, e1020, hF⟩ := zD hF
   refine zV rfl rfl (zU en93 rfl) (F_event_checkMove_w p0 x998 v1 v2 v3 v1009 _ e1020 _ _ _ (H.enter [] [0, 1, 2, 5] (by decide) rfl)) ?_
   rintro _ w1021 ⟨rfl, G1022⟩
   have H := H1018.step (G1022.only : Only [] _ _)
   refine ⟨_, rfl, ?_⟩
   refine zI (.int .i64 x1019) ?_
   refine (zF (zA (hK1017 _ _ ?_)))
   refine zC fun K1023 hK1023 => ?_
   refine zB ?_
   refine zM (.int .i64 x1019) ?_
   obtain ⟨x1024, e1025, hF⟩ := zG hF
   refine zH (zS (Do_neq (a := x1019) (b := 0) rfl rfl) e1025) ?_
   refine (zF (zA (hK1023 _ _ ?_)))
   refine zW (b := x1024) rfl (fun c1026 => ?_) (fun c1026 => ?_)
   ·have hF := zO c1026 hF
    refine zC fun K1027 hK1027 => ?_
    refine zB ?_
    refine zM (.int .i64 x1019) ?_
    refine zI (.int .i64 x1019) ?_
    refine (zF (zA (hK1027 _ _ ?_)))
    obtain rfl := someI hF
    refine (zZ (yF (zY (zY (yF (zY (post1 (v1 := .int .i64 x1019) rfl rfl ?_)))))))
    exact ⟨rfl, H.pick [] (by decide)⟩
   have hF := zN c1026 hF
   refine (yA (yR (zA (hK996 _ _ ?_))))
   refine zB ?_
   obtain ⟨x1028, e1029, hF⟩ := zG hF
   refine zH (wC (a := g952) (b := 1) rfl rfl e1029) ?_
   refine zM (.int .i64 x1028) ?_
   exact (zF (zA (meet ⟨(n958, x1028), (zK rfl zL), ⟨H.pick [0, 1, 2, 3] (by decide), hF⟩, Nat.lt_succ_self _⟩)))
  have hF := zN c964 hF
  exact (xW (yT (yT (xG (zA (meet ⟨(), zL, ⟨H.pick [0, 1, 2, 3] (by decide), hF⟩⟩))))))
 rintro _ ρ w800 ⟨H, hF⟩
 have hF := join_body ek802 hF
 obtain ⟨k1110, ek1111, hF⟩ := joinO_some hF
 refine yL [2, 8, 9, 58, 59, 60, 61, 62, 63, 64, 65, 66, 67, 68, 69, 70] (fun (g : Unit) => []) (fun g wl => Hd O w wl S [] ∧ k1110 () = some r) ?_ ?_
 ·skip
  refine zC fun K1112 hK1112 => ?_
  refine zB ?_
  refine zH (fa26_2 rfl) ?_
  refine zH (zT one24 rfl (Cells.get (Blk.cells (H.item (i := 3) rfl)) (i := 2) rfl)) ?_
  obtain ⟨x1113, e1114, hF⟩ := zG hF
  obtain ⟨a1115, c1116, q1117⟩ := SlF.len ((H.item (i := 2) rfl))
  refine zH (yQ (Do_len u24 q1117) (congrArg (Value.int .i64) e1114)) ?_
  refine zM (.int .i64 0) ?_
  refine (zF (zA (hK1112 _ _ ?_)))
  refine yJ ?_
  unfold F_event_Check_L3 at hF
  obtain ⟨B1186, n1187, eB1188, hF⟩ := yY hF
  refine xK [2, 8, 9, 61, 62, 63, 64, 65, 66, 67, 68, 69, 70] (fun (g : Nat × Int) => [(61, .int .i64 g.2)]) (fun g wl => Hd O w wl S [.fz (.sl Rp.str v1 p0.Phases), .fz (.sl rMoveT v2 p0.Moves), .fz (.sl rRule v3 p0.Rules), .blk b8 [v1, v2, v3] 26] ∧ loopN B1186 g.1 g.2 = some r) (fun g => g.1) (n1187, 0) (zK rfl zL) ⟨H.pick [0, 1, 2, 3] (by decide), hF⟩ ?_
  clear H hF
  rintro ⟨n1187, g1185⟩ ρ w1190 ⟨H, hF⟩
  obtain ⟨n1191, rfl, hF⟩ := xE hF
  have hF := xC eB1188 hF
  refine zC fun K1192 hK1192 => ?_
  refine zB ?_
  obtain ⟨x1193, e1194, hF⟩ := zG hF
  refine zH (zS (xZ (a := g1185) (b := x1113) rfl rfl) e1194) ?_
  refine (zF (zA (hK1192 _ _ ?_)))
  refine zC fun K1196 hK1196 => ?_
  refine zW (b := x1193) rfl (fun c1197 => ?_) (fun c1197 => ?_)
  ·have hF := zO c1197 hF
   refine (yA (zA (hK1196 _ _ ?_)))
   refine zC fun K1210 hK1210 => ?_
   refine yJ ?_
   refine zC fun K1211 hK1211 => ?_
   refine zB ?_
   refine zM (.int .i64 g1185) ?_
   refine zI (.int .i64 g1185) ?_
   refine (zF (zA (hK1211 _ _ ?_)))
   refine zC fun K1212 hK1212 => ?_
   refine zB ?_
   refine zH (yQ (yM (cs := [v1, v2, v3]) agg26 rfl sz26 rfl (Blk.cells (H.item (i := 3) rfl))) rfl) ?_
   refine zM (.int .i64 g1185) ?_
   have H1213 := H
   obtain ⟨x1214, e1215, hF⟩ := zD hF
   refine zV rfl rfl (zU en94 rfl) (F_event_checkRule_w p0 g1185 v1 v2 v3 _ e1215 _ _ _ (H.enter [] [0, 1, 2] (by decide) rfl)) ?_
   rintro _ w1216 ⟨rfl, G1217⟩
   have H := H1213.step (G1217.only : Only [] _ _)
   refine ⟨_, rfl, ?_⟩
   refine zI (.int .i64 x1214) ?_
   refine (zF (zA (hK1212 _ _ ?_)))
   refine zC fun K1218 hK1218 => ?_
   refine zB ?_
   refine zM (.int .i64 x1214) ?_
   obtain ⟨x1219, e1220, hF⟩ := zG hF
   refine zH (zS (Do_neq (a := x1214) (b := 0) rfl rfl) e1220) ?_
   refine (zF (zA (hK1218 _ _ ?_)))
   refine zW (b := x1219) rfl (fun c1221 => ?_) (fun c1221 => ?_)
   ·have hF := zO c1221 hF
    refine zC fun K1222 hK1222 => ?_
    refine zB ?_
    refine zM (.int .i64 x1214) ?_
    refine zI (.int .i64 x1214) ?_
    refine (zF (zA (hK1222 _ _ ?_)))
    obtain rfl := someI hF
    refine (zZ (yF (zY (zY (yF (zY (post1 (v1 := .int .i64 x1214) rfl rfl ?_)))))))
    exact ⟨rfl, H.pick [] (by decide)⟩
   have hF := zN c1221 hF
   refine (yA (yR (zA (hK1210 _ _ ?_))))
   refine zB ?_
   obtain ⟨x1223, e1224, hF⟩ := zG hF
   refine zH (wC (a := g1185) (b := 1) rfl rfl e1224) ?_
   refine zM (.int .i64 x1223) ?_
   exact (zF (zA (meet ⟨(n1191, x1223), (zK rfl zL), ⟨H.pick [0, 1, 2, 3] (by decide), hF⟩, Nat.lt_succ_self _⟩)))
  have hF := zN c1197 hF
  exact (xW (yT (yT (xG (zA (meet ⟨(), zL, ⟨H.pick [] (by decide), hF⟩⟩))))))
 rintro _ ρ w1109 ⟨H, hF⟩
 have hF := join_body ek1111 hF
 refine zC fun K1225 hK1225 => ?_
 refine zB ?_
 refine zI (.int .i64 0) ?_
 refine (zF (zA (hK1225 _ _ ?_)))
 obtain rfl := someI hF
 refine (zZ (post1 (v1 := .int .i64 0) rfl rfl ?_))
 exact ⟨rfl, H.pick [] (by decide)⟩
set_option maxHeartbeats 4000000 in
theorem F_event_Read_w (p0 : Str) (r : Rules × Int × Int) (hF : F_event_Read p0 = some r) (O S : List Nat) (w : World) (H : Hd O w w S [.fz (.at 0 0 ((Fl.arr 7 Fl.str).f zJ)), .fz (.gi 4)]) :
  Calls Tryz.prog 13 ([.string (bs p0)] : List Value).toArray w fun e w' => ∃ u3 u4 u5, e = .returned (.tuple #[.agg [u3, u4, u5].toArray, .int .i64 r.2.1, .int .i64 r.2.2]) ∧ Hd O w w' S [.fz (.sl Rp.str u3 r.1.Phases), .fz (.sl rMoveT u4 r.1.Moves), .fz (.sl rRule u5 r.1.Rules)] := by
 unfold F_event_Read at hF
 refine yB 39 Tryz.func13 rfl rfl rfl ?_
 refine zC fun K6 hK6 => ?_
 refine zB ?_
 refine yX rfl rfl (xB zero26 H) ?_
 rintro _ w9 ⟨b7, rfl, H⟩
 refine zI (.int .i64 0) ?_
 refine zI (.int .i64 0) ?_
 refine (zF (zA (hK6 _ _ ?_)))
 refine zC fun K18 hK18 => ?_
 refine zC fun K19 hK19 => ?_
 refine zB ?_
 refine zM (.string (bs p0)) ?_
 obtain ⟨x20, e21, hF⟩ := zG hF
 refine zH (yQ (Do_slen (s1 := p0) u9 rfl) (congrArg (Value.int .i64) e21)) ?_
 obtain ⟨x22, e23, hF⟩ := zG hF
 refine zH (zS (Do_gtr (a := x20) (b := 200000) rfl rfl) e23) ?_
 refine (zF (zA (hK19 _ _ ?_)))
 refine zW (b := x22) rfl (fun c24 => ?_) (fun c24 => ?_)
 ·have hF := zO c24 hF
  refine zC fun K25 hK25 => ?_
  refine zB ?_
  refine zH (xH (cs := [.slice none 0 0, .slice none 0 0, .slice none 0 0]) bz26) ?_
  refine yN rfl (yH (vs := [.slice none 0 0, .slice none 0 0, .slice none 0 0]) H 2 rfl sz26 rfl rfl rfl ⟨rfl, rfl, rfl, trivial⟩ rfl) ?_
  rintro w26 H
  refine zI (.int .i64 0) ?_
  refine zI (.int .i64 3) ?_
  refine (zF (zA (hK25 _ _ ?_)))
  have H := H.fz (.sl Rp.str (.slice none 0 0) []) SlF.nil
  have H := H.fz (.sl rMoveT (.slice none 0 0) []) SlF.nil
  have H := H.fz (.sl rRule (.slice none 0 0) []) SlF.nil
  obtain rfl := someI hF
  refine (zZ (zY (postc2 (v1 := .int .i64 0) (v2 := .int .i64 3) rfl rfl (yC agg26 sz26 rfl (Blk.cells (H.item (i := 2) rfl))) rfl rfl ?_)))
  exact ⟨.slice none 0 0, .slice none 0 0, .slice none 0 0, rfl, H.pick [3, 4, 5] (by decide)⟩
 have hF := zN c24 hF
 refine (yA (zA (hK18 _ _ ?_)))
 refine zC fun K30 hK30 => ?_
 refine zB ?_
 refine zM (.string (bs p0)) ?_
 refine zH (xH (cs := [.string (bs p0), .int .i64 0, .int .i64 0, .int .i64 0, .int .i64 0, .string (bs []), .slice none 0 0, .slice none 0 0, .slice none 0 0]) (bt88_0 _)) ?_
 refine yX rfl rfl (Lx_box (cs := [.string (bs p0), .int .i64 0, .int .i64 0, .int .i64 0, .int .i64 0, .string (bs []), .slice none 0 0, .slice none 0 0, .slice none 0 0]) rfl H) ?_
 rintro _ w33 ⟨b31, rfl, H⟩
 refine zI (.pointer (some ⟨b31, 0, none⟩)) ?_
 refine (zF (zA (hK30 _ _ ?_)))
 refine zC fun K63 hK63 => ?_
 refine zC fun K64 hK64 => ?_
 refine zB ?_
 refine zM (.pointer (some ⟨b31, 0, none⟩)) ?_
 refine zH (Do_makeFuncB rfl) ?_
 have H := own_nil H Rp.str 9
 have H := own_nil H rMoveT 102
 have H := own_nil H rRule 106
 obtain ⟨⟨x68, x69⟩, e70, hF⟩ := zD hF
 refine zV rfl rfl (zU en38 rfl) (F_caught_w (EventReader.mk p0 0 (EventToken.mk 0 0 0 []) (Rules.mk [] [] [])) b31 (.slice none 0 0) (.slice none 0 0) (.slice none 0 0) _ e70 _ _ _ (H.enter [4, 5, 6, 3] [0, 1] (by decide) rfl)) ?_
 rintro _ w77 ⟨v71, v72, v73, rfl, G78⟩
 have H : Hd O _ w77 _ [.fz (.at 0 0 ((Fl.arr 7 Fl.str).f zJ)), .fz (.gi 4), .blk b7 [.slice none 0 0, .slice none 0 0, .slice none 0 0] 26, .own Rp.str v71 9 x69.r.Phases, .own rMoveT v72 102 x69.r.Moves, .own rRule v73 106 x69.r.Rules, .blk b31 [.string (bs x69.text), .int .i64 x69.at_, .int .i64 x69.now.kind, .int .i64 x69.now.at_, .int .i64 x69.now.n, .string (bs x69.now.text), v71, v72, v73] 88] := H.back [4, 5, 6, 3] [0, 1] rfl G78
 refine ⟨_, rfl, ?_⟩
 refine yX rfl rfl (xB zero90 H) ?_
 rintro _ w81 ⟨b79, rfl, H⟩
 refine yN rfl (yH (vs := [.int .i64 x68.at_, .int .i64 x68.e]) H 7 rfl sz90 rfl rfl rfl ⟨rfl, rfl, trivial⟩ rfl) ?_
 rintro w82 H
 refine (zF (zA (hK64 _ _ ?_)))
 refine zC fun K83 hK83 => ?_
 refine zB ?_
 refine zH (fa90_1 rfl) ?_
 refine zH (zT one30 rfl (Cells.get (Blk.cells (H.item (i := 7) rfl)) (i := 1) rfl)) ?_
 obtain ⟨x84, e85, hF⟩ := zG hF
 refine zH (zS (Do_neq (a := x68.e) (b := 0) rfl rfl) e85) ?_
 refine (zF (zA (hK83 _ _ ?_)))
 refine zW (b := x84) rfl (fun c86 => ?_) (fun c86 => ?_)
 ·have hF := zO c86 hF
  refine zC fun K87 hK87 => ?_
  have H := H.freezeB (i := 7) rfl
  have H88 := H
  have H := H.rebase
  have H89 := H
  have h90 := H.firm (i := 7) rfl
  refine WP_mix0 H [0, 1, 2, 3, 4, 5, 6, 7] [.pure, .pure, .pure, .pure, .pure, .eff, .pure, .pure] mixed (by kernel_rfl) (by kernel_rfl) (by kernel_rfl) rfl ?_
  refine Mx.zX rfl rfl rfl (fun w' hw' => xH (cs := [.slice none 0 0, .slice none 0 0, .slice none 0 0]) bz26) ?_
  refine Mx.zX rfl rfl rfl (fun w' hw' => fa90_0 rfl) ?_
  refine Mx.zX rfl rfl rfl (fun w' hw' => zT one3 rfl (Cells.get (h90 w' hw').2.2 (i := 0) rfl)) ?_
  refine Mx.zX rfl rfl rfl (fun w' hw' => fa90_1 rfl) ?_
  refine Mx.zX rfl rfl rfl (fun w' hw' => zT one30 rfl (Cells.get (h90 w' hw').2.2 (i := 1) rfl)) ?_
  refine Mx.XL_exU oS rfl rfl (fun w' hw' => yH (vs := [.slice none 0 0, .slice none 0 0, .slice none 0 0]) (H.sees hw') 2 rfl sz26 rfl rfl rfl ⟨rfl, rfl, rfl, trivial⟩ rfl) ?_
  rintro w' w91 hw' H
  refine ⟨H.only, ?_⟩
  refine Mx.zX rfl rfl rfl (fun w' hw' => xU (v := .int .i64 x68.at_) rfl) ?_
  refine Mx.zX rfl rfl rfl (fun w' hw' => xU (v := .int .i64 x68.e) rfl) ?_
  refine Mx.XL_nil fun w92 hS => ?_
  have H := H.sees hS
  have H := H88.rejoin H
  refine (zA (hK87 _ _ ?_))
  have H := H.fz (.sl Rp.str (.slice none 0 0) []) SlF.nil
  have H := H.fz (.sl rMoveT (.slice none 0 0) []) SlF.nil
  have H := H.fz (.sl rRule (.slice none 0 0) []) SlF.nil
  obtain rfl := someI hF
  refine (zZ (zY (postc2 (v1 := .int .i64 x68.at_) (v2 := .int .i64 x68.e) rfl rfl (yC agg26 sz26 rfl (Blk.cells (H.item (i := 2) rfl))) rfl rfl ?_)))
  exact ⟨.slice none 0 0, .slice none 0 0, .slice none 0 0, rfl, H.pick [8, 9, 10] (by decide)⟩
 have hF := zN c86 hF
 refine (yA (zA (hK63 _ _ ?_)))
 refine zC fun K108 hK108 => ?_
 refine zC fun K109 hK109 => ?_
 refine zB ?_
 refine zM (.pointer (some ⟨b31, 0, none⟩)) ?_
 refine zH (yG rfl) ?_
 refine zH (fa88_3 rfl) ?_
 refine zH (yQ (yM (cs := [v71, v72, v73]) agg26 rfl sz26 rfl (Cells.drop (Blk.cells (H.item (i := 6) rfl)) 6 3)) rfl) ?_
 have H110 := H
 have H := H.freeze (i := 3) rfl
 have H := H.freeze (i := 4) rfl
 have H := H.freeze (i := 5) rfl
 obtain ⟨x111, e112, hF⟩ := zD hF
 refine zV rfl rfl (zU en40 rfl) (F_event_Check_w x69.r v71 v72 v73 _ e112 _ _ _ (H.enter [] [3, 4, 5] (by decide) rfl)) ?_
 rintro _ w113 ⟨rfl, G114⟩
 have H := H110.step (G114.only : Only [] _ _)
 refine ⟨_, rfl, ?_⟩
 refine zI (.int .i64 x111) ?_
 refine (zF (zA (hK109 _ _ ?_)))
 refine zC fun K115 hK115 => ?_
 refine zB ?_
 refine zM (.int .i64 x111) ?_
 obtain ⟨x116, e117, hF⟩ := zG hF
 refine zH (zS (Do_neq (a := x111) (b := 0) rfl rfl) e117) ?_
 refine (zF (zA (hK115 _ _ ?_)))
 refine zW (b := x116) rfl (fun c118 => ?_) (fun c118 => ?_)
 ·have hF := zO c118 hF
  refine zC fun K119 hK119 => ?_
  refine zB ?_
  refine zH (xH (cs := [.slice none 0 0, .slice none 0 0, .slice none 0 0]) bz26) ?_
  refine zM (.int .i64 x111) ?_
  refine yN rfl (yH (vs := [.slice none 0 0, .slice none 0 0, .slice none 0 0]) H 2 rfl sz26 rfl rfl rfl ⟨rfl, rfl, rfl, trivial⟩ rfl) ?_
  rintro w120 H
  refine zI (.int .i64 0) ?_
  refine zI (.int .i64 x111) ?_
  refine (zF (zA (hK119 _ _ ?_)))
  have H := H.fz (.sl Rp.str (.slice none 0 0) []) SlF.nil
  have H := H.fz (.sl rMoveT (.slice none 0 0) []) SlF.nil
  have H := H.fz (.sl rRule (.slice none 0 0) []) SlF.nil
  obtain rfl := someI hF
  refine (zZ (zY (postc2 (v1 := .int .i64 0) (v2 := .int .i64 x111) rfl rfl (yC agg26 sz26 rfl (Blk.cells (H.item (i := 2) rfl))) rfl rfl ?_)))
  exact ⟨.slice none 0 0, .slice none 0 0, .slice none 0 0, rfl, H.pick [8, 9, 10] (by decide)⟩
 have hF := zN c118 hF
 refine (yA (zA (hK108 _ _ ?_)))
 refine zC fun K124 hK124 => ?_
 refine zB ?_
 refine zM (.pointer (some ⟨b31, 0, none⟩)) ?_
 refine zH (yG rfl) ?_
 refine zH (fa88_3 rfl) ?_
 refine zH (yQ (yM (cs := [v71, v72, v73]) agg26 rfl sz26 rfl (Cells.drop (Blk.cells (H.item (i := 6) rfl)) 6 3)) rfl) ?_
 refine yN rfl (yH (vs := [v71, v72, v73]) H 2 rfl sz26 rfl rfl rfl ⟨(own_one (H.item (i := 3) rfl)), (own_one (H.item (i := 4) rfl)), (own_one (H.item (i := 5) rfl)), trivial⟩ rfl) ?_
 rintro w125 H
 refine zI (.int .i64 0) ?_
 refine zI (.int .i64 0) ?_
 refine (zF (zA (hK124 _ _ ?_)))
 have H := H.freeze (i := 3) rfl
 have H := H.freeze (i := 4) rfl
 have H := H.freeze (i := 5) rfl
 obtain rfl := someI hF
 refine (zZ (postc2 (v1 := .int .i64 0) (v2 := .int .i64 0) rfl rfl (yC agg26 sz26 rfl (Blk.cells (H.item (i := 2) rfl))) rfl rfl ?_))
 exact ⟨v71, v72, v73, rfl, H.pick [3, 4, 5] (by decide)⟩
set_option maxHeartbeats 4000000 in
theorem F_strings_Builder_WriteString_w (p0 : List Int) (p1 : Str) (b1 : Nat) (v2 : Value) (v3 : Value) (r : Int × Unit × (List Int)) (hF : F_strings_Builder_WriteString p0 p1 = some r) (O S : List Nat) (w : World) (H : Hd O w w S [.own (Rp.int .u8) v3 5 p0, .blk b1 [v2, v3] 111, .fz (.oq v2 b1)]) :
  Calls Tryz.prog 50 ([.pointer (some ⟨b1, 0, none⟩), .string (bs p1)] : List Value).toArray w fun e w' => ∃ u7 u8, e = .returned (.tuple #[.int .i64 r.1, .nilIface]) ∧ Hd O w w' S [.fz (.oq u7 b1), .own (Rp.int .u8) u8 5 r.2.2, .blk b1 [u7, u8] 111] := by
 unfold F_strings_Builder_WriteString at hF
 refine yB 19 Tryz.func50 rfl rfl rfl ?_
 refine zC fun K9 hK9 => ?_
 refine zB ?_
 refine zI (.int .i64 0) ?_
 refine zI .nilIface ?_
 refine (zF (zA (hK9 _ _ ?_)))
 refine zC fun K10 hK10 => ?_
 refine zB ?_
 refine zM (.pointer (some ⟨b1, 0, none⟩)) ?_
 obtain ⟨x11, e12, hF⟩ := zD hF
 refine zV rfl rfl (zU en101 rfl) (E.X_bcheck_w p0 b1 v2 v3 _ e12 _ _ _ (H.enter [0, 1] [2] (by decide) rfl)) ?_
 rintro _ w17 ⟨v13, v14, rfl, G18⟩
 have H : Hd O _ w17 _ [.fz (.oq v2 b1), .fz (.oq v13 b1), .own (Rp.int .u8) v14 5 x11, .blk b1 [v13, v14] 111] := H.back [0, 1] [2] rfl G18
 refine ⟨_, rfl, ?_⟩
 refine (zF (zA (hK10 _ _ ?_)))
 refine zC fun K19 hK19 => ?_
 refine zB ?_
 refine zM (.pointer (some ⟨b1, 0, none⟩)) ?_
 refine zM (.pointer (some ⟨b1, 0, none⟩)) ?_
 refine zH (yG rfl) ?_
 refine zH (fa111_1 rfl) ?_
 refine zH (zT one77 rfl (Cells.get (Blk.cells (H.item (i := 3) rfl)) (i := 1) rfl)) ?_
 refine zM (.string (bs p1)) ?_
 obtain ⟨x20, e21, hF⟩ := zD hF
 refine yX rfl rfl (Lx_appstr H (i := 2) rfl u77 u9 z8_5 rfl rfl e21) ?_
 rintro v22 w23 H
 refine zH (yG rfl) ?_
 refine zH (fa111_1 rfl) ?_
 refine yN rfl (xA H 3 rfl sz77 rfl (v := v22) rfl (own_one (H.item (i := 2) rfl)) rfl) ?_
 rintro w24 H
 refine (zF (zA (hK19 _ _ ?_)))
 refine zC fun K25 hK25 => ?_
 refine zB ?_
 refine zM (.string (bs p1)) ?_
 obtain ⟨x26, e27, hF⟩ := zG hF
 refine zH (yQ (Do_slen (s1 := p1) u9 rfl) (congrArg (Value.int .i64) e27)) ?_
 refine zI (.int .i64 x26) ?_
 refine zI .nilIface ?_
 refine (zF (zA (hK25 _ _ ?_)))
 obtain rfl := someI hF
 refine (zZ (post2 (v1 := .int .i64 x26) (v2 := .nilIface) rfl rfl rfl ?_))
 exact ⟨v13, v22, rfl, H.pick [1, 2, 3] (by decide)⟩
abbrev S_event_condText (f : Cond → Int → Option Str) : Prop := ∀ (p0 : Cond) (p1 : Int) (v1 : Value) (r : Str) (_ : f p0 p1 = some r) (O S : List Nat) (w : World) (_ : Hd O w w S [.fz (.sl rCond v1 p0.Kids), .fz (.at 0 0 ((Fl.arr 7 Fl.str).f zJ))]),
  Calls Tryz.prog 51 ([.agg [.int .i64 p0.Kind, .string (bs p0.Name), .string (bs p0.Other), .int .i64 p0.Op, .int .i64 p0.N, .int .i64 p0.Frames, v1].toArray, .int .i64 p1] : List Value).toArray w fun e w' => e = .returned (.string (bs r)) ∧ Hd O w w' S []
set_option maxHeartbeats 4000000 in
theorem F_event_joined_w (rfM : Cond → Int → Option Str) (rhM : S_event_condText rfM) (p0 : List Cond) (p1 : Str) (p2 : Int) (v1 : Value) (r : Str) (hF : F_event_joined rfM p0 p1 p2 = some r) (O S : List Nat) (w : World) (H : Hd O w w S [.fz (.sl rCond v1 p0), .fz (.at 0 0 ((Fl.arr 7 Fl.str).f zJ))]) :
  Calls Tryz.prog 104 ([v1, .string (bs p1), .int .i64 p2] : List Value).toArray w fun e w' => e = .returned (.string (bs r)) ∧ Hd O w w' S [] := by
 unfold F_event_joined at hF
 refine yB 28 Tryz.func104 rfl rfl rfl ?_
 refine zC fun K4 hK4 => ?_
 refine zB ?_
 refine zI (.string (bs [])) ?_
 refine (zF (zA (hK4 _ _ ?_)))
 refine zC fun K5 hK5 => ?_
 refine zB ?_
 refine zI (.slice none 0 0) ?_
 refine (zF (zA (hK5 _ _ ?_)))
 obtain ⟨g180, hF, hK183⟩ := zD hF
 refine yL [7, 9, 10, 11, 12, 13, 14, 15, 16, 17, 18, 19, 20, 21, 22] (fun (g : Value) => [(7, g)]) (fun g wl => Hd O w wl S [.own Rp.str g 9 g180, .fz (.at 0 0 ((Fl.arr 7 Fl.str).f zJ))]) ?_ ?_
 ·skip
  refine zC fun K184 hK184 => ?_
  refine zB ?_
  refine zM v1 ?_
  obtain ⟨x185, e186, hF⟩ := zG hF
  obtain ⟨a187, c188, q189⟩ := SlF.len ((H.item (i := 0) rfl))
  refine zH (yQ (Do_len u52 q189) (congrArg (Value.int .i64) e186)) ?_
  refine zM (.int .i64 0) ?_
  refine (zF (zA (hK184 _ _ ?_)))
  refine yJ ?_
  have H := own_nil H Rp.str 9
  unfold F_event_joined_L1 at hF
  obtain ⟨B355, n356, eB357, hF⟩ := yY hF
  refine xK [7, 9, 12, 13, 14, 15, 16, 17, 18, 19, 20, 21, 22] (fun (g : Nat × (List Str) × Int × Value) => [(7, g.2.2.2), (12, .int .i64 g.2.2.1)]) (fun g wl => Hd O w wl S [.own Rp.str g.2.2.2 9 g.2.1, .fz (.sl rCond v1 p0), .fz (.at 0 0 ((Fl.arr 7 Fl.str).f zJ))] ∧ loopN B355 g.1 (g.2.1, g.2.2.1) = some g180) (fun g => g.1) (n356, [], 0, .slice none 0 0) (zK rfl (zK rfl zL)) ⟨H.pick [2, 0, 1] (by decide), hF⟩ ?_
  clear H hF
  rintro ⟨n356, g351, g353, v352⟩ ρ w359 ⟨H, hF⟩
  obtain ⟨n360, rfl, hF⟩ := xE hF
  have hF := xC eB357 hF
  refine zC fun K361 hK361 => ?_
  refine zB ?_
  obtain ⟨x362, e363, hF⟩ := zG hF
  refine zH (zS (xZ (a := g353) (b := x185) rfl rfl) e363) ?_
  refine (zF (zA (hK361 _ _ ?_)))
  refine zC fun K365 hK365 => ?_
  refine zW (b := x362) rfl (fun c366 => ?_) (fun c366 => ?_)
  ·have hF := zO c366 hF
   refine (yA (zA (hK365 _ _ ?_)))
   refine zC fun K401 hK401 => ?_
   refine yJ ?_
   refine zC fun K402 hK402 => ?_
   refine zB ?_
   obtain ⟨x403, e404, hF⟩ := zD hF
   obtain ⟨b405, o406, c407, cs408, q409, h412, h410, h411, h413⟩ := rd_at (H.item (i := 1) rfl) e404
   obtain ⟨v414, rfl, h415⟩ := xX h412
   have H := H.fzs [.at b405 (o406 + g353.toNat * 7) _, .sl rCond v414 x403.Kids] ⟨⟨h410, h411, h413⟩, h415, trivial⟩
   refine zH (Do_idx u52 sz54 q409 rfl (yU e404).1 (yU e404).2.1 rfl rfl) ?_
   refine zH (yQ (yM (cs := [.int .i64 x403.Kind, .string (bs x403.Name), .string (bs x403.Other), .int .i64 x403.Op, .int .i64 x403.N, .int .i64 x403.Frames, v414]) agg54 rfl sz54 rfl (H.item (i := 3) rfl).2.2) rfl) ?_
   refine yX rfl rfl (xB zero54 H) ?_
   rintro _ w420 ⟨b418, rfl, H⟩
   refine yN rfl (yH (vs := [.int .i64 x403.Kind, .string (bs x403.Name), .string (bs x403.Other), .int .i64 x403.Op, .int .i64 x403.N, .int .i64 x403.Frames, v414]) H 5 rfl sz54 rfl rfl rfl ⟨rfl, rfl, rfl, rfl, rfl, rfl, (wE (H.item (i := 4) rfl)), trivial⟩ rfl) ?_
   rintro w421 H
   refine (zF (zA (hK402 _ _ ?_)))
   refine zB ?_
   refine zM v352 ?_
   refine zH (yQ (yM (cs := [.int .i64 x403.Kind, .string (bs x403.Name), .string (bs x403.Other), .int .i64 x403.Op, .int .i64 x403.N, .int .i64 x403.Frames, v414]) agg54 rfl sz54 rfl (Blk.cells (H.item (i := 5) rfl))) rfl) ?_
   refine zM (.int .i64 p2) ?_
   have H422 := H
   obtain ⟨x423, e424, hF⟩ := zD hF
   refine zV rfl rfl (zU en51 rfl) (rhM x403 p2 v414 _ e424 _ _ _ (H.enter [] [4, 2] (by decide) rfl)) ?_
   rintro _ w425 ⟨rfl, G426⟩
   have H := H422.step (G426.only : Only [] _ _)
   refine ⟨_, rfl, ?_⟩
   obtain ⟨x427, e428, hF⟩ := zG hF
   subst e428
   refine yX rfl rfl (Lx_bs (r := Rp.str) (xl := [x423]) (cs := [.string (bs x423)]) u22 el9 (by decide) (by decide) rfl (xJ (vs := [.string (bs x423)]) (by decide) rfl rfl ⟨rfl, trivial⟩ rfl) H ⟨[.string (bs x423)], [], rfl, rfl, rfl⟩) ?_
   rintro v430 w431 H
   obtain ⟨x432, e433, hF⟩ := zD hF
   refine yX rfl rfl (Lx_app H (i := 0) rfl u22 el9 rfl rfl (Sr.of_own (H.item (i := 6) rfl)) e433) ?_
   rintro v434 w435 H
   refine zI v434 ?_
   refine (zF (yR (zA (hK401 _ _ ?_))))
   refine zB ?_
   obtain ⟨x436, e437, hF⟩ := zG hF
   refine zH (wC (a := g353) (b := 1) rfl rfl e437) ?_
   refine zM (.int .i64 x436) ?_
   exact (zF (zA (meet ⟨(n360, x432, x436, v434), (zK rfl (zK rfl zL)), ⟨H.pick [0, 1, 2] (by decide), hF⟩, Nat.lt_succ_self _⟩)))
  have hF := zN c366 hF
  obtain rfl := someI hF
  exact (xW (yT (yT (xG (zA (meet ⟨v352, (zK rfl zL), H.pick [0, 2] (by decide)⟩))))))
 rintro v181 ρ w182 H
 have hF := hK183
 refine zC fun K438 hK438 => ?_
 refine zB ?_
 refine zM v181 ?_
 refine zM (.string (bs p1)) ?_
 obtain ⟨x439, e440, hF⟩ := zD hF
 refine zH (xO (s1 := [32]) (s2 := p1) rfl rfl e440) ?_
 obtain ⟨x441, e442, hF⟩ := zD hF
 refine zH (xO (s1 := x439) (s2 := [32]) rfl rfl e442) ?_
 have H443 := H
 have H := H.freeze (i := 0) rfl
 obtain ⟨x444, e445, hF⟩ := zD hF
 refine zV rfl rfl (zU en156 rfl) (E.X_Join_w g180 x441 v181 _ e445 _ _ _ (H.enter [] [0] (by decide) rfl)) ?_
 rintro _ w446 ⟨rfl, G447⟩
 have H := H443.step (G447.only : Only [] _ _)
 refine ⟨_, rfl, ?_⟩
 refine zI (.string (bs x444)) ?_
 refine (zF (zA (hK438 _ _ ?_)))
 obtain rfl := someI hF
 refine (zZ (post1 (v1 := .string (bs x444)) rfl rfl ?_))
 exact ⟨rfl, H.pick [] (by decide)⟩
set_option maxHeartbeats 4000000 in
theorem F_event_condText_1_w (rfM : Cond → Int → Option Str) (rhM : S_event_condText rfM) (c0 : Cond) (b1 : Nat) (v2 : Value) (r : Str) (hF : F_event_condText_1 rfM c0 = some r) (O S : List Nat) (w : World) (H : Hd O w w S [.blk b1 [.int .i64 c0.Kind, .string (bs c0.Name), .string (bs c0.Other), .int .i64 c0.Op, .int .i64 c0.N, .int .i64 c0.Frames, v2] 54, .fz (.sl rCond v2 c0.Kids), .fz (.at 0 0 ((Fl.arr 7 Fl.str).f zJ))]) :
  Calls Tryz.prog 103 ([.pointer (some ⟨b1, 0, none⟩)] : List Value).toArray w fun e w' => e = .returned (.string (bs r)) ∧ Hd O w w' S [.blk b1 [.int .i64 c0.Kind, .string (bs c0.Name), .string (bs c0.Other), .int .i64 c0.Op, .int .i64 c0.N, .int .i64 c0.Frames, v2] 54] := by
 unfold F_event_condText_1 at hF
 refine yB 5 Tryz.func103 rfl rfl rfl ?_
 refine zC fun K6 hK6 => ?_
 refine zB ?_
 refine zI (.string (bs [])) ?_
 refine (zF (zA (hK6 _ _ ?_)))
 refine zC fun K7 hK7 => ?_
 refine zB ?_
 refine zH (fa54_6 rfl) ?_
 refine zH (zT one52 rfl (Cells.get (Blk.cells (H.item (i := 0) rfl)) (i := 6) rfl)) ?_
 have H8 := H
 obtain ⟨x9, e10, hF⟩ := zD hF
 refine zV rfl rfl (zU en104 rfl) (F_event_joined_w rfM rhM c0.Kids [] 3 v2 _ e10 _ _ _ (H.enter [] [1, 2] (by decide) rfl)) ?_
 rintro _ w11 ⟨rfl, G12⟩
 have H := H8.step (G12.only : Only [] _ _)
 refine ⟨_, rfl, ?_⟩
 refine zI (.string (bs x9)) ?_
 refine (zF (zA (hK7 _ _ ?_)))
 obtain rfl := someI hF
 refine (zZ (post1 (v1 := .string (bs x9)) rfl rfl ?_))
 exact ⟨rfl, H.pick [0] (by decide)⟩
set_option maxHeartbeats 4000000 in
theorem F_event_condText_1_z_w (rfM : Cond → Int → Option Str) (rhM : S_event_condText rfM) (c0 : Cond) (b1 : Nat) (v2 : Value) (r : Str) (hF : F_event_condText_1_z rfM c0 = some r) (O S : List Nat) (w : World) (H : Hd O w w S [.fz (.sl rCond v2 c0.Kids), .fz (.at b1 0 [.int .i64 c0.Kind, .string (bs c0.Name), .string (bs c0.Other), .int .i64 c0.Op, .int .i64 c0.N, .int .i64 c0.Frames, v2]), .fz (.at 0 0 ((Fl.arr 7 Fl.str).f zJ))]) :
  Calls Tryz.prog 103 ([.pointer (some ⟨b1, 0, none⟩)] : List Value).toArray w fun e w' => e = .returned (.string (bs r)) ∧ Hd O w w' S [] := by
 unfold F_event_condText_1_z at hF
 refine yB 5 Tryz.func103 rfl rfl rfl ?_
 refine zC fun K6 hK6 => ?_
 refine zB ?_
 refine zI (.string (bs [])) ?_
 refine (zF (zA (hK6 _ _ ?_)))
 refine zC fun K7 hK7 => ?_
 refine zB ?_
 refine zH (fa54_6 rfl) ?_
 refine zH (zT one52 rfl (Cells.get (H.item (i := 1) rfl).2.2 (i := 6) rfl)) ?_
 have H8 := H
 obtain ⟨x9, e10, hF⟩ := zD hF
 refine zV rfl rfl (zU en104 rfl) (F_event_joined_w rfM rhM c0.Kids [] 3 v2 _ e10 _ _ _ (H.enter [] [0, 2] (by decide) rfl)) ?_
 rintro _ w11 ⟨rfl, G12⟩
 have H := H8.step (G12.only : Only [] _ _)
 refine ⟨_, rfl, ?_⟩
 refine zI (.string (bs x9)) ?_
 refine (zF (zA (hK7 _ _ ?_)))
 obtain rfl := someI hF
 refine (zZ (post1 (v1 := .string (bs x9)) rfl rfl ?_))
 exact ⟨rfl, H.pick [] (by decide)⟩
end Go.Proofs.YtnajnkghilemhaaGreatDoor.L
