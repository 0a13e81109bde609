/- Walks: what each function computes, for every argument; no condition but those that stand in the statements. -/
import Derived.Test.YtckmiljbaejijaaGreatDoorKV0
namespace Go.Proofs.YtckmiljbaejijaaGreatDoor.L
open Go.RowKit Go.OB Go.Lf
set_option maxHeartbeats 4000000 in
set_option maxRecDepth 100000 in
theorem F_event_checkOne_w (p0 : Cond) (v1 : Value) (r : Int) (hF : F_event_checkOne p0 = some r) (O S : List Nat) (w : World) (H : Hd O w w S [.fz (.sl rCond v1 p0.Kids)]) :
  Calls Tryz.prog 82 ([.agg [.int .i64 p0.Kind, .string (bs p0.Name), .string (bs p0.Other), .int .i64 p0.Op, .int .i64 p0.N, .int .i64 p0.Frames, v1].toArray] : List Value).toArray w fun e w' => e = .returned (.int .i64 r) ∧ Hd O w w' S [] := by
 unfold F_event_checkOne at hF
 refine zY 140 Tryz.func82 rfl rfl rfl ?_
 refine zC fun K3 hK3 => ?_
 refine zB ?_
 refine yZ rfl rfl (wF (cs := [.int .i64 p0.Kind, .string (bs p0.Name), .string (bs p0.Other), .int .i64 p0.Op, .int .i64 p0.N, .int .i64 p0.Frames, v1]) rfl H) ?_
 rintro _ w6 ⟨b4, rfl, H⟩
 refine zI (.int .i64 0) ?_
 refine (zD (zA (hK3 _ _ ?_)))
 refine zC fun K7 hK7 => ?_
 refine zB ?_
 refine zH (fa70_0 rfl) ?_
 refine zH (zO one3 rfl (Cells.get (Blk.cells (H.item (i := 1) rfl)) (i := 0) rfl)) ?_
 have H8 := H
 obtain ⟨⟨x9, x10⟩, e11, hF⟩ := zG hF
 refine zZ rfl rfl (zT en142 rfl) (F_event_fieldsOf_w p0.Kind _ e11 _ _ _ (H.enter [] [] (by decide) rfl)) ?_
 rintro _ w12 ⟨rfl, G13⟩
 have H := H8.step (G13.only : Only [] _ _)
 refine ⟨_, rfl, ?_⟩
 refine zK (.tuple #[.agg [.bool x9.name, .bool x9.other, .bool x9.op, .bool x9.n, .bool x9.frames, .int .i64 x9.least, .int .i64 x9.most].toArray, .bool x10]) ?_
 refine zH (xY (v := .agg [.bool x9.name, .bool x9.other, .bool x9.op, .bool x9.n, .bool x9.frames, .int .i64 x9.least, .int .i64 x9.most].toArray) rfl rfl) ?_
 refine zH (xY (v := .bool x10) rfl rfl) ?_
 refine yZ rfl rfl (xN zero226 H) ?_
 rintro _ w16 ⟨b14, rfl, H⟩
 refine xH rfl (xC (vs := [.bool x9.name, .bool x9.other, .bool x9.op, .bool x9.n, .bool x9.frames, .int .i64 x9.least, .int .i64 x9.most]) H 2 rfl sz226 rfl rfl rfl ⟨rfl, rfl, rfl, rfl, rfl, rfl, rfl, trivial⟩ rfl) ?_
 rintro w17 H
 refine zI (.bool x10) ?_
 refine (zD (zA (hK7 _ _ ?_)))
 refine zC fun K23 hK23 => ?_
 refine zC fun K24 hK24 => ?_
 refine zB ?_
 refine zK (.bool x10) ?_
 obtain ⟨x25, e26, hF⟩ := zF hF
 refine zH (zM (wJ (p := x10) rfl) e26) ?_
 refine (zD (zA (hK24 _ _ ?_)))
 refine yA (b := x25) rfl (fun c27 => ?_) (fun c27 => ?_)
 ·have hF := zQ c27 hF
  refine zC fun K28 hK28 => ?_
  refine zB ?_
  refine zI (.int .i64 7) ?_
  refine (zD (zA (hK28 _ _ ?_)))
  obtain rfl := someI hF
  refine (yB (zW (post1 (v1 := .int .i64 7) rfl rfl ?_)))
  exact ⟨rfl, H.pick [] (by decide)⟩
 have hF := zS c27 hF
 refine (zX (zA (hK23 _ _ ?_)))
 refine zC fun K91 hK91 => ?_
 obtain ⟨g149, hF, hK151⟩ := zG hF
 refine yL [13, 14, 15, 16, 17, 18, 19, 20, 21, 22, 23, 24, 25, 26, 27, 28, 29, 30, 31, 32, 33, 34, 35, 36, 37, 38, 39, 40, 41, 42, 43, 44, 45, 46, 47, 48, 49, 50, 51, 52, 53, 54, 55, 56, 57, 58, 59, 60, 61, 62, 63, 64, 65, 66, 67, 68, 69, 70, 71] (fun (g : Unit) => [(71, .bool g149)]) (fun g wl => Hd O w wl S [.fz (.sl rCond v1 p0.Kids), .blk b4 [.int .i64 p0.Kind, .string (bs p0.Name), .string (bs p0.Other), .int .i64 p0.Op, .int .i64 p0.N, .int .i64 p0.Frames, v1] 70, .blk b14 [.bool x9.name, .bool x9.other, .bool x9.op, .bool x9.n, .bool x9.frames, .int .i64 x9.least, .int .i64 x9.most] 226]) ?_ ?_
 ·skip
  refine zB ?_
  refine zH (fa226_0 rfl) ?_
  refine zH (zO one4 rfl (Cells.get (Blk.cells (H.item (i := 2) rfl)) (i := 0) rfl)) ?_
  obtain ⟨x152, e153, hF⟩ := zF hF
  refine zH (zM (wJ (p := x9.name) rfl) e153) ?_
  obtain ⟨j154, hF, hK155⟩ := zG hF
  refine RL_cutS 5 [16, 17, 18, 19, 20] [(20, .bool j154)] (fun wl => Hd O w wl S [.fz (.sl rCond v1 p0.Kids), .blk b4 [.int .i64 p0.Kind, .string (bs p0.Name), .string (bs p0.Other), .int .i64 p0.Op, .int .i64 p0.N, .int .i64 p0.Frames, v1] 70, .blk b14 [.bool x9.name, .bool x9.other, .bool x9.op, .bool x9.n, .bool x9.frames, .int .i64 x9.least, .int .i64 x9.most] 226]) ?_ ?_
  ·skip
   refine yK (b := x152) rfl rfl rfl (fun c157 => ?_) (fun c157 => ?_)
   ·have hF := zQ c157 hF
    refine zH (fa70_1 rfl) ?_
    refine zH (zO one9 rfl (Cells.get (Blk.cells (H.item (i := 1) rfl)) (i := 1) rfl)) ?_
    obtain ⟨x158, e159, hF⟩ := zF hF
    refine zH (zM (Do_neqs (s1 := p0.Name) (s2 := []) rfl rfl) e159) ?_
    refine zH (yI (v := .bool x158) rfl rfl) ?_
    obtain rfl := someI hF
    exact zD (zA (meet ⟨(zJ rfl zL), H.pick [0, 1, 2] (by decide)⟩))
   have hF := zS c157 hF
   refine yC ?_
   refine yC ?_
   refine yC ?_
   refine zH (yF (v := .bool false) rfl rfl) ?_
   obtain rfl := someI hF
   exact zD (zA (meet ⟨(zJ rfl zL), H.pick [0, 1, 2] (by decide)⟩))
  rintro ρ w156 H
  have hF := hK155
  obtain ⟨j160, hF, hK161⟩ := zG hF
  refine RL_cutS 10 [21, 22, 23, 24, 25, 26, 27, 28, 29, 30] [(30, .bool j160)] (fun wl => Hd O w wl S [.fz (.sl rCond v1 p0.Kids), .blk b4 [.int .i64 p0.Kind, .string (bs p0.Name), .string (bs p0.Other), .int .i64 p0.Op, .int .i64 p0.N, .int .i64 p0.Frames, v1] 70, .blk b14 [.bool x9.name, .bool x9.other, .bool x9.op, .bool x9.n, .bool x9.frames, .int .i64 x9.least, .int .i64 x9.most] 226]) ?_ ?_
  ·skip
   refine yK (b := j154) rfl rfl rfl (fun c163 => ?_) (fun c163 => ?_)
   ·have hF := zQ c163 hF
    refine yC ?_
    refine yC ?_
    refine yC ?_
    refine yC ?_
    refine yC ?_
    refine yC ?_
    refine yC ?_
    refine yC ?_
    refine zH (yI (v := .bool true) rfl rfl) ?_
    obtain rfl := someI hF
    exact zD (zA (meet ⟨(zJ rfl zL), H.pick [0, 1, 2] (by decide)⟩))
   have hF := zS c163 hF
   refine zH (fa226_1 rfl) ?_
   refine zH (zO one4 rfl (Cells.get (Blk.cells (H.item (i := 2) rfl)) (i := 1) rfl)) ?_
   obtain ⟨x164, e165, hF⟩ := zF hF
   refine zH (zM (wJ (p := x9.other) rfl) e165) ?_
   refine yK (b := x164) rfl rfl rfl (fun c166 => ?_) (fun c166 => ?_)
   ·have hF := zQ c166 hF
    refine zH (fa70_2 rfl) ?_
    refine zH (zO one9 rfl (Cells.get (Blk.cells (H.item (i := 1) rfl)) (i := 2) rfl)) ?_
    obtain ⟨x167, e168, hF⟩ := zF hF
    refine zH (zM (Do_neqs (s1 := p0.Other) (s2 := []) rfl rfl) e168) ?_
    refine zH (yI (v := .bool x167) rfl rfl) ?_
    refine zH (yF (v := .bool x167) rfl rfl) ?_
    obtain rfl := someI hF
    exact zD (zA (meet ⟨(zJ rfl zL), H.pick [0, 1, 2] (by decide)⟩))
   have hF := zS c166 hF
   refine yC ?_
   refine yC ?_
   refine yC ?_
   refine zH (yF (v := .bool false) rfl rfl) ?_
   refine zH (yF (v := .bool false) rfl rfl) ?_
   obtain rfl := someI hF
   exact zD (zA (meet ⟨(zJ rfl zL), H.pick [0, 1, 2] (by decide)⟩))
  rintro ρ w162 H
  have hF := hK161
  obtain ⟨j169, hF, hK170⟩ := zG hF
  refine RL_cutS 10 [31, 32, 33, 34, 35, 36, 37, 38, 39, 40] [(40, .bool j169)] (fun wl => Hd O w wl S [.fz (.sl rCond v1 p0.Kids), .blk b4 [.int .i64 p0.Kind, .string (bs p0.Name), .string (bs p0.Other), .int .i64 p0.Op, .int .i64 p0.N, .int .i64 p0.Frames, v1] 70, .blk b14 [.bool x9.name, .bool x9.other, .bool x9.op, .bool x9.n, .bool x9.frames, .int .i64 x9.least, .int .i64 x9.most] 226]) ?_ ?_
  ·skip
   refine yK (b := j160) rfl rfl rfl (fun c172 => ?_) (fun c172 => ?_)
   ·have hF := zQ c172 hF
    refine yC ?_
    refine yC ?_
    refine yC ?_
    refine yC ?_
    refine yC ?_
    refine yC ?_
    refine yC ?_
    refine yC ?_
    refine zH (yI (v := .bool true) rfl rfl) ?_
    obtain rfl := someI hF
    exact zD (zA (meet ⟨(zJ rfl zL), H.pick [0, 1, 2] (by decide)⟩))
   have hF := zS c172 hF
   refine zH (fa226_2 rfl) ?_
   refine zH (zO one4 rfl (Cells.get (Blk.cells (H.item (i := 2) rfl)) (i := 2) rfl)) ?_
   obtain ⟨x173, e174, hF⟩ := zF hF
   refine zH (zM (wJ (p := x9.op) rfl) e174) ?_
   refine yK (b := x173) rfl rfl rfl (fun c175 => ?_) (fun c175 => ?_)
   ·have hF := zQ c175 hF
    refine zH (fa70_3 rfl) ?_
    refine zH (zO one3 rfl (Cells.get (Blk.cells (H.item (i := 1) rfl)) (i := 3) rfl)) ?_
    obtain ⟨x176, e177, hF⟩ := zF hF
    refine zH (zM (Do_neq (a := p0.Op) (b := 0) rfl rfl) e177) ?_
    refine zH (yI (v := .bool x176) rfl rfl) ?_
    refine zH (yF (v := .bool x176) rfl rfl) ?_
    obtain rfl := someI hF
    exact zD (zA (meet ⟨(zJ rfl zL), H.pick [0, 1, 2] (by decide)⟩))
   have hF := zS c175 hF
   refine yC ?_
   refine yC ?_
   refine yC ?_
   refine zH (yF (v := .bool false) rfl rfl) ?_
   refine zH (yF (v := .bool false) rfl rfl) ?_
   obtain rfl := someI hF
   exact zD (zA (meet ⟨(zJ rfl zL), H.pick [0, 1, 2] (by decide)⟩))
  rintro ρ w171 H
  have hF := hK170
  obtain ⟨j178, hF, hK179⟩ := zG hF
  refine RL_cutS 10 [41, 42, 43, 44, 45, 46, 47, 48, 49, 50] [(50, .bool j178)] (fun wl => Hd O w wl S [.fz (.sl rCond v1 p0.Kids), .blk b4 [.int .i64 p0.Kind, .string (bs p0.Name), .string (bs p0.Other), .int .i64 p0.Op, .int .i64 p0.N, .int .i64 p0.Frames, v1] 70, .blk b14 [.bool x9.name, .bool x9.other, .bool x9.op, .bool x9.n, .bool x9.frames, .int .i64 x9.least, .int .i64 x9.most] 226]) ?_ ?_
  ·skip
   refine yK (b := j169) rfl rfl rfl (fun c181 => ?_) (fun c181 => ?_)
   ·have hF := zQ c181 hF
    refine yC ?_
    refine yC ?_
    refine yC ?_
    refine yC ?_
    refine yC ?_
    refine yC ?_
    refine yC ?_
    refine yC ?_
    refine zH (yI (v := .bool true) rfl rfl) ?_
    obtain rfl := someI hF
    exact zD (zA (meet ⟨(zJ rfl zL), H.pick [0, 1, 2] (by decide)⟩))
   have hF := zS c181 hF
   refine zH (fa226_3 rfl) ?_
   refine zH (zO one4 rfl (Cells.get (Blk.cells (H.item (i := 2) rfl)) (i := 3) rfl)) ?_
   obtain ⟨x182, e183, hF⟩ := zF hF
   refine zH (zM (wJ (p := x9.n) rfl) e183) ?_
   refine yK (b := x182) rfl rfl rfl (fun c184 => ?_) (fun c184 => ?_)
   ·have hF := zQ c184 hF
    refine zH (fa70_4 rfl) ?_
    refine zH (zO one3 rfl (Cells.get (Blk.cells (H.item (i := 1) rfl)) (i := 4) rfl)) ?_
    obtain ⟨x185, e186, hF⟩ := zF hF
    refine zH (zM (Do_neq (a := p0.N) (b := 0) rfl rfl) e186) ?_
    refine zH (yI (v := .bool x185) rfl rfl) ?_
    refine zH (yF (v := .bool x185) rfl rfl) ?_
    obtain rfl := someI hF
    exact zD (zA (meet ⟨(zJ rfl zL), H.pick [0, 1, 2] (by decide)⟩))
   have hF := zS c184 hF
   refine yC ?_
   refine yC ?_
   refine yC ?_
   refine zH (yF (v := .bool false) rfl rfl) ?_
   refine zH (yF (v := .bool false) rfl rfl) ?_
   obtain rfl := someI hF
   exact zD (zA (meet ⟨(zJ rfl zL), H.pick [0, 1, 2] (by decide)⟩))
  rintro ρ w180 H
  have hF := hK179
  obtain ⟨j187, hF, hK188⟩ := zG hF
  refine RL_cutS 10 [51, 52, 53, 54, 55, 56, 57, 58, 59, 60] [(60, .bool j187)] (fun wl => Hd O w wl S [.fz (.sl rCond v1 p0.Kids), .blk b4 [.int .i64 p0.Kind, .string (bs p0.Name), .string (bs p0.Other), .int .i64 p0.Op, .int .i64 p0.N, .int .i64 p0.Frames, v1] 70, .blk b14 [.bool x9.name, .bool x9.other, .bool x9.op, .bool x9.n, .bool x9.frames, .int .i64 x9.least, .int .i64 x9.most] 226]) ?_ ?_
  ·skip
   refine yK (b := j178) rfl rfl rfl (fun c190 => ?_) (fun c190 => ?_)
   ·have hF := zQ c190 hF
    refine yC ?_
    refine yC ?_
    refine yC ?_
    refine yC ?_
    refine yC ?_
    refine yC ?_
    refine yC ?_
    refine yC ?_
    refine zH (yI (v := .bool true) rfl rfl) ?_
    obtain rfl := someI hF
    exact zD (zA (meet ⟨(zJ rfl zL), H.pick [0, 1, 2] (by decide)⟩))
   have hF := zS c190 hF
   refine zH (fa226_4 rfl) ?_
   refine zH (zO one4 rfl (Cells.get (Blk.cells (H.item (i := 2) rfl)) (i := 4) rfl)) ?_
   obtain ⟨x191, e192, hF⟩ := zF hF
   refine zH (zM (wJ (p := x9.frames) rfl) e192) ?_
   refine yK (b := x191) rfl rfl rfl (fun c193 => ?_) (fun c193 => ?_)
   ·have hF := zQ c193 hF
    refine zH (fa70_5 rfl) ?_
    refine zH (zO one3 rfl (Cells.get (Blk.cells (H.item (i := 1) rfl)) (i := 5) rfl)) ?_
    obtain ⟨x194, e195, hF⟩ := zF hF
    refine zH (zM (Do_neq (a := p0.Frames) (b := 0) rfl rfl) e195) ?_
    refine zH (yI (v := .bool x194) rfl rfl) ?_
    refine zH (yF (v := .bool x194) rfl rfl) ?_
    obtain rfl := someI hF
    exact zD (zA (meet ⟨(zJ rfl zL), H.pick [0, 1, 2] (by decide)⟩))
   have hF := zS c193 hF
   refine yC ?_
   refine yC ?_
   refine yC ?_
   refine zH (yF (v := .bool false) rfl rfl) ?_
   refine zH (yF (v := .bool false) rfl rfl) ?_
   obtain rfl := someI hF
   exact zD (zA (meet ⟨(zJ rfl zL), H.pick [0, 1, 2] (by decide)⟩))
  rintro ρ w189 H
  have hF := hK188
  refine yK (b := j187) rfl rfl rfl (fun c196 => ?_) (fun c196 => ?_)
  ·have hF := zQ c196 hF
   refine yC ?_
   refine yC ?_
   refine yC ?_
   refine yC ?_
   refine yC ?_
   refine yC ?_
   refine yC ?_
   refine yC ?_
   refine yC ?_
   refine zH (yI (v := .bool true) rfl rfl) ?_
   obtain rfl := someI hF
   exact (zD (zA (meet ⟨(), (zJ rfl zL), H.pick [0, 1, 2] (by decide)⟩)))
  have hF := zS c196 hF
  refine zH (fa70_6 rfl) ?_
  refine zH (zO one68 rfl (Cells.get (Blk.cells (H.item (i := 1) rfl)) (i := 6) rfl)) ?_
  obtain ⟨x197, e198, hF⟩ := zF hF
  obtain ⟨a199, c200, q201⟩ := SlF.len ((H.item (i := 0) rfl))
  refine zH (yN (xM u68 q201) (congrArg (Value.int .i64) e198)) ?_
  refine zH (fa226_5 rfl) ?_
  refine zH (zO one3 rfl (Cells.get (Blk.cells (H.item (i := 2) rfl)) (i := 5) rfl)) ?_
  refine zH (fa226_6 rfl) ?_
  refine zH (zO one3 rfl (Cells.get (Blk.cells (H.item (i := 2) rfl)) (i := 6) rfl)) ?_
  have H202 := H
  obtain ⟨x203, e204, hF⟩ := zG hF
  refine zZ rfl rfl (zT en76 rfl) (F_event_within_w x197 x9.least x9.most _ e204 _ _ _ (H.enter [] [] (by decide) rfl)) ?_
  rintro _ w205 ⟨rfl, G206⟩
  have H := H202.step (G206.only : Only [] _ _)
  refine ⟨_, rfl, ?_⟩
  obtain ⟨x207, e208, hF⟩ := zF hF
  refine zH (zM (wJ (p := x203) rfl) e208) ?_
  refine zH (yF (v := .bool x207) rfl rfl) ?_
  obtain rfl := someI hF
  exact (zD (zA (meet ⟨(), (zJ rfl zL), H.pick [0, 1, 2] (by decide)⟩)))
 rintro _ ρ w150 H
 have hF := hK151
 refine yA (b := g149) rfl (fun c209 => ?_) (fun c209 => ?_)
 ·have hF := zQ c209 hF
  refine zC fun K210 hK210 => ?_
  refine zB ?_
  refine zI (.int .i64 2) ?_
  refine (zD (zA (hK210 _ _ ?_)))
  obtain rfl := someI hF
  refine (yB (zW (post1 (v1 := .int .i64 2) rfl rfl ?_)))
  exact ⟨rfl, H.pick [] (by decide)⟩
 have hF := zS c209 hF
 refine (zX (zA (hK91 _ _ ?_)))
 refine zC fun K299 hK299 => ?_
 refine yG ?_
 obtain ⟨g320, hF, hK322⟩ := zG hF
 refine yL [72, 73, 74, 75, 76, 77, 78, 79, 80, 81, 82, 83, 84, 85, 86, 87, 88, 89, 90] (fun (g : Unit) => [(72, .bool g320)]) (fun g wl => Hd O w wl S [.fz (.sl rCond v1 p0.Kids), .blk b4 [.int .i64 p0.Kind, .string (bs p0.Name), .string (bs p0.Other), .int .i64 p0.Op, .int .i64 p0.N, .int .i64 p0.Frames, v1] 70, .blk b14 [.bool x9.name, .bool x9.other, .bool x9.op, .bool x9.n, .bool x9.frames, .int .i64 x9.least, .int .i64 x9.most] 226]) ?_ ?_
 ·skip
  refine zB ?_
  refine zH (fa226_0 rfl) ?_
  refine zH (zO one4 rfl (Cells.get (Blk.cells (H.item (i := 2) rfl)) (i := 0) rfl)) ?_
  obtain ⟨j323, hF, hK324⟩ := zG hF
  refine RL_cutS 6 [75, 76, 77, 78, 79, 80] [(80, .bool j323)] (fun wl => Hd O w wl S [.fz (.sl rCond v1 p0.Kids), .blk b4 [.int .i64 p0.Kind, .string (bs p0.Name), .string (bs p0.Other), .int .i64 p0.Op, .int .i64 p0.N, .int .i64 p0.Frames, v1] 70, .blk b14 [.bool x9.name, .bool x9.other, .bool x9.op, .bool x9.n, .bool x9.frames, .int .i64 x9.least, .int .i64 x9.most] 226]) ?_ ?_
  ·skip
   refine yK (b := x9.name) rfl rfl rfl (fun c326 => ?_) (fun c326 => ?_)
   ·have hF := zQ c326 hF
    refine zH (fa70_1 rfl) ?_
    refine zH (zO one9 rfl (Cells.get (Blk.cells (H.item (i := 1) rfl)) (i := 1) rfl)) ?_
    have H327 := H
    obtain ⟨x328, e329, hF⟩ := zG hF
    refine zZ rfl rfl (zT en86 rfl) (F_event_isName_w p0.Name _ e329 _ _ _ (H.enter [] [] (by decide) rfl)) ?_
    rintro _ w330 ⟨rfl, G331⟩
    have H := H327.step (G331.only : Only [] _ _)
    refine ⟨_, rfl, ?_⟩
    obtain ⟨x332, e333, hF⟩ := zF hF
    refine zH (zM (wJ (p := x328) rfl) e333) ?_
    refine zH (yI (v := .bool x332) rfl rfl) ?_
    obtain rfl := someI hF
    exact zD (zA (meet ⟨(zJ rfl zL), H.pick [0, 1, 2] (by decide)⟩))
   have hF := zS c326 hF
   refine yC ?_
   refine yC ?_
   refine yC ?_
   refine yC ?_
   refine zH (yF (v := .bool false) rfl rfl) ?_
   obtain rfl := someI hF
   exact zD (zA (meet ⟨(zJ rfl zL), H.pick [0, 1, 2] (by decide)⟩))
  rintro ρ w325 H
  have hF := hK324
  refine yK (b := j323) rfl rfl rfl (fun c334 => ?_) (fun c334 => ?_)
  ·have hF := zQ c334 hF
   refine yC ?_
   refine yC ?_
   refine yC ?_
   refine yC ?_
   refine yC ?_
   refine yC ?_
   refine yC ?_
   refine yC ?_
   refine zH (yI (v := .bool true) rfl rfl) ?_
   refine zI (.bool true) ?_
   obtain rfl := someI hF
   exact (zD (zA (meet ⟨(), (zJ rfl zL), H.pick [0, 1, 2] (by decide)⟩)))
  have hF := zS c334 hF
  refine zH (fa226_1 rfl) ?_
  refine zH (zO one4 rfl (Cells.get (Blk.cells (H.item (i := 2) rfl)) (i := 1) rfl)) ?_
  refine yK (b := x9.other) rfl rfl rfl (fun c335 => ?_) (fun c335 => ?_)
  ·have hF := zQ c335 hF
   refine zH (fa70_2 rfl) ?_
   refine zH (zO one9 rfl (Cells.get (Blk.cells (H.item (i := 1) rfl)) (i := 2) rfl)) ?_
   have H336 := H
   obtain ⟨x337, e338, hF⟩ := zG hF
   refine zZ rfl rfl (zT en86 rfl) (F_event_isName_w p0.Other _ e338 _ _ _ (H.enter [] [] (by decide) rfl)) ?_
   rintro _ w339 ⟨rfl, G340⟩
   have H := H336.step (G340.only : Only [] _ _)
   refine ⟨_, rfl, ?_⟩
   obtain ⟨x341, e342, hF⟩ := zF hF
   refine zH (zM (wJ (p := x337) rfl) e342) ?_
   refine zH (yI (v := .bool x341) rfl rfl) ?_
   refine zH (yF (v := .bool x341) rfl rfl) ?_
   refine zI (.bool x341) ?_
   obtain rfl := someI hF
   exact (zD (zA (meet ⟨(), (zJ rfl zL), H.pick [0, 1, 2] (by decide)⟩)))
  have hF := zS c335 hF
  refine yC ?_
  refine yC ?_
  refine yC ?_
  refine yC ?_
  refine zH (yF (v := .bool false) rfl rfl) ?_
  refine zH (yF (v := .bool false) rfl rfl) ?_
  refine zI (.bool false) ?_
  obtain rfl := someI hF
  exact (zD (zA (meet ⟨(), (zJ rfl zL), H.pick [0, 1, 2] (by decide)⟩)))
 rintro _ ρ w321 H
 have hF := hK322
 refine yA (b := g320) rfl (fun c343 => ?_) (fun c343 => ?_)
 ·have hF := zQ c343 hF
  refine zC fun K344 hK344 => ?_
  refine zB ?_
  refine zI (.int .i64 8) ?_
  refine (zD (zA (hK344 _ _ ?_)))
  obtain rfl := someI hF
  refine (yB (yE (zW (post1 (v1 := .int .i64 8) rfl rfl ?_))))
  exact ⟨rfl, H.pick [] (by decide)⟩
 have hF := zS c343 hF
 obtain ⟨g353, hF, hK355⟩ := zG hF
 refine yL [91, 92, 93, 94, 95, 96, 97, 98, 99] (fun (g : Unit) => [(91, .bool g353)]) (fun g wl => Hd O w wl S [.fz (.sl rCond v1 p0.Kids), .blk b4 [.int .i64 p0.Kind, .string (bs p0.Name), .string (bs p0.Other), .int .i64 p0.Op, .int .i64 p0.N, .int .i64 p0.Frames, v1] 70, .blk b14 [.bool x9.name, .bool x9.other, .bool x9.op, .bool x9.n, .bool x9.frames, .int .i64 x9.least, .int .i64 x9.most] 226]) ?_ ?_
 ·skip
  refine zB ?_
  refine zH (fa226_2 rfl) ?_
  refine zH (zO one4 rfl (Cells.get (Blk.cells (H.item (i := 2) rfl)) (i := 2) rfl)) ?_
  refine yK (b := x9.op) rfl rfl rfl (fun c356 => ?_) (fun c356 => ?_)
  ·have hF := zQ c356 hF
   refine zH (fa70_3 rfl) ?_
   refine zH (zO one3 rfl (Cells.get (Blk.cells (H.item (i := 1) rfl)) (i := 3) rfl)) ?_
   have H357 := H
   obtain ⟨x358, e359, hF⟩ := zG hF
   refine zZ rfl rfl (zT en76 rfl) (F_event_within_w p0.Op 1 6 _ e359 _ _ _ (H.enter [] [] (by decide) rfl)) ?_
   rintro _ w360 ⟨rfl, G361⟩
   have H := H357.step (G361.only : Only [] _ _)
   refine ⟨_, rfl, ?_⟩
   obtain ⟨x362, e363, hF⟩ := zF hF
   refine zH (zM (wJ (p := x358) rfl) e363) ?_
   refine zH (yI (v := .bool x362) rfl rfl) ?_
   refine zI (.bool x362) ?_
   obtain rfl := someI hF
   exact (zD (zA (meet ⟨(), (zJ rfl zL), H.pick [0, 1, 2] (by decide)⟩)))
  have hF := zS c356 hF
  refine yC ?_
  refine yC ?_
  refine yC ?_
  refine yC ?_
  refine zH (yF (v := .bool false) rfl rfl) ?_
  refine zI (.bool false) ?_
  obtain rfl := someI hF
  exact (zD (zA (meet ⟨(), (zJ rfl zL), H.pick [0, 1, 2] (by decide)⟩)))
 rintro _ ρ w354 H
 have hF := hK355
 refine yA (b := g353) rfl (fun c364 => ?_) (fun c364 => ?_)
 ·have hF := zQ c364 hF
  refine zC fun K365 hK365 => ?_
  refine zB ?_
  refine zI (.int .i64 7) ?_
  refine (zD (zA (hK365 _ _ ?_)))
  obtain rfl := someI hF
  refine (yB (yE (zW (post1 (v1 := .int .i64 7) rfl rfl ?_))))
  exact ⟨rfl, H.pick [] (by decide)⟩
 have hF := zS c364 hF
 obtain ⟨g374, hF, hK376⟩ := zG hF
 refine yL [100, 101, 102, 103, 104, 105, 106, 107, 108] (fun (g : Unit) => [(100, .bool g374)]) (fun g wl => Hd O w wl S [.fz (.sl rCond v1 p0.Kids), .blk b4 [.int .i64 p0.Kind, .string (bs p0.Name), .string (bs p0.Other), .int .i64 p0.Op, .int .i64 p0.N, .int .i64 p0.Frames, v1] 70, .blk b14 [.bool x9.name, .bool x9.other, .bool x9.op, .bool x9.n, .bool x9.frames, .int .i64 x9.least, .int .i64 x9.most] 226]) ?_ ?_
 ·skip
  refine zB ?_
  refine zH (fa226_4 rfl) ?_
  refine zH (zO one4 rfl (Cells.get (Blk.cells (H.item (i := 2) rfl)) (i := 4) rfl)) ?_
  refine yK (b := x9.frames) rfl rfl rfl (fun c377 => ?_) (fun c377 => ?_)
  ·have hF := zQ c377 hF
   refine zH (fa70_5 rfl) ?_
   refine zH (zO one3 rfl (Cells.get (Blk.cells (H.item (i := 1) rfl)) (i := 5) rfl)) ?_
   have H378 := H
   obtain ⟨x379, e380, hF⟩ := zG hF
   refine zZ rfl rfl (zT en76 rfl) (F_event_within_w p0.Frames 1 4096 _ e380 _ _ _ (H.enter [] [] (by decide) rfl)) ?_
   rintro _ w381 ⟨rfl, G382⟩
   have H := H378.step (G382.only : Only [] _ _)
   refine ⟨_, rfl, ?_⟩
   obtain ⟨x383, e384, hF⟩ := zF hF
   refine zH (zM (wJ (p := x379) rfl) e384) ?_
   refine zH (yI (v := .bool x383) rfl rfl) ?_
   refine zI (.bool x383) ?_
   obtain rfl := someI hF
   exact (zD (zA (meet ⟨(), (zJ rfl zL), H.pick [0, 1, 2] (by decide)⟩)))
  have hF := zS c377 hF
  refine yC ?_
  refine yC ?_
  refine yC ?_
  refine yC ?_
  refine zH (yF (v := .bool false) rfl rfl) ?_
  refine zI (.bool false) ?_
  obtain rfl := someI hF
  exact (zD (zA (meet ⟨(), (zJ rfl zL), H.pick [0, 1, 2] (by decide)⟩)))
 rintro _ ρ w375 H
 have hF := hK376
 refine yA (b := g374) rfl (fun c385 => ?_) (fun c385 => ?_)
 ·have hF := zQ c385 hF
  refine zC fun K386 hK386 => ?_
  refine zB ?_
  refine zI (.int .i64 9) ?_
  refine (zD (zA (hK386 _ _ ?_)))
  obtain rfl := someI hF
  refine (yB (yE (zW (post1 (v1 := .int .i64 9) rfl rfl ?_))))
  exact ⟨rfl, H.pick [] (by decide)⟩
 have hF := zS c385 hF
 obtain ⟨g397, hF, hK399⟩ := zG hF
 refine yL [109, 110, 111, 112, 113, 114, 115, 116, 117, 118, 119, 120] (fun (g : Unit) => [(109, .bool g397)]) (fun g wl => Hd O w wl S [.fz (.sl rCond v1 p0.Kids), .blk b4 [.int .i64 p0.Kind, .string (bs p0.Name), .string (bs p0.Other), .int .i64 p0.Op, .int .i64 p0.N, .int .i64 p0.Frames, v1] 70, .blk b14 [.bool x9.name, .bool x9.other, .bool x9.op, .bool x9.n, .bool x9.frames, .int .i64 x9.least, .int .i64 x9.most] 226]) ?_ ?_
 ·skip
  refine zB ?_
  refine zH (fa70_0 rfl) ?_
  refine zH (zO one3 rfl (Cells.get (Blk.cells (H.item (i := 1) rfl)) (i := 0) rfl)) ?_
  obtain ⟨x400, e401, hF⟩ := zF hF
  refine zH (zM (yR (a := p0.Kind) (b := 13) rfl rfl) e401) ?_
  refine yK (b := x400) rfl rfl rfl (fun c402 => ?_) (fun c402 => ?_)
  ·have hF := zQ c402 hF
   refine zH (fa70_4 rfl) ?_
   refine zH (zO one3 rfl (Cells.get (Blk.cells (H.item (i := 1) rfl)) (i := 4) rfl)) ?_
   refine zH (fa70_5 rfl) ?_
   refine zH (zO one3 rfl (Cells.get (Blk.cells (H.item (i := 1) rfl)) (i := 5) rfl)) ?_
   have H403 := H
   obtain ⟨x404, e405, hF⟩ := zG hF
   refine zZ rfl rfl (zT en76 rfl) (F_event_within_w p0.N 1 p0.Frames _ e405 _ _ _ (H.enter [] [] (by decide) rfl)) ?_
   rintro _ w406 ⟨rfl, G407⟩
   have H := H403.step (G407.only : Only [] _ _)
   refine ⟨_, rfl, ?_⟩
   obtain ⟨x408, e409, hF⟩ := zF hF
   refine zH (zM (wJ (p := x404) rfl) e409) ?_
   refine zH (yI (v := .bool x408) rfl rfl) ?_
   refine zI (.bool x408) ?_
   obtain rfl := someI hF
   exact (zD (zA (meet ⟨(), (zJ rfl zL), H.pick [0, 1, 2] (by decide)⟩)))
  have hF := zS c402 hF
  refine yC ?_
  refine yC ?_
  refine yC ?_
  refine yC ?_
  refine yC ?_
  refine yC ?_
  refine zH (yF (v := .bool false) rfl rfl) ?_
  refine zI (.bool false) ?_
  obtain rfl := someI hF
  exact (zD (zA (meet ⟨(), (zJ rfl zL), H.pick [0, 1, 2] (by decide)⟩)))
 rintro _ ρ w398 H
 have hF := hK399
 refine yA (b := g397) rfl (fun c410 => ?_) (fun c410 => ?_)
 ·have hF := zQ c410 hF
  refine zC fun K411 hK411 => ?_
  refine zB ?_
  refine zI (.int .i64 9) ?_
  refine (zD (zA (hK411 _ _ ?_)))
  obtain rfl := someI hF
  refine (yB (yE (zW (post1 (v1 := .int .i64 9) rfl rfl ?_))))
  exact ⟨rfl, H.pick [] (by decide)⟩
 have hF := zS c410 hF
 obtain ⟨g429, hF, hK431⟩ := zG hF
 refine yL [121, 122, 123, 124, 125, 126, 127, 128, 129, 130, 131, 132, 133, 134, 135, 136, 137, 138, 139] (fun (g : Unit) => [(121, .bool g429)]) (fun g wl => Hd O w wl S []) ?_ ?_
 ·skip
  refine zB ?_
  refine zH (fa226_3 rfl) ?_
  refine zH (zO one4 rfl (Cells.get (Blk.cells (H.item (i := 2) rfl)) (i := 3) rfl)) ?_
  obtain ⟨j432, hF, hK433⟩ := zG hF
  refine RL_cutS 6 [124, 125, 126, 127, 128, 129] [(129, .bool j432)] (fun wl => Hd O w wl S [.fz (.sl rCond v1 p0.Kids), .blk b4 [.int .i64 p0.Kind, .string (bs p0.Name), .string (bs p0.Other), .int .i64 p0.Op, .int .i64 p0.N, .int .i64 p0.Frames, v1] 70, .blk b14 [.bool x9.name, .bool x9.other, .bool x9.op, .bool x9.n, .bool x9.frames, .int .i64 x9.least, .int .i64 x9.most] 226]) ?_ ?_
  ·skip
   refine yK (b := x9.n) rfl rfl rfl (fun c435 => ?_) (fun c435 => ?_)
   ·have hF := zQ c435 hF
    refine zH (fa70_4 rfl) ?_
    refine zH (zO one3 rfl (Cells.get (Blk.cells (H.item (i := 1) rfl)) (i := 4) rfl)) ?_
    have H436 := H
    obtain ⟨x437, e438, hF⟩ := zG hF
    refine zZ rfl rfl (zT en76 rfl) (F_event_within_w p0.N (-1125899906842624) 1125899906842624 _ e438 _ _ _ (H.enter [] [] (by decide) rfl)) ?_
    rintro _ w439 ⟨rfl, G440⟩
    have H := H436.step (G440.only : Only [] _ _)
    refine ⟨_, rfl, ?_⟩
    obtain ⟨x441, e442, hF⟩ := zF hF
    refine zH (zM (wJ (p := x437) rfl) e442) ?_
    refine zH (yI (v := .bool x441) rfl rfl) ?_
    obtain rfl := someI hF
    exact zD (zA (meet ⟨(zJ rfl zL), H.pick [0, 1, 2] (by decide)⟩))
   have hF := zS c435 hF
   refine yC ?_
   refine yC ?_
   refine yC ?_
   refine yC ?_
   refine zH (yF (v := .bool false) rfl rfl) ?_
   obtain rfl := someI hF
   exact zD (zA (meet ⟨(zJ rfl zL), H.pick [0, 1, 2] (by decide)⟩))
  rintro ρ w434 H
  have hF := hK433
  refine yK (b := j432) rfl rfl rfl (fun c443 => ?_) (fun c443 => ?_)
  ·have hF := zQ c443 hF
   refine yC ?_
   refine yC ?_
   refine yC ?_
   refine yC ?_
   refine yC ?_
   refine yC ?_
   refine yC ?_
   refine yC ?_
   refine zH (yI (v := .bool true) rfl rfl) ?_
   refine zI (.bool true) ?_
   obtain rfl := someI hF
   exact (zD (zA (meet ⟨(), (zJ rfl zL), H.pick [] (by decide)⟩)))
  have hF := zS c443 hF
  refine zH (fa70_0 rfl) ?_
  refine zH (zO one3 rfl (Cells.get (Blk.cells (H.item (i := 1) rfl)) (i := 0) rfl)) ?_
  obtain ⟨x444, e445, hF⟩ := zF hF
  refine zH (zM (yR (a := p0.Kind) (b := 5) rfl rfl) e445) ?_
  refine yK (b := x444) rfl rfl rfl (fun c446 => ?_) (fun c446 => ?_)
  ·have hF := zQ c446 hF
   refine zH (fa70_4 rfl) ?_
   refine zH (zO one3 rfl (Cells.get (Blk.cells (H.item (i := 1) rfl)) (i := 4) rfl)) ?_
   obtain ⟨x447, e448, hF⟩ := zF hF
   refine zH (zM (xI (a := p0.N) (b := 0) rfl rfl) e448) ?_
   refine zH (yI (v := .bool x447) rfl rfl) ?_
   refine zH (yF (v := .bool x447) rfl rfl) ?_
   refine zI (.bool x447) ?_
   obtain rfl := someI hF
   exact (zD (zA (meet ⟨(), (zJ rfl zL), H.pick [] (by decide)⟩)))
  have hF := zS c446 hF
  refine yC ?_
  refine yC ?_
  refine yC ?_
  refine zH (yF (v := .bool false) rfl rfl) ?_
  refine zH (yF (v := .bool false) rfl rfl) ?_
  refine zI (.bool false) ?_
  obtain rfl := someI hF
  exact (zD (zA (meet ⟨(), (zJ rfl zL), H.pick [] (by decide)⟩)))
 rintro _ ρ w430 H
 have hF := hK431
 refine yA (b := g429) rfl (fun c449 => ?_) (fun c449 => ?_)
 ·have hF := zQ c449 hF
  refine zC fun K450 hK450 => ?_
  refine zB ?_
  refine zI (.int .i64 9) ?_
  refine (zD (zA (hK450 _ _ ?_)))
  obtain rfl := someI hF
  refine (yB (yE (zW (post1 (v1 := .int .i64 9) rfl rfl ?_))))
  exact ⟨rfl, H.pick [] (by decide)⟩
 have hF := zS c449 hF
 refine (zX (yT (zA (hK299 _ _ ?_))))
 refine zC fun K451 hK451 => ?_
 refine zB ?_
 refine zI (.int .i64 0) ?_
 refine (zD (zA (hK451 _ _ ?_)))
 obtain rfl := someI hF
 refine (yB (post1 (v1 := .int .i64 0) rfl rfl ?_))
 exact ⟨rfl, H.pick [] (by decide)⟩
abbrev S_event_each_event_checkOne (f : Cond → Option Int) : Prop := ∀ (p0 : Cond) (v1 : Value) (r : Int) (_ : f p0 = some r) (O S : List Nat) (w : World) (_ : Hd O w w S [.fz (.sl rCond v1 p0.Kids)]),
  Calls Tryz.prog 81 ([.agg [.int .i64 p0.Kind, .string (bs p0.Name), .string (bs p0.Other), .int .i64 p0.Op, .int .i64 p0.N, .int .i64 p0.Frames, v1].toArray, .func (.func 82) #[] #[]] : List Value).toArray w fun e w' => e = .returned (.int .i64 r) ∧ Hd O w w' S []
set_option maxHeartbeats 4000000 in
theorem F_event_each_event_checkOne_B_w (rfD : Cond → Option Int) (rhD : S_event_each_event_checkOne rfD) (p0 : Cond) (v1 : Value) (r : Int) (hF : F_event_each_event_checkOne_B rfD p0 = some r) (O S : List Nat) (w : World) (H : Hd O w w S [.fz (.sl rCond v1 p0.Kids)]) :
  Calls Tryz.prog 81 ([.agg [.int .i64 p0.Kind, .string (bs p0.Name), .string (bs p0.Other), .int .i64 p0.Op, .int .i64 p0.N, .int .i64 p0.Frames, v1].toArray, .func (.func 82) #[] #[]] : List Value).toArray w fun e w' => e = .returned (.int .i64 r) ∧ Hd O w w' S [] := by
 unfold F_event_each_event_checkOne_B at hF
 refine zY 29 Tryz.func81 rfl rfl rfl ?_
 refine zC fun K3 hK3 => ?_
 refine zB ?_
 refine yZ rfl rfl (wF (cs := [.int .i64 p0.Kind, .string (bs p0.Name), .string (bs p0.Other), .int .i64 p0.Op, .int .i64 p0.N, .int .i64 p0.Frames, v1]) rfl H) ?_
 rintro _ w6 ⟨b4, rfl, H⟩
 refine zI (.int .i64 0) ?_
 refine (zD (zA (hK3 _ _ ?_)))
 refine zC fun K18 hK18 => ?_
 refine zC fun K19 hK19 => ?_
 refine zB ?_
 refine zK (.func (.func 82) #[] #[]) ?_
 refine zH (yN (yJ (cs := [.int .i64 p0.Kind, .string (bs p0.Name), .string (bs p0.Other), .int .i64 p0.Op, .int .i64 p0.N, .int .i64 p0.Frames, v1]) agg70 rfl sz70 rfl (Blk.cells (H.item (i := 1) rfl))) rfl) ?_
 have H20 := H
 obtain ⟨x21, e22, hF⟩ := zG hF
 refine zZ rfl rfl (DoC_clo en82 rfl rfl) (F_event_checkOne_w p0 v1 _ e22 _ _ _ (H.enter [] [0] (by decide) rfl)) ?_
 rintro _ w23 ⟨rfl, G24⟩
 have H := H20.step (G24.only : Only [] _ _)
 refine ⟨_, rfl, ?_⟩
 refine zI (.int .i64 x21) ?_
 refine (zD (zA (hK19 _ _ ?_)))
 refine zC fun K25 hK25 => ?_
 refine zB ?_
 refine zK (.int .i64 x21) ?_
 obtain ⟨x26, e27, hF⟩ := zF hF
 refine zH (zM (Do_neq (a := x21) (b := 0) rfl rfl) e27) ?_
 refine (zD (zA (hK25 _ _ ?_)))
 refine yA (b := x26) rfl (fun c28 => ?_) (fun c28 => ?_)
 ·have hF := zQ c28 hF
  refine zC fun K29 hK29 => ?_
  refine zB ?_
  refine zK (.int .i64 x21) ?_
  refine zI (.int .i64 x21) ?_
  refine (zD (zA (hK29 _ _ ?_)))
  obtain rfl := someI hF
  refine (yB (zW (post1 (v1 := .int .i64 x21) rfl rfl ?_)))
  exact ⟨rfl, H.pick [] (by decide)⟩
 have hF := zS c28 hF
 refine (zX (zA (hK18 _ _ ?_)))
 obtain ⟨k186, ek187, hF⟩ := xQ hF
 refine yL [4, 7, 8, 15, 16, 17, 18, 19, 20, 21, 22, 23, 24, 25, 26, 27, 28] (fun (g : Unit) => []) (fun g wl => Hd O w wl S [] ∧ k186 () = some r) ?_ ?_
 ·skip
  refine zC fun K188 hK188 => ?_
  refine zB ?_
  refine zH (fa70_6 rfl) ?_
  refine zH (zO one68 rfl (Cells.get (Blk.cells (H.item (i := 1) rfl)) (i := 6) rfl)) ?_
  obtain ⟨x189, e190, hF⟩ := zF hF
  obtain ⟨a191, c192, q193⟩ := SlF.len ((H.item (i := 0) rfl))
  refine zH (yN (xM u68 q193) (congrArg (Value.int .i64) e190)) ?_
  refine zK (.int .i64 0) ?_
  refine (zD (zA (hK188 _ _ ?_)))
  refine yG ?_
  unfold F_event_each_event_checkOne_B_L1 at hF
  obtain ⟨B338, n339, eB340, hF⟩ := yS hF
  refine xE [4, 7, 8, 18, 19, 20, 21, 22, 23, 24, 25, 26, 27, 28] (fun (g : Nat × Int) => [(18, .int .i64 g.2)]) (fun g wl => Hd O w wl S [.fz (.sl rCond v1 p0.Kids)] ∧ loopN B338 g.1 g.2 = some r) (fun g => g.1) (n339, 0) (zJ rfl zL) ⟨H.pick [0] (by decide), hF⟩ ?_
  clear H hF
  rintro ⟨n339, g337⟩ ρ w342 ⟨H, hF⟩
  obtain ⟨n343, rfl, hF⟩ := yX hF
  have hF := yY eB340 hF
  refine zC fun K344 hK344 => ?_
  refine zB ?_
  obtain ⟨x345, e346, hF⟩ := zF hF
  refine zH (zM (xI (a := g337) (b := x189) rfl rfl) e346) ?_
  refine (zD (zA (hK344 _ _ ?_)))
  refine zC fun K348 hK348 => ?_
  refine yA (b := x345) rfl (fun c349 => ?_) (fun c349 => ?_)
  ·have hF := zQ c349 hF
   refine (zX (zA (hK348 _ _ ?_)))
   refine zC fun K381 hK381 => ?_
   refine yG ?_
   refine zC fun K382 hK382 => ?_
   refine zB ?_
   obtain ⟨x383, e384, hF⟩ := zG hF
   obtain ⟨b385, o386, c387, cs388, q389, h392, h390, h391, h393⟩ := rd_at (H.item (i := 0) rfl) e384
   obtain ⟨v394, rfl, h395⟩ := wI h392
   have H := H.fzs [.at b385 (o386 + g337.toNat * 7) _, .sl rCond v394 x383.Kids] ⟨⟨h390, h391, h393⟩, h395, trivial⟩
   refine zH (wC u68 sz70 q389 rfl (yP e384).1 (yP e384).2.1 rfl rfl) ?_
   refine zH (yN (yJ (cs := [.int .i64 x383.Kind, .string (bs x383.Name), .string (bs x383.Other), .int .i64 x383.Op, .int .i64 x383.N, .int .i64 x383.Frames, v394]) agg70 rfl sz70 rfl (H.item (i := 1) rfl).2.2) rfl) ?_
   refine yZ rfl rfl (xN zero70 H) ?_
   rintro _ w400 ⟨b398, rfl, H⟩
   refine xH rfl (xC (vs := [.int .i64 x383.Kind, .string (bs x383.Name), .string (bs x383.Other), .int .i64 x383.Op, .int .i64 x383.N, .int .i64 x383.Frames, v394]) H 3 rfl sz70 rfl rfl rfl ⟨rfl, rfl, rfl, rfl, rfl, rfl, (slf_one (H.item (i := 2) rfl)), trivial⟩ rfl) ?_
   rintro w401 H
   refine (zD (zA (hK382 _ _ ?_)))
   refine zC fun K402 hK402 => ?_
   refine zB ?_
   refine zH (yN (yJ (cs := [.int .i64 x383.Kind, .string (bs x383.Name), .string (bs x383.Other), .int .i64 x383.Op, .int .i64 x383.N, .int .i64 x383.Frames, v394]) agg70 rfl sz70 rfl (Blk.cells (H.item (i := 3) rfl))) rfl) ?_
   refine zK (.func (.func 82) #[] #[]) ?_
   have H403 := H
   obtain ⟨x404, e405, hF⟩ := zG hF
   refine zZ rfl rfl (zT en81 rfl) (rhD x383 v394 _ e405 _ _ _ (H.enter [] [2] (by decide) rfl)) ?_
   rintro _ w406 ⟨rfl, G407⟩
   have H := H403.step (G407.only : Only [] _ _)
   refine ⟨_, rfl, ?_⟩
   refine zI (.int .i64 x404) ?_
   refine (zD (zA (hK402 _ _ ?_)))
   refine zC fun K408 hK408 => ?_
   refine zB ?_
   refine zK (.int .i64 x404) ?_
   obtain ⟨x409, e410, hF⟩ := zF hF
   refine zH (zM (Do_neq (a := x404) (b := 0) rfl rfl) e410) ?_
   refine (zD (zA (hK408 _ _ ?_)))
   refine yA (b := x409) rfl (fun c411 => ?_) (fun c411 => ?_)
   ·have hF := zQ c411 hF
    refine zC fun K412 hK412 => ?_
    refine zB ?_
    refine zK (.int .i64 x404) ?_
    refine zI (.int .i64 x404) ?_
    refine (zD (zA (hK412 _ _ ?_)))
    obtain rfl := someI hF
    refine (yB (yE (zW (zW (yE (zW (post1 (v1 := .int .i64 x404) rfl rfl ?_)))))))
    exact ⟨rfl, H.pick [] (by decide)⟩
   have hF := zS c411 hF
   refine (zX (yT (zA (hK381 _ _ ?_))))
   refine zB ?_
   obtain ⟨x413, e414, hF⟩ := zF hF
   refine zH (xP (a := g337) (b := 1) rfl rfl e414) ?_
   refine zK (.int .i64 x413) ?_
   exact (zD (zA (meet ⟨(n343, x413), (zJ rfl zL), ⟨H.pick [0] (by decide), hF⟩, Nat.lt_succ_self _⟩)))
  have hF := zS c349 hF
  exact (xJ (yO (yO (xB (zA (meet ⟨(), zL, ⟨H.pick [] (by decide), hF⟩⟩))))))
 rintro _ ρ w185 ⟨H, hF⟩
 have hF := wB ek187 hF
 refine zC fun K415 hK415 => ?_
 refine zB ?_
 refine zI (.int .i64 0) ?_
 refine (zD (zA (hK415 _ _ ?_)))
 obtain rfl := someI hF
 refine (yB (post1 (v1 := .int .i64 0) rfl rfl ?_))
 exact ⟨rfl, H.pick [] (by decide)⟩
theorem F_event_each_event_checkOne_s : S_event_each_event_checkOne (F_event_each_event_checkOne) := by
 have h : ∀ n, S_event_each_event_checkOne (F_event_each_event_checkOne_R n) := by
  intro n
  induction n with
  | zero => intro p0 v1 r hF; cases hF
  | succ n ih => intro p0 v1 r hF; exact F_event_each_event_checkOne_B_w (F_event_each_event_checkOne_R n) ih p0 v1 r hF
 exact h FU
set_option maxHeartbeats 4000000 in
theorem F_event_CheckCond_w (p0 : Cond) (v1 : Value) (r : Int) (hF : F_event_CheckCond p0 = some r) (O S : List Nat) (w : World) (H : Hd O w w S [.fz (.sl rCond v1 p0.Kids)]) :
  Calls Tryz.prog 29 ([.agg [.int .i64 p0.Kind, .string (bs p0.Name), .string (bs p0.Other), .int .i64 p0.Op, .int .i64 p0.N, .int .i64 p0.Frames, v1].toArray] : List Value).toArray w fun e w' => e = .returned (.int .i64 r) ∧ Hd O w w' S [] := by
 unfold F_event_CheckCond at hF
 refine zY 9 Tryz.func29 rfl rfl rfl ?_
 refine zC fun K3 hK3 => ?_
 refine zB ?_
 refine yZ rfl rfl (wF (cs := [.int .i64 p0.Kind, .string (bs p0.Name), .string (bs p0.Other), .int .i64 p0.Op, .int .i64 p0.N, .int .i64 p0.Frames, v1]) rfl H) ?_
 rintro _ w6 ⟨b4, rfl, H⟩
 refine zI (.int .i64 0) ?_
 refine (zD (zA (hK3 _ _ ?_)))
 refine zC fun K7 hK7 => ?_
 refine zB ?_
 refine yZ rfl rfl (xN zero3 H) ?_
 rintro _ w10 ⟨b8, rfl, H⟩
 refine xH rfl (wH H 2 rfl sz3 rfl (v := .int .i64 0) rfl rfl rfl) ?_
 rintro w11 H
 refine (zD (zA (hK7 _ _ ?_)))
 refine zC fun K22 hK22 => ?_
 refine zC fun K23 hK23 => ?_
 refine zB ?_
 refine zH (yN (yJ (cs := [.int .i64 p0.Kind, .string (bs p0.Name), .string (bs p0.Other), .int .i64 p0.Op, .int .i64 p0.N, .int .i64 p0.Frames, v1]) agg70 rfl sz70 rfl (Blk.cells (H.item (i := 1) rfl))) rfl) ?_
 obtain ⟨⟨x24, x25⟩, e26, hF⟩ := zG hF
 refine zZ rfl rfl (zT en80 rfl) (F_event_small_s p0 20 0 v1 b8 _ e26 _ _ _ (H.enter [2] [0] (by decide) rfl)) ?_
 rintro _ w27 ⟨rfl, G28⟩
 have H : Hd O _ w27 _ [.fz (.sl rCond v1 p0.Kids), .blk b4 [.int .i64 p0.Kind, .string (bs p0.Name), .string (bs p0.Other), .int .i64 p0.Op, .int .i64 p0.N, .int .i64 p0.Frames, v1] 70, .blk b8 [.int .i64 x25] 3] := H.back [2] [0] rfl G28
 refine ⟨_, rfl, ?_⟩
 obtain ⟨x29, e30, hF⟩ := zF hF
 refine zH (zM (wJ (p := x24) rfl) e30) ?_
 refine (zD (zA (hK23 _ _ ?_)))
 refine yA (b := x29) rfl (fun c31 => ?_) (fun c31 => ?_)
 ·have hF := zQ c31 hF
  refine zC fun K32 hK32 => ?_
  refine zB ?_
  refine zI (.int .i64 3) ?_
  refine (zD (zA (hK32 _ _ ?_)))
  obtain rfl := someI hF
  refine (yB (zW (post1 (v1 := .int .i64 3) rfl rfl ?_)))
  exact ⟨rfl, H.pick [] (by decide)⟩
 have hF := zS c31 hF
 refine (zX (zA (hK22 _ _ ?_)))
 refine zC fun K33 hK33 => ?_
 refine zB ?_
 refine zH (yN (yJ (cs := [.int .i64 p0.Kind, .string (bs p0.Name), .string (bs p0.Other), .int .i64 p0.Op, .int .i64 p0.N, .int .i64 p0.Frames, v1]) agg70 rfl sz70 rfl (Blk.cells (H.item (i := 1) rfl))) rfl) ?_
 have H34 := H
 obtain ⟨x35, e36, hF⟩ := zG hF
 refine zZ rfl rfl (zT en81 rfl) (F_event_each_event_checkOne_s p0 v1 _ e36 _ _ _ (H.enter [] [0] (by decide) rfl)) ?_
 rintro _ w37 ⟨rfl, G38⟩
 have H := H34.step (G38.only : Only [] _ _)
 refine ⟨_, rfl, ?_⟩
 refine zI (.int .i64 x35) ?_
 refine (zD (zA (hK33 _ _ ?_)))
 obtain rfl := someI hF
 refine (yB (post1 (v1 := .int .i64 x35) rfl rfl ?_))
 exact ⟨rfl, H.pick [] (by decide)⟩
abbrev S_ref6_nodes (f : Cond → Int → Option Int) : Prop := ∀ (p0 : Cond) (p1 : Int) (v1 : Value) (r : Int) (_ : f p0 p1 = some r) (O S : List Nat) (w : World) (_ : Hd O w w S [.fz (.sl rCond v1 p0.Kids)]),
  Calls Tryz.prog 83 ([.agg [.int .i64 p0.Kind, .string (bs p0.Name), .string (bs p0.Other), .int .i64 p0.Op, .int .i64 p0.N, .int .i64 p0.Frames, v1].toArray, .int .i64 p1] : List Value).toArray w fun e w' => e = .returned (.int .i64 r) ∧ Hd O w w' S []
set_option maxHeartbeats 4000000 in
theorem F_ref6_nodes_B_w (rfE : Cond → Int → Option Int) (rhE : S_ref6_nodes rfE) (p0 : Cond) (p1 : Int) (v1 : Value) (r : Int) (hF : F_ref6_nodes_B rfE p0 p1 = some r) (O S : List Nat) (w : World) (H : Hd O w w S [.fz (.sl rCond v1 p0.Kids)]) :
  Calls Tryz.prog 83 ([.agg [.int .i64 p0.Kind, .string (bs p0.Name), .string (bs p0.Other), .int .i64 p0.Op, .int .i64 p0.N, .int .i64 p0.Frames, v1].toArray, .int .i64 p1] : List Value).toArray w fun e w' => e = .returned (.int .i64 r) ∧ Hd O w w' S [] := by
 unfold F_ref6_nodes_B at hF
 refine zY 31 Tryz.func83 rfl rfl rfl ?_
 refine zC fun K3 hK3 => ?_
 refine zB ?_
 refine yZ rfl rfl (wF (cs := [.int .i64 p0.Kind, .string (bs p0.Name), .string (bs p0.Other), .int .i64 p0.Op, .int .i64 p0.N, .int .i64 p0.Frames, v1]) rfl H) ?_
 rintro _ w6 ⟨b4, rfl, H⟩
 refine zI (.int .i64 0) ?_
 refine (zD (zA (hK3 _ _ ?_)))
 refine zC fun K7 hK7 => ?_
 refine zB ?_
 refine zI (.int .i64 1) ?_
 refine (zD (zA (hK7 _ _ ?_)))
 obtain ⟨g177, hF, hK179⟩ := zG hF
 refine yL [5, 6, 7, 8, 9, 10, 11, 12, 13, 14, 15, 16, 17, 18, 19, 20, 21, 22, 23, 24, 25, 26, 27, 28, 29] (fun (g : Unit) => [(5, .int .i64 g177)]) (fun g wl => Hd O w wl S []) ?_ ?_
 ·skip
  refine zC fun K180 hK180 => ?_
  refine zB ?_
  refine zI (.int .i64 0) ?_
  refine (zD (zA (hK180 _ _ ?_)))
  refine yG ?_
  unfold F_ref6_nodes_B_L1 at hF
  obtain ⟨B345, n346, eB347, hF⟩ := yS hF
  refine xE [5, 6, 7, 8, 9, 10, 11, 12, 13, 14, 15, 16, 17, 18, 19, 20, 21, 22, 23, 24, 25, 26, 27, 28, 29] (fun (g : Nat × Int × Int) => [(5, .int .i64 g.2.1), (6, .int .i64 g.2.2)]) (fun g wl => Hd O w wl S [.fz (.sl rCond v1 p0.Kids), .blk b4 [.int .i64 p0.Kind, .string (bs p0.Name), .string (bs p0.Other), .int .i64 p0.Op, .int .i64 p0.N, .int .i64 p0.Frames, v1] 70] ∧ loopN B345 g.1 (g.2.1, g.2.2) = some g177) (fun g => g.1) (n346, 1, 0) (zJ rfl (zJ rfl zL)) ⟨H.pick [0, 1] (by decide), hF⟩ ?_
  clear H hF
  rintro ⟨n346, g343, g344⟩ ρ w349 ⟨H, hF⟩
  obtain ⟨n350, rfl, hF⟩ := yX hF
  have hF := yY eB347 hF
  refine zC fun K365 hK365 => ?_
  obtain ⟨g376, hF, hK378⟩ := zG hF
  refine yL [7, 8, 9, 10, 11, 12, 13, 14, 15, 16] (fun (g : Unit) => [(16, .bool g376)]) (fun g wl => Hd O w wl S [.fz (.sl rCond v1 p0.Kids), .blk b4 [.int .i64 p0.Kind, .string (bs p0.Name), .string (bs p0.Other), .int .i64 p0.Op, .int .i64 p0.N, .int .i64 p0.Frames, v1] 70]) ?_ ?_
  ·skip
   refine zB ?_
   refine zK (.int .i64 g344) ?_
   refine zH (fa70_6 rfl) ?_
   refine zH (zO one68 rfl (Cells.get (Blk.cells (H.item (i := 1) rfl)) (i := 6) rfl)) ?_
   obtain ⟨x379, e380, hF⟩ := zF hF
   obtain ⟨a381, c382, q383⟩ := SlF.len ((H.item (i := 0) rfl))
   refine zH (yN (xM u68 q383) (congrArg (Value.int .i64) e380)) ?_
   obtain ⟨x384, e385, hF⟩ := zF hF
   refine zH (zM (xI (a := g344) (b := x379) rfl rfl) e385) ?_
   refine yK (b := x384) rfl rfl rfl (fun c386 => ?_) (fun c386 => ?_)
   ·have hF := zQ c386 hF
    refine zK (.int .i64 g343) ?_
    refine zK (.int .i64 p1) ?_
    obtain ⟨x387, e388, hF⟩ := zF hF
    refine zH (zM (Do_leq (a := g343) (b := p1) rfl rfl) e388) ?_
    refine zH (yI (v := .bool x387) rfl rfl) ?_
    obtain rfl := someI hF
    exact (zD (zA (meet ⟨(), (zJ rfl zL), H.pick [0, 1] (by decide)⟩)))
   have hF := zS c386 hF
   refine yC ?_
   refine yC ?_
   refine yC ?_
   refine zH (yF (v := .bool false) rfl rfl) ?_
   obtain rfl := someI hF
   exact (zD (zA (meet ⟨(), (zJ rfl zL), H.pick [0, 1] (by decide)⟩)))
  rintro _ ρ w377 H
  have hF := hK378
  refine yA (b := g376) rfl (fun c389 => ?_) (fun c389 => ?_)
  ·have hF := zQ c389 hF
   refine (zX (zA (hK365 _ _ ?_)))
   refine zC fun K414 hK414 => ?_
   refine yG ?_
   refine zB ?_
   refine zK (.int .i64 g343) ?_
   refine zH (fa70_6 rfl) ?_
   refine zH (zO one68 rfl (Cells.get (Blk.cells (H.item (i := 1) rfl)) (i := 6) rfl)) ?_
   refine zK (.int .i64 g344) ?_
   obtain ⟨x415, e416, hF⟩ := zG hF
   obtain ⟨b417, o418, c419, cs420, q421, h424, h422, h423, h425⟩ := rd_at (H.item (i := 0) rfl) e416
   obtain ⟨v426, rfl, h427⟩ := wI h424
   have H := H.fzs [.at b417 (o418 + g344.toNat * 7) _, .sl rCond v426 x415.Kids] ⟨⟨h422, h423, h425⟩, h427, trivial⟩
   refine zH (wC u68 sz70 q421 rfl (yP e416).1 (yP e416).2.1 rfl rfl) ?_
   refine zH (yN (yJ (cs := [.int .i64 x415.Kind, .string (bs x415.Name), .string (bs x415.Other), .int .i64 x415.Op, .int .i64 x415.N, .int .i64 x415.Frames, v426]) agg70 rfl sz70 rfl (H.item (i := 2) rfl).2.2) rfl) ?_
   refine zK (.int .i64 p1) ?_
   refine zK (.int .i64 g343) ?_
   obtain ⟨x430, e431, hF⟩ := zF hF
   refine zH (Do_sub (a := p1) (b := g343) rfl rfl e431) ?_
   have H432 := H
   obtain ⟨x433, e434, hF⟩ := zG hF
   refine zZ rfl rfl (zT en83 rfl) (rhE x415 x430 v426 _ e434 _ _ _ (H.enter [] [3] (by decide) rfl)) ?_
   rintro _ w435 ⟨rfl, G436⟩
   have H := H432.step (G436.only : Only [] _ _)
   refine ⟨_, rfl, ?_⟩
   obtain ⟨x437, e438, hF⟩ := zF hF
   refine zH (xP (a := g343) (b := x433) rfl rfl e438) ?_
   refine zI (.int .i64 x437) ?_
   refine (zD (yT (zA (hK414 _ _ ?_))))
   refine zB ?_
   refine zK (.int .i64 g344) ?_
   obtain ⟨x439, e440, hF⟩ := zF hF
   refine zH (xP (a := g344) (b := 1) rfl rfl e440) ?_
   refine zI (.int .i64 x439) ?_
   exact (zD (zA (meet ⟨(n350, x437, x439), (zJ rfl (zJ rfl zL)), ⟨H.pick [0, 1] (by decide), hF⟩, Nat.lt_succ_self _⟩)))
  have hF := zS c389 hF
  obtain rfl := someI hF
  exact (xJ (yO (yO (xB (zA (meet ⟨(), (zJ rfl zL), H.pick [] (by decide)⟩))))))
 rintro _ ρ w178 H
 have hF := hK179
 refine zC fun K441 hK441 => ?_
 refine zB ?_
 refine zK (.int .i64 g177) ?_
 refine zI (.int .i64 g177) ?_
 refine (zD (zA (hK441 _ _ ?_)))
 obtain rfl := someI hF
 refine (yB (post1 (v1 := .int .i64 g177) rfl rfl ?_))
 exact ⟨rfl, H.pick [] (by decide)⟩
theorem F_ref6_nodes_s : S_ref6_nodes (F_ref6_nodes) := by
 have h : ∀ n, S_ref6_nodes (F_ref6_nodes_R n) := by
  intro n
  induction n with
  | zero => intro p0 p1 v1 r hF; cases hF
  | succ n ih => intro p0 p1 v1 r hF; exact F_ref6_nodes_B_w (F_ref6_nodes_R n) ih p0 p1 v1 r hF
 exact h FU
abbrev S_ref6_deeper (f : Cond → Int → Option Bool) : Prop := ∀ (p0 : Cond) (p1 : Int) (v1 : Value) (r : Bool) (_ : f p0 p1 = some r) (O S : List Nat) (w : World) (_ : Hd O w w S [.fz (.sl rCond v1 p0.Kids)]),
  Calls Tryz.prog 84 ([.agg [.int .i64 p0.Kind, .string (bs p0.Name), .string (bs p0.Other), .int .i64 p0.Op, .int .i64 p0.N, .int .i64 p0.Frames, v1].toArray, .int .i64 p1] : List Value).toArray w fun e w' => e = .returned (.bool r) ∧ Hd O w w' S []
set_option maxHeartbeats 4000000 in
theorem F_ref6_deeper_B_w (rfF : Cond → Int → Option Bool) (rhF : S_ref6_deeper rfF) (p0 : Cond) (p1 : Int) (v1 : Value) (r : Bool) (hF : F_ref6_deeper_B rfF p0 p1 = some r) (O S : List Nat) (w : World) (H : Hd O w w S [.fz (.sl rCond v1 p0.Kids)]) :
  Calls Tryz.prog 84 ([.agg [.int .i64 p0.Kind, .string (bs p0.Name), .string (bs p0.Other), .int .i64 p0.Op, .int .i64 p0.N, .int .i64 p0.Frames, v1].toArray, .int .i64 p1] : List Value).toArray w fun e w' => e = .returned (.bool r) ∧ Hd O w w' S [] := by
 unfold F_ref6_deeper_B at hF
 refine zY 23 Tryz.func84 rfl rfl rfl ?_
 refine zC fun K3 hK3 => ?_
 refine zB ?_
 refine yZ rfl rfl (wF (cs := [.int .i64 p0.Kind, .string (bs p0.Name), .string (bs p0.Other), .int .i64 p0.Op, .int .i64 p0.N, .int .i64 p0.Frames, v1]) rfl H) ?_
 rintro _ w6 ⟨b4, rfl, H⟩
 refine zI (.bool false) ?_
 refine (zD (zA (hK3 _ _ ?_)))
 refine zC fun K12 hK12 => ?_
 refine zC fun K13 hK13 => ?_
 refine zB ?_
 refine zK (.int .i64 p1) ?_
 obtain ⟨x14, e15, hF⟩ := zF hF
 refine zH (zM (yR (a := p1) (b := 0) rfl rfl) e15) ?_
 refine (zD (zA (hK13 _ _ ?_)))
 refine yA (b := x14) rfl (fun c16 => ?_) (fun c16 => ?_)
 ·have hF := zQ c16 hF
  refine zC fun K17 hK17 => ?_
  refine zB ?_
  refine zI (.bool true) ?_
  refine (zD (zA (hK17 _ _ ?_)))
  obtain rfl := someI hF
  refine (yB (zW (post1 (v1 := .bool true) rfl rfl ?_)))
  exact ⟨rfl, H.pick [] (by decide)⟩
 have hF := zS c16 hF
 refine (zX (zA (hK12 _ _ ?_)))
 obtain ⟨k171, ek172, hF⟩ := xQ hF
 refine yL [4, 5, 8, 9, 10, 11, 12, 13, 14, 15, 16, 17, 18, 19, 20, 21, 22] (fun (g : Unit) => []) (fun g wl => Hd O w wl S [] ∧ k171 () = some r) ?_ ?_
 ·skip
  refine zC fun K173 hK173 => ?_
  refine zB ?_
  refine zI (.int .i64 0) ?_
  refine (zD (zA (hK173 _ _ ?_)))
  refine yG ?_
  unfold F_ref6_deeper_B_L1 at hF
  obtain ⟨B320, n321, eB322, hF⟩ := yS hF
  refine xE [4, 5, 8, 9, 10, 11, 12, 13, 14, 15, 16, 17, 18, 19, 20, 21, 22] (fun (g : Nat × Int) => [(5, .int .i64 g.2)]) (fun g wl => Hd O w wl S [.fz (.sl rCond v1 p0.Kids), .blk b4 [.int .i64 p0.Kind, .string (bs p0.Name), .string (bs p0.Other), .int .i64 p0.Op, .int .i64 p0.N, .int .i64 p0.Frames, v1] 70] ∧ loopN B320 g.1 g.2 = some r) (fun g => g.1) (n321, 0) (zJ rfl zL) ⟨H.pick [0, 1] (by decide), hF⟩ ?_
  clear H hF
  rintro ⟨n321, g319⟩ ρ w324 ⟨H, hF⟩
  obtain ⟨n325, rfl, hF⟩ := yX hF
  have hF := yY eB322 hF
  refine zC fun K335 hK335 => ?_
  refine zC fun K336 hK336 => ?_
  refine zB ?_
  refine zK (.int .i64 g319) ?_
  refine zH (fa70_6 rfl) ?_
  refine zH (zO one68 rfl (Cells.get (Blk.cells (H.item (i := 1) rfl)) (i := 6) rfl)) ?_
  obtain ⟨x337, e338, hF⟩ := zF hF
  obtain ⟨a339, c340, q341⟩ := SlF.len ((H.item (i := 0) rfl))
  refine zH (yN (xM u68 q341) (congrArg (Value.int .i64) e338)) ?_
  obtain ⟨x342, e343, hF⟩ := zF hF
  refine zH (zM (xI (a := g319) (b := x337) rfl rfl) e343) ?_
  refine (zD (zA (hK336 _ _ ?_)))
  refine yA (b := x342) rfl (fun c344 => ?_) (fun c344 => ?_)
  ·have hF := zQ c344 hF
   refine (zX (zA (hK335 _ _ ?_)))
   refine zC fun K370 hK370 => ?_
   refine yG ?_
   refine zC fun K371 hK371 => ?_
   refine zB ?_
   refine zH (fa70_6 rfl) ?_
   refine zH (zO one68 rfl (Cells.get (Blk.cells (H.item (i := 1) rfl)) (i := 6) rfl)) ?_
   refine zK (.int .i64 g319) ?_
   obtain ⟨x372, e373, hF⟩ := zG hF
   obtain ⟨b374, o375, c376, cs377, q378, h381, h379, h380, h382⟩ := rd_at (H.item (i := 0) rfl) e373
   obtain ⟨v383, rfl, h384⟩ := wI h381
   have H := H.fzs [.at b374 (o375 + g319.toNat * 7) _, .sl rCond v383 x372.Kids] ⟨⟨h379, h380, h382⟩, h384, trivial⟩
   refine zH (wC u68 sz70 q378 rfl (yP e373).1 (yP e373).2.1 rfl rfl) ?_
   refine zH (yN (yJ (cs := [.int .i64 x372.Kind, .string (bs x372.Name), .string (bs x372.Other), .int .i64 x372.Op, .int .i64 x372.N, .int .i64 x372.Frames, v383]) agg70 rfl sz70 rfl (H.item (i := 2) rfl).2.2) rfl) ?_
   refine zK (.int .i64 p1) ?_
   obtain ⟨x387, e388, hF⟩ := zF hF
   refine zH (Do_sub (a := p1) (b := 1) rfl rfl e388) ?_
   have H389 := H
   obtain ⟨x390, e391, hF⟩ := zG hF
   refine zZ rfl rfl (zT en84 rfl) (rhF x372 x387 v383 _ e391 _ _ _ (H.enter [] [3] (by decide) rfl)) ?_
   rintro _ w392 ⟨rfl, G393⟩
   have H := H389.step (G393.only : Only [] _ _)
   refine ⟨_, rfl, ?_⟩
   refine (zD (zA (hK371 _ _ ?_)))
   refine yA (b := x390) rfl (fun c394 => ?_) (fun c394 => ?_)
   ·have hF := zQ c394 hF
    refine zC fun K395 hK395 => ?_
    refine zB ?_
    refine zI (.bool true) ?_
    refine (zD (zA (hK395 _ _ ?_)))
    obtain rfl := someI hF
    refine (yB (yE (zW (zW (yE (zW (post1 (v1 := .bool true) rfl rfl ?_)))))))
    exact ⟨rfl, H.pick [] (by decide)⟩
   have hF := zS c394 hF
   refine (zX (yT (zA (hK370 _ _ ?_))))
   refine zB ?_
   refine zK (.int .i64 g319) ?_
   obtain ⟨x396, e397, hF⟩ := zF hF
   refine zH (xP (a := g319) (b := 1) rfl rfl e397) ?_
   refine zI (.int .i64 x396) ?_
   exact (zD (zA (meet ⟨(n325, x396), (zJ rfl zL), ⟨H.pick [0, 1] (by decide), hF⟩, Nat.lt_succ_self _⟩)))
  have hF := zS c344 hF
  exact (xJ (yO (yO (xB (zA (meet ⟨(), zL, ⟨H.pick [] (by decide), hF⟩⟩))))))
 rintro _ ρ w170 ⟨H, hF⟩
 have hF := wB ek172 hF
 refine zC fun K398 hK398 => ?_
 refine zB ?_
 refine zI (.bool false) ?_
 refine (zD (zA (hK398 _ _ ?_)))
 obtain rfl := someI hF
 refine (yB (post1 (v1 := .bool false) rfl rfl ?_))
 exact ⟨rfl, H.pick [] (by decide)⟩
theorem F_ref6_deeper_s : S_ref6_deeper (F_ref6_deeper) := by
 have h : ∀ n, S_ref6_deeper (F_ref6_deeper_R n) := by
  intro n
  induction n with
  | zero => intro p0 p1 v1 r hF; cases hF
  | succ n ih => intro p0 p1 v1 r hF; exact F_ref6_deeper_B_w (F_ref6_deeper_R n) ih p0 p1 v1 r hF
 exact h FU
set_option maxHeartbeats 4000000 in
theorem F_ref6_outside_w (p0 : Int) (p1 : Int) (p2 : Int) (r : Bool) (hF : F_ref6_outside p0 p1 p2 = some r) (O S : List Nat) (w : World) (H : Hd O w w S []) :
  Calls Tryz.prog 106 ([.int .i64 p0, .int .i64 p1, .int .i64 p2] : List Value).toArray w fun e w' => e = .returned (.bool r) ∧ Hd O w w' S [] := by
 unfold F_ref6_outside at hF
 refine zY 15 Tryz.func106 rfl rfl rfl ?_
 refine zC fun K1 hK1 => ?_
 refine zB ?_
 refine zI (.bool false) ?_
 refine (zD (zA (hK1 _ _ ?_)))
 obtain ⟨g7, hF, hK9⟩ := zG hF
 refine yL [6, 7, 8, 9, 10, 11, 12, 13, 14] (fun (g : Unit) => [(6, .bool g7)]) (fun g wl => Hd O w wl S []) ?_ ?_
 ·skip
  refine zB ?_
  refine zK (.int .i64 p0) ?_
  refine zK (.int .i64 p1) ?_
  obtain ⟨x10, e11, hF⟩ := zF hF
  refine zH (zM (xI (a := p0) (b := p1) rfl rfl) e11) ?_
  refine yK (b := x10) rfl rfl rfl (fun c12 => ?_) (fun c12 => ?_)
  ·have hF := zQ c12 hF
   refine yC ?_
   refine yC ?_
   refine yC ?_
   refine zH (yI (v := .bool true) rfl rfl) ?_
   refine zI (.bool true) ?_
   obtain rfl := someI hF
   exact (zD (zA (meet ⟨(), (zJ rfl zL), H.pick [] (by decide)⟩)))
  have hF := zS c12 hF
  refine zK (.int .i64 p0) ?_
  refine zK (.int .i64 p2) ?_
  obtain ⟨x13, e14, hF⟩ := zF hF
  refine zH (zM (Do_gtr (a := p0) (b := p2) rfl rfl) e14) ?_
  refine zH (yF (v := .bool x13) rfl rfl) ?_
  refine zI (.bool x13) ?_
  obtain rfl := someI hF
  exact (zD (zA (meet ⟨(), (zJ rfl zL), H.pick [] (by decide)⟩)))
 rintro _ ρ w8 H
 have hF := hK9
 obtain rfl := someI hF
 refine (yB (post1 (v1 := .bool g7) rfl rfl ?_))
 exact ⟨rfl, H.pick [] (by decide)⟩
set_option maxHeartbeats 4000000 in
set_option maxRecDepth 100000 in
theorem F_ref6_fields_w (p0 : Int) (r : Bool × Bool × Bool × Bool × Bool × Int) (hF : F_ref6_fields p0 = some r) (O S : List Nat) (w : World) (H : Hd O w w S []) :
  Calls Tryz.prog 193 ([.int .i64 p0] : List Value).toArray w fun e w' => e = .returned (.tuple #[.bool r.1, .bool r.2.1, .bool r.2.2.1, .bool r.2.2.2.1, .bool r.2.2.2.2.1, .int .i64 r.2.2.2.2.2]) ∧ Hd O w w' S [] := by
 unfold F_ref6_fields at hF
 refine zY 31 Tryz.func193 rfl rfl rfl ?_
 refine zC fun K1 hK1 => ?_
 refine zB ?_
 refine zI (.bool false) ?_
 refine zI (.bool false) ?_
 refine zI (.bool false) ?_
 refine zI (.bool false) ?_
 refine zI (.bool false) ?_
 refine zI (.int .i64 0) ?_
 refine (zD (zA (hK1 _ _ ?_)))
 refine zC fun K72 hK72 => ?_
 refine zC fun K73 hK73 => ?_
 refine zB ?_
 refine zK (.int .i64 p0) ?_
 refine (zD (zA (hK73 _ _ ?_)))
 refine yG ?_
 refine zC fun K74 hK74 => ?_
 refine zB ?_
 obtain ⟨x75, e76, hF⟩ := zF hF
 refine zH (zM (yR (a := p0) (b := 3) rfl rfl) e76) ?_
 refine zI (.bool x75) ?_
 refine (zD (zA (hK74 _ _ ?_)))
 refine yA (b := x75) rfl (fun c77 => ?_) (fun c77 => ?_)
 ·have hF := zQ c77 hF
  refine zC fun K78 hK78 => ?_
  refine zB ?_
  refine zI (.bool true) ?_
  refine zI (.bool false) ?_
  refine zI (.bool true) ?_
  refine zI (.bool true) ?_
  refine zI (.bool false) ?_
  refine zI (.int .i64 0) ?_
  refine (zD (zA (hK78 _ _ ?_)))
  obtain rfl := someI hF
  refine (yB (yE (zW (post6 (v1 := .bool true) (v2 := .bool false) (v3 := .bool true) (v4 := .bool true) (v5 := .bool false) (v6 := .int .i64 0) rfl rfl rfl rfl rfl rfl rfl ?_))))
  exact ⟨rfl, H.pick [] (by decide)⟩
 have hF := zS c77 hF
 refine zC fun K79 hK79 => ?_
 refine zB ?_
 obtain ⟨x80, e81, hF⟩ := zF hF
 refine zH (zM (yR (a := p0) (b := 4) rfl rfl) e81) ?_
 refine zI (.bool x80) ?_
 refine (zD (zA (hK79 _ _ ?_)))
 refine yA (b := x80) rfl (fun c82 => ?_) (fun c82 => ?_)
 ·have hF := zQ c82 hF
  refine zC fun K83 hK83 => ?_
  refine zB ?_
  refine zI (.bool true) ?_
  refine zI (.bool true) ?_
  refine zI (.bool true) ?_
  refine zI (.bool false) ?_
  refine zI (.bool false) ?_
  refine zI (.int .i64 0) ?_
  refine (zD (zA (hK83 _ _ ?_)))
  obtain rfl := someI hF
  refine (yB (yE (zW (post6 (v1 := .bool true) (v2 := .bool true) (v3 := .bool true) (v4 := .bool false) (v5 := .bool false) (v6 := .int .i64 0) rfl rfl rfl rfl rfl rfl rfl ?_))))
  exact ⟨rfl, H.pick [] (by decide)⟩
 have hF := zS c82 hF
 refine zC fun K84 hK84 => ?_
 refine zB ?_
 obtain ⟨x85, e86, hF⟩ := zF hF
 refine zH (zM (yR (a := p0) (b := 5) rfl rfl) e86) ?_
 refine zI (.bool x85) ?_
 refine (zD (zA (hK84 _ _ ?_)))
 refine yA (b := x85) rfl (fun c87 => ?_) (fun c87 => ?_)
 ·have hF := zQ c87 hF
  refine zC fun K88 hK88 => ?_
  refine zB ?_
  refine zI (.bool true) ?_
  refine zI (.bool false) ?_
  refine zI (.bool false) ?_
  refine zI (.bool true) ?_
  refine zI (.bool true) ?_
  refine zI (.int .i64 0) ?_
  refine (zD (zA (hK88 _ _ ?_)))
  obtain rfl := someI hF
  refine (yB (yE (zW (post6 (v1 := .bool true) (v2 := .bool false) (v3 := .bool false) (v4 := .bool true) (v5 := .bool true) (v6 := .int .i64 0) rfl rfl rfl rfl rfl rfl rfl ?_))))
  exact ⟨rfl, H.pick [] (by decide)⟩
 have hF := zS c87 hF
 obtain ⟨g95, hF, hK97⟩ := zG hF
 refine yL [15, 16, 17] (fun (g : Unit) => [(15, .bool g95)]) (fun g wl => Hd O w wl S []) ?_ ?_
 ·skip
  refine zC fun K98 hK98 => ?_
  refine zB ?_
  obtain ⟨x99, e100, hF⟩ := zF hF
  refine zH (zM (yR (a := p0) (b := 6) rfl rfl) e100) ?_
  refine zI (.bool x99) ?_
  refine (zD (zA (hK98 _ _ ?_)))
  refine yA (b := x99) rfl (fun c101 => ?_) (fun c101 => ?_)
  ·have hF := zQ c101 hF
   obtain rfl := someI hF
   exact (zX (zA (meet ⟨(), (zJ rfl zL), H.pick [] (by decide)⟩)))
  have hF := zS c101 hF
  refine zB ?_
  obtain ⟨x102, e103, hF⟩ := zF hF
  refine zH (zM (yR (a := p0) (b := 7) rfl rfl) e103) ?_
  refine zI (.bool x102) ?_
  obtain rfl := someI hF
  exact (zD (zA (meet ⟨(), (zJ rfl zL), H.pick [] (by decide)⟩)))
 rintro _ ρ w96 H
 have hF := hK97
 refine yA (b := g95) rfl (fun c104 => ?_) (fun c104 => ?_)
 ·have hF := zQ c104 hF
  refine zC fun K105 hK105 => ?_
  refine zB ?_
  refine zI (.bool true) ?_
  refine zI (.bool false) ?_
  refine zI (.bool false) ?_
  refine zI (.bool false) ?_
  refine zI (.bool false) ?_
  refine zI (.int .i64 0) ?_
  refine (zD (zA (hK105 _ _ ?_)))
  obtain rfl := someI hF
  refine (yB (yE (zW (post6 (v1 := .bool true) (v2 := .bool false) (v3 := .bool false) (v4 := .bool false) (v5 := .bool false) (v6 := .int .i64 0) rfl rfl rfl rfl rfl rfl rfl ?_))))
  exact ⟨rfl, H.pick [] (by decide)⟩
 have hF := zS c104 hF
 obtain ⟨g112, hF, hK114⟩ := zG hF
 refine yL [18, 19, 20] (fun (g : Unit) => [(18, .bool g112)]) (fun g wl => Hd O w wl S []) ?_ ?_
 ·skip
  refine zC fun K115 hK115 => ?_
  refine zB ?_
  obtain ⟨x116, e117, hF⟩ := zF hF
  refine zH (zM (yR (a := p0) (b := 8) rfl rfl) e117) ?_
  refine zI (.bool x116) ?_
  refine (zD (zA (hK115 _ _ ?_)))
  refine yA (b := x116) rfl (fun c118 => ?_) (fun c118 => ?_)
  ·have hF := zQ c118 hF
   obtain rfl := someI hF
   exact (zX (zA (meet ⟨(), (zJ rfl zL), H.pick [] (by decide)⟩)))
  have hF := zS c118 hF
  refine zB ?_
  obtain ⟨x119, e120, hF⟩ := zF hF
  refine zH (zM (yR (a := p0) (b := 15) rfl rfl) e120) ?_
  refine zI (.bool x119) ?_
  obtain rfl := someI hF
  exact (zD (zA (meet ⟨(), (zJ rfl zL), H.pick [] (by decide)⟩)))
 rintro _ ρ w113 H
 have hF := hK114
 refine yA (b := g112) rfl (fun c121 => ?_) (fun c121 => ?_)
 ·have hF := zQ c121 hF
  refine zC fun K122 hK122 => ?_
  refine zB ?_
  refine zI (.bool false) ?_
  refine zI (.bool false) ?_
  refine zI (.bool false) ?_
  refine zI (.bool false) ?_
  refine zI (.bool false) ?_
  refine zI (.int .i64 1) ?_
  refine (zD (zA (hK122 _ _ ?_)))
  obtain rfl := someI hF
  refine (yB (yE (zW (post6 (v1 := .bool false) (v2 := .bool false) (v3 := .bool false) (v4 := .bool false) (v5 := .bool false) (v6 := .int .i64 1) rfl rfl rfl rfl rfl rfl rfl ?_))))
  exact ⟨rfl, H.pick [] (by decide)⟩
 have hF := zS c121 hF
 obtain ⟨g129, hF, hK131⟩ := zG hF
 refine yL [21, 22, 23] (fun (g : Unit) => [(21, .bool g129)]) (fun g wl => Hd O w wl S []) ?_ ?_
 ·skip
  refine zC fun K132 hK132 => ?_
  refine zB ?_
  obtain ⟨x133, e134, hF⟩ := zF hF
  refine zH (zM (yR (a := p0) (b := 9) rfl rfl) e134) ?_
  refine zI (.bool x133) ?_
  refine (zD (zA (hK132 _ _ ?_)))
  refine yA (b := x133) rfl (fun c135 => ?_) (fun c135 => ?_)
  ·have hF := zQ c135 hF
   obtain rfl := someI hF
   exact (zX (zA (meet ⟨(), (zJ rfl zL), H.pick [] (by decide)⟩)))
  have hF := zS c135 hF
  refine zB ?_
  obtain ⟨x136, e137, hF⟩ := zF hF
  refine zH (zM (yR (a := p0) (b := 10) rfl rfl) e137) ?_
  refine zI (.bool x136) ?_
  obtain rfl := someI hF
  exact (zD (zA (meet ⟨(), (zJ rfl zL), H.pick [] (by decide)⟩)))
 rintro _ ρ w130 H
 have hF := hK131
 refine yA (b := g129) rfl (fun c138 => ?_) (fun c138 => ?_)
 ·have hF := zQ c138 hF
  refine zC fun K139 hK139 => ?_
  refine zB ?_
  refine zI (.bool false) ?_
  refine zI (.bool false) ?_
  refine zI (.bool false) ?_
  refine zI (.bool false) ?_
  refine zI (.bool false) ?_
  refine zI (.int .i64 (-1)) ?_
  refine (zD (zA (hK139 _ _ ?_)))
  obtain rfl := someI hF
  refine (yB (yE (zW (post6 (v1 := .bool false) (v2 := .bool false) (v3 := .bool false) (v4 := .bool false) (v5 := .bool false) (v6 := .int .i64 (-1)) rfl rfl rfl rfl rfl rfl rfl ?_))))
  exact ⟨rfl, H.pick [] (by decide)⟩
 have hF := zS c138 hF
 obtain ⟨g146, hF, hK148⟩ := zG hF
 refine yL [24, 25, 26] (fun (g : Unit) => [(24, .bool g146)]) (fun g wl => Hd O w wl S []) ?_ ?_
 ·skip
  refine zC fun K149 hK149 => ?_
  refine zB ?_
  obtain ⟨x150, e151, hF⟩ := zF hF
  refine zH (zM (yR (a := p0) (b := 11) rfl rfl) e151) ?_
  refine zI (.bool x150) ?_
  refine (zD (zA (hK149 _ _ ?_)))
  refine yA (b := x150) rfl (fun c152 => ?_) (fun c152 => ?_)
  ·have hF := zQ c152 hF
   obtain rfl := someI hF
   exact (zX (zA (meet ⟨(), (zJ rfl zL), H.pick [] (by decide)⟩)))
  have hF := zS c152 hF
  refine zB ?_
  obtain ⟨x153, e154, hF⟩ := zF hF
  refine zH (zM (yR (a := p0) (b := 12) rfl rfl) e154) ?_
  refine zI (.bool x153) ?_
  obtain rfl := someI hF
  exact (zD (zA (meet ⟨(), (zJ rfl zL), H.pick [] (by decide)⟩)))
 rintro _ ρ w147 H
 have hF := hK148
 refine yA (b := g146) rfl (fun c155 => ?_) (fun c155 => ?_)
 ·have hF := zQ c155 hF
  refine zC fun K156 hK156 => ?_
  refine zB ?_
  refine zI (.bool false) ?_
  refine zI (.bool false) ?_
  refine zI (.bool false) ?_
  refine zI (.bool false) ?_
  refine zI (.bool true) ?_
  refine zI (.int .i64 1) ?_
  refine (zD (zA (hK156 _ _ ?_)))
  obtain rfl := someI hF
  refine (yB (yE (zW (post6 (v1 := .bool false) (v2 := .bool false) (v3 := .bool false) (v4 := .bool false) (v5 := .bool true) (v6 := .int .i64 1) rfl rfl rfl rfl rfl rfl rfl ?_))))
  exact ⟨rfl, H.pick [] (by decide)⟩
 have hF := zS c155 hF
 refine zC fun K157 hK157 => ?_
 refine zB ?_
 obtain ⟨x158, e159, hF⟩ := zF hF
 refine zH (zM (yR (a := p0) (b := 13) rfl rfl) e159) ?_
 refine zI (.bool x158) ?_
 refine (zD (zA (hK157 _ _ ?_)))
 refine yA (b := x158) rfl (fun c160 => ?_) (fun c160 => ?_)
 ·have hF := zQ c160 hF
  refine zC fun K161 hK161 => ?_
  refine zB ?_
  refine zI (.bool false) ?_
  refine zI (.bool false) ?_
  refine zI (.bool false) ?_
  refine zI (.bool true) ?_
  refine zI (.bool true) ?_
  refine zI (.int .i64 1) ?_
  refine (zD (zA (hK161 _ _ ?_)))
  obtain rfl := someI hF
  refine (yB (yE (zW (post6 (v1 := .bool false) (v2 := .bool false) (v3 := .bool false) (v4 := .bool true) (v5 := .bool true) (v6 := .int .i64 1) rfl rfl rfl rfl rfl rfl rfl ?_))))
  exact ⟨rfl, H.pick [] (by decide)⟩
 have hF := zS c160 hF
 refine zC fun K162 hK162 => ?_
 refine zB ?_
 obtain ⟨x163, e164, hF⟩ := zF hF
 refine zH (zM (yR (a := p0) (b := 14) rfl rfl) e164) ?_
 refine zI (.bool x163) ?_
 refine (zD (zA (hK162 _ _ ?_)))
 refine yA (b := x163) rfl (fun c165 => ?_) (fun c165 => ?_)
 ·have hF := zQ c165 hF
  refine zC fun K166 hK166 => ?_
  refine zB ?_
  refine zI (.bool false) ?_
  refine zI (.bool false) ?_
  refine zI (.bool false) ?_
  refine zI (.bool false) ?_
  refine zI (.bool false) ?_
  refine zI (.int .i64 2) ?_
  refine (zD (zA (hK166 _ _ ?_)))
  obtain rfl := someI hF
  refine (yB (yE (zW (post6 (v1 := .bool false) (v2 := .bool false) (v3 := .bool false) (v4 := .bool false) (v5 := .bool false) (v6 := .int .i64 2) rfl rfl rfl rfl rfl rfl rfl ?_))))
  exact ⟨rfl, H.pick [] (by decide)⟩
 have hF := zS c165 hF
 refine (zX (yT (zA (hK72 _ _ ?_))))
 refine zC fun K167 hK167 => ?_
 refine zB ?_
 refine zI (.bool false) ?_
 refine zI (.bool false) ?_
 refine zI (.bool false) ?_
 refine zI (.bool false) ?_
 refine zI (.bool false) ?_
 refine zI (.int .i64 0) ?_
 refine (zD (zA (hK167 _ _ ?_)))
 obtain rfl := someI hF
 refine (yB (post6 (v1 := .bool false) (v2 := .bool false) (v3 := .bool false) (v4 := .bool false) (v5 := .bool false) (v6 := .int .i64 0) rfl rfl rfl rfl rfl rfl rfl ?_))
 exact ⟨rfl, H.pick [] (by decide)⟩
end Go.Proofs.YtckmiljbaejijaaGreatDoor.L
