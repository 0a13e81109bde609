/- Walks: what each function computes, for every argument; no condition but those that stand in the statements. -/
import Derived.Test.YtnajnkghilemhaaGreatDoorIV0
namespace Go.Proofs.YtnajnkghilemhaaGreatDoor.L
open Go.RowKit Go.OB Go.Lf
set_option maxHeartbeats 4000000 in
set_option maxRecDepth 100000 in
theorem F_event_checkOne_w (p0 : Cond) (v1 : Value) (r : Int) (hF : F_event_checkOne p0 = some r) (O S : List Nat) (w : World) (H : Hd O w w S [.fz (.sl rCond v1 p0.Kids)]) :
  Calls Tryz.prog 109 ([.agg [.int .i64 p0.Kind, .string (bs p0.Name), .string (bs p0.Other), .int .i64 p0.Op, .int .i64 p0.N, .int .i64 p0.Frames, v1].toArray] : List Value).toArray w fun e w' => e = .returned (.int .i64 r) ∧ Hd O w w' S [] := by
 unfold F_event_checkOne at hF
 refine yB 140 Tryz.func109 rfl rfl rfl ?_
 refine zC fun K3 hK3 => ?_
 refine zB ?_
 refine yX rfl rfl (Lx_box (cs := [.int .i64 p0.Kind, .string (bs p0.Name), .string (bs p0.Other), .int .i64 p0.Op, .int .i64 p0.N, .int .i64 p0.Frames, v1]) rfl H) ?_
 rintro _ w6 ⟨b4, rfl, H⟩
 refine zI (.int .i64 0) ?_
 refine (zF (zA (hK3 _ _ ?_)))
 refine zC fun K7 hK7 => ?_
 refine zB ?_
 refine zH (fa54_0 rfl) ?_
 refine zH (zT one3 rfl (Cells.get (Blk.cells (H.item (i := 1) rfl)) (i := 0) rfl)) ?_
 have H8 := H
 obtain ⟨⟨x9, x10⟩, e11, hF⟩ := zD hF
 refine zV rfl rfl (zU en157 rfl) (F_event_fieldsOf_w p0.Kind _ e11 _ _ _ (H.enter [] [] (by decide) rfl)) ?_
 rintro _ w12 ⟨rfl, G13⟩
 have H := H8.step (G13.only : Only [] _ _)
 refine ⟨_, rfl, ?_⟩
 refine zM (.tuple #[.agg [.bool x9.name, .bool x9.other, .bool x9.op, .bool x9.n, .bool x9.frames, .int .i64 x9.least, .int .i64 x9.most].toArray, .bool x10]) ?_
 refine zH (wB (v := .agg [.bool x9.name, .bool x9.other, .bool x9.op, .bool x9.n, .bool x9.frames, .int .i64 x9.least, .int .i64 x9.most].toArray) rfl rfl) ?_
 refine zH (wB (v := .bool x10) rfl rfl) ?_
 refine yX rfl rfl (xB zero211 H) ?_
 rintro _ w16 ⟨b14, rfl, H⟩
 refine yN rfl (yH (vs := [.bool x9.name, .bool x9.other, .bool x9.op, .bool x9.n, .bool x9.frames, .int .i64 x9.least, .int .i64 x9.most]) H 2 rfl sz211 rfl rfl rfl ⟨rfl, rfl, rfl, rfl, rfl, rfl, rfl, trivial⟩ rfl) ?_
 rintro w17 H
 refine zI (.bool x10) ?_
 refine (zF (zA (hK7 _ _ ?_)))
 refine zC fun K23 hK23 => ?_
 refine zC fun K24 hK24 => ?_
 refine zB ?_
 refine zM (.bool x10) ?_
 obtain ⟨x25, e26, hF⟩ := zG hF
 refine zH (zS (xY (p := x10) rfl) e26) ?_
 refine (zF (zA (hK24 _ _ ?_)))
 refine zW (b := x25) rfl (fun c27 => ?_) (fun c27 => ?_)
 ·have hF := zO c27 hF
  refine zC fun K28 hK28 => ?_
  refine zB ?_
  refine zI (.int .i64 7) ?_
  refine (zF (zA (hK28 _ _ ?_)))
  obtain rfl := someI hF
  refine (zZ (zY (post1 (v1 := .int .i64 7) rfl rfl ?_)))
  exact ⟨rfl, H.pick [] (by decide)⟩
 have hF := zN c27 hF
 refine (yA (zA (hK23 _ _ ?_)))
 refine zC fun K91 hK91 => ?_
 obtain ⟨g149, hF, hK151⟩ := zD hF
 refine yL [13, 14, 15, 16, 17, 18, 19, 20, 21, 22, 23, 24, 25, 26, 27, 28, 29, 30, 31, 32, 33, 34, 35, 36, 37, 38, 39, 40, 41, 42, 43, 44, 45, 46, 47, 48, 49, 50, 51, 52, 53, 54, 55, 56, 57, 58, 59, 60, 61, 62, 63, 64, 65, 66, 67, 68, 69, 70, 71] (fun (g : Unit) => [(71, .bool g149)]) (fun g wl => Hd O w wl S [.fz (.sl rCond v1 p0.Kids), .blk b4 [.int .i64 p0.Kind, .string (bs p0.Name), .string (bs p0.Other), .int .i64 p0.Op, .int .i64 p0.N, .int .i64 p0.Frames, v1] 54, .blk b14 [.bool x9.name, .bool x9.other, .bool x9.op, .bool x9.n, .bool x9.frames, .int .i64 x9.least, .int .i64 x9.most] 211]) ?_ ?_
 ·skip
  refine zB ?_
  refine zH (fa211_0 rfl) ?_
  refine zH (zT one4 rfl (Cells.get (Blk.cells (H.item (i := 2) rfl)) (i := 0) rfl)) ?_
  obtain ⟨x152, e153, hF⟩ := zG hF
  refine zH (zS (xY (p := x9.name) rfl) e153) ?_
  obtain ⟨j154, hF, hK155⟩ := zD hF
  refine RL_cutS 5 [16, 17, 18, 19, 20] [(20, .bool j154)] (fun wl => Hd O w wl S [.fz (.sl rCond v1 p0.Kids), .blk b4 [.int .i64 p0.Kind, .string (bs p0.Name), .string (bs p0.Other), .int .i64 p0.Op, .int .i64 p0.N, .int .i64 p0.Frames, v1] 54, .blk b14 [.bool x9.name, .bool x9.other, .bool x9.op, .bool x9.n, .bool x9.frames, .int .i64 x9.least, .int .i64 x9.most] 211]) ?_ ?_
  ·skip
   refine yK (b := x152) rfl rfl rfl (fun c157 => ?_) (fun c157 => ?_)
   ·have hF := zO c157 hF
    refine zH (fa54_1 rfl) ?_
    refine zH (zT one9 rfl (Cells.get (Blk.cells (H.item (i := 1) rfl)) (i := 1) rfl)) ?_
    obtain ⟨x158, e159, hF⟩ := zG hF
    refine zH (zS (Do_neqs (s1 := p0.Name) (s2 := []) rfl rfl) e159) ?_
    refine zH (yI (v := .bool x158) rfl rfl) ?_
    obtain rfl := someI hF
    exact zF (zA (meet ⟨(zK rfl zL), H.pick [0, 1, 2] (by decide)⟩))
   have hF := zN c157 hF
   refine yD ?_
   refine yD ?_
   refine yD ?_
   refine zH (yE (v := .bool false) rfl rfl) ?_
   obtain rfl := someI hF
   exact zF (zA (meet ⟨(zK rfl zL), H.pick [0, 1, 2] (by decide)⟩))
  rintro ρ w156 H
  have hF := hK155
  obtain ⟨j160, hF, hK161⟩ := zD hF
  refine RL_cutS 10 [21, 22, 23, 24, 25, 26, 27, 28, 29, 30] [(30, .bool j160)] (fun wl => Hd O w wl S [.fz (.sl rCond v1 p0.Kids), .blk b4 [.int .i64 p0.Kind, .string (bs p0.Name), .string (bs p0.Other), .int .i64 p0.Op, .int .i64 p0.N, .int .i64 p0.Frames, v1] 54, .blk b14 [.bool x9.name, .bool x9.other, .bool x9.op, .bool x9.n, .bool x9.frames, .int .i64 x9.least, .int .i64 x9.most] 211]) ?_ ?_
  ·skip
   refine yK (b := j154) rfl rfl rfl (fun c163 => ?_) (fun c163 => ?_)
   ·have hF := zO c163 hF
    refine yD ?_
    refine yD ?_
    refine yD ?_
    refine yD ?_
    refine yD ?_
    refine yD ?_
    refine yD ?_
    refine yD ?_
    refine zH (yI (v := .bool true) rfl rfl) ?_
    obtain rfl := someI hF
    exact zF (zA (meet ⟨(zK rfl zL), H.pick [0, 1, 2] (by decide)⟩))
   have hF := zN c163 hF
   refine zH (fa211_1 rfl) ?_
   refine zH (zT one4 rfl (Cells.get (Blk.cells (H.item (i := 2) rfl)) (i := 1) rfl)) ?_
   obtain ⟨x164, e165, hF⟩ := zG hF
   refine zH (zS (xY (p := x9.other) rfl) e165) ?_
   refine yK (b := x164) rfl rfl rfl (fun c166 => ?_) (fun c166 => ?_)
   ·have hF := zO c166 hF
    refine zH (fa54_2 rfl) ?_
    refine zH (zT one9 rfl (Cells.get (Blk.cells (H.item (i := 1) rfl)) (i := 2) rfl)) ?_
    obtain ⟨x167, e168, hF⟩ := zG hF
    refine zH (zS (Do_neqs (s1 := p0.Other) (s2 := []) rfl rfl) e168) ?_
    refine zH (yI (v := .bool x167) rfl rfl) ?_
    refine zH (yE (v := .bool x167) rfl rfl) ?_
    obtain rfl := someI hF
    exact zF (zA (meet ⟨(zK rfl zL), H.pick [0, 1, 2] (by decide)⟩))
   have hF := zN c166 hF
   refine yD ?_
   refine yD ?_
   refine yD ?_
   refine zH (yE (v := .bool false) rfl rfl) ?_
   refine zH (yE (v := .bool false) rfl rfl) ?_
   obtain rfl := someI hF
   exact zF (zA (meet ⟨(zK rfl zL), H.pick [0, 1, 2] (by decide)⟩))
  rintro ρ w162 H
  have hF := hK161
  obtain ⟨j169, hF, hK170⟩ := zD hF
  refine RL_cutS 10 [31, 32, 33, 34, 35, 36, 37, 38, 39, 40] [(40, .bool j169)] (fun wl => Hd O w wl S [.fz (.sl rCond v1 p0.Kids), .blk b4 [.int .i64 p0.Kind, .string (bs p0.Name), .string (bs p0.Other), .int .i64 p0.Op, .int .i64 p0.N, .int .i64 p0.Frames, v1] 54, .blk b14 [.bool x9.name, .bool x9.other, .bool x9.op, .bool x9.n, .bool x9.frames, .int .i64 x9.least, .int .i64 x9.most] 211]) ?_ ?_
  ·skip
   refine yK (b := j160) rfl rfl rfl (fun c172 => ?_) (fun c172 => ?_)
   ·have hF := zO c172 hF
    refine yD ?_
    refine yD ?_
    refine yD ?_
    refine yD ?_
    refine yD ?_
    refine yD ?_
    refine yD ?_
    refine yD ?_
    refine zH (yI (v := .bool true) rfl rfl) ?_
    obtain rfl := someI hF
    exact zF (zA (meet ⟨(zK rfl zL), H.pick [0, 1, 2] (by decide)⟩))
   have hF := zN c172 hF
   refine zH (fa211_2 rfl) ?_
   refine zH (zT one4 rfl (Cells.get (Blk.cells (H.item (i := 2) rfl)) (i := 2) rfl)) ?_
   obtain ⟨x173, e174, hF⟩ := zG hF
   refine zH (zS (xY (p := x9.op) rfl) e174) ?_
   refine yK (b := x173) rfl rfl rfl (fun c175 => ?_) (fun c175 => ?_)
   ·have hF := zO c175 hF
    refine zH (fa54_3 rfl) ?_
    refine zH (zT one3 rfl (Cells.get (Blk.cells (H.item (i := 1) rfl)) (i := 3) rfl)) ?_
    obtain ⟨x176, e177, hF⟩ := zG hF
    refine zH (zS (Do_neq (a := p0.Op) (b := 0) rfl rfl) e177) ?_
    refine zH (yI (v := .bool x176) rfl rfl) ?_
    refine zH (yE (v := .bool x176) rfl rfl) ?_
    obtain rfl := someI hF
    exact zF (zA (meet ⟨(zK rfl zL), H.pick [0, 1, 2] (by decide)⟩))
   have hF := zN c175 hF
   refine yD ?_
   refine yD ?_
   refine yD ?_
   refine zH (yE (v := .bool false) rfl rfl) ?_
   refine zH (yE (v := .bool false) rfl rfl) ?_
   obtain rfl := someI hF
   exact zF (zA (meet ⟨(zK rfl zL), H.pick [0, 1, 2] (by decide)⟩))
  rintro ρ w171 H
  have hF := hK170
  obtain ⟨j178, hF, hK179⟩ := zD hF
  refine RL_cutS 10 [41, 42, 43, 44, 45, 46, 47, 48, 49, 50] [(50, .bool j178)] (fun wl => Hd O w wl S [.fz (.sl rCond v1 p0.Kids), .blk b4 [.int .i64 p0.Kind, .string (bs p0.Name), .string (bs p0.Other), .int .i64 p0.Op, .int .i64 p0.N, .int .i64 p0.Frames, v1] 54, .blk b14 [.bool x9.name, .bool x9.other, .bool x9.op, .bool x9.n, .bool x9.frames, .int .i64 x9.least, .int .i64 x9.most] 211]) ?_ ?_
  ·skip
   refine yK (b := j169) rfl rfl rfl (fun c181 => ?_) (fun c181 => ?_)
   ·have hF := zO c181 hF
    refine yD ?_
    refine yD ?_
    refine yD ?_
    refine yD ?_
    refine yD ?_
    refine yD ?_
    refine yD ?_
    refine yD ?_
    refine zH (yI (v := .bool true) rfl rfl) ?_
    obtain rfl := someI hF
    exact zF (zA (meet ⟨(zK rfl zL), H.pick [0, 1, 2] (by decide)⟩))
   have hF := zN c181 hF
   refine zH (fa211_3 rfl) ?_
   refine zH (zT one4 rfl (Cells.get (Blk.cells (H.item (i := 2) rfl)) (i := 3) rfl)) ?_
   obtain ⟨x182, e183, hF⟩ := zG hF
   refine zH (zS (xY (p := x9.n) rfl) e183) ?_
   refine yK (b := x182) rfl rfl rfl (fun c184 => ?_) (fun c184 => ?_)
   ·have hF := zO c184 hF
    refine zH (fa54_4 rfl) ?_
    refine zH (zT one3 rfl (Cells.get (Blk.cells (H.item (i := 1) rfl)) (i := 4) rfl)) ?_
    obtain ⟨x185, e186, hF⟩ := zG hF
    refine zH (zS (Do_neq (a := p0.N) (b := 0) rfl rfl) e186) ?_
    refine zH (yI (v := .bool x185) rfl rfl) ?_
    refine zH (yE (v := .bool x185) rfl rfl) ?_
    obtain rfl := someI hF
    exact zF (zA (meet ⟨(zK rfl zL), H.pick [0, 1, 2] (by decide)⟩))
   have hF := zN c184 hF
   refine yD ?_
   refine yD ?_
   refine yD ?_
   refine zH (yE (v := .bool false) rfl rfl) ?_
   refine zH (yE (v := .bool false) rfl rfl) ?_
   obtain rfl := someI hF
   exact zF (zA (meet ⟨(zK rfl zL), H.pick [0, 1, 2] (by decide)⟩))
  rintro ρ w180 H
  have hF := hK179
  obtain ⟨j187, hF, hK188⟩ := zD hF
  refine RL_cutS 10 [51, 52, 53, 54, 55, 56, 57, 58, 59, 60] [(60, .bool j187)] (fun wl => Hd O w wl S [.fz (.sl rCond v1 p0.Kids), .blk b4 [.int .i64 p0.Kind, .string (bs p0.Name), .string (bs p0.Other), .int .i64 p0.Op, .int .i64 p0.N, .int .i64 p0.Frames, v1] 54, .blk b14 [.bool x9.name, .bool x9.other, .bool x9.op, .bool x9.n, .bool x9.frames, .int .i64 x9.least, .int .i64 x9.most] 211]) ?_ ?_
  ·skip
   refine yK (b := j178) rfl rfl rfl (fun c190 => ?_) (fun c190 => ?_)
   ·have hF := zO c190 hF
    refine yD ?_
    refine yD ?_
    refine yD ?_
    refine yD ?_
    refine yD ?_
    refine yD ?_
    refine yD ?_
    refine yD ?_
    refine zH (yI (v := .bool true) rfl rfl) ?_
    obtain rfl := someI hF
    exact zF (zA (meet ⟨(zK rfl zL), H.pick [0, 1, 2] (by decide)⟩))
   have hF := zN c190 hF
   refine zH (fa211_4 rfl) ?_
   refine zH (zT one4 rfl (Cells.get (Blk.cells (H.item (i := 2) rfl)) (i := 4) rfl)) ?_
   obtain ⟨x191, e192, hF⟩ := zG hF
   refine zH (zS (xY (p := x9.frames) rfl) e192) ?_
   refine yK (b := x191) rfl rfl rfl (fun c193 => ?_) (fun c193 => ?_)
   ·have hF := zO c193 hF
    refine zH (fa54_5 rfl) ?_
    refine zH (zT one3 rfl (Cells.get (Blk.cells (H.item (i := 1) rfl)) (i := 5) rfl)) ?_
    obtain ⟨x194, e195, hF⟩ := zG hF
    refine zH (zS (Do_neq (a := p0.Frames) (b := 0) rfl rfl) e195) ?_
    refine zH (yI (v := .bool x194) rfl rfl) ?_
    refine zH (yE (v := .bool x194) rfl rfl) ?_
    obtain rfl := someI hF
    exact zF (zA (meet ⟨(zK rfl zL), H.pick [0, 1, 2] (by decide)⟩))
   have hF := zN c193 hF
   refine yD ?_
   refine yD ?_
   refine yD ?_
   refine zH (yE (v := .bool false) rfl rfl) ?_
   refine zH (yE (v := .bool false) rfl rfl) ?_
   obtain rfl := someI hF
   exact zF (zA (meet ⟨(zK rfl zL), H.pick [0, 1, 2] (by decide)⟩))
  rintro ρ w189 H
  have hF := hK188
  refine yK (b := j187) rfl rfl rfl (fun c196 => ?_) (fun c196 => ?_)
  ·have hF := zO c196 hF
   refine yD ?_
   refine yD ?_
   refine yD ?_
   refine yD ?_
   refine yD ?_
   refine yD ?_
   refine yD ?_
   refine yD ?_
   refine yD ?_
   refine zH (yI (v := .bool true) rfl rfl) ?_
   obtain rfl := someI hF
   exact (zF (zA (meet ⟨(), (zK rfl zL), H.pick [0, 1, 2] (by decide)⟩)))
  have hF := zN c196 hF
  refine zH (fa54_6 rfl) ?_
  refine zH (zT one52 rfl (Cells.get (Blk.cells (H.item (i := 1) rfl)) (i := 6) rfl)) ?_
  obtain ⟨x197, e198, hF⟩ := zG hF
  obtain ⟨a199, c200, q201⟩ := SlF.len ((H.item (i := 0) rfl))
  refine zH (yQ (Do_len u52 q201) (congrArg (Value.int .i64) e198)) ?_
  refine zH (fa211_5 rfl) ?_
  refine zH (zT one3 rfl (Cells.get (Blk.cells (H.item (i := 2) rfl)) (i := 5) rfl)) ?_
  refine zH (fa211_6 rfl) ?_
  refine zH (zT one3 rfl (Cells.get (Blk.cells (H.item (i := 2) rfl)) (i := 6) rfl)) ?_
  have H202 := H
  obtain ⟨x203, e204, hF⟩ := zD hF
  refine zV rfl rfl (zU en60 rfl) (F_event_within_w x197 x9.least x9.most _ e204 _ _ _ (H.enter [] [] (by decide) rfl)) ?_
  rintro _ w205 ⟨rfl, G206⟩
  have H := H202.step (G206.only : Only [] _ _)
  refine ⟨_, rfl, ?_⟩
  obtain ⟨x207, e208, hF⟩ := zG hF
  refine zH (zS (xY (p := x203) rfl) e208) ?_
  refine zH (yE (v := .bool x207) rfl rfl) ?_
  obtain rfl := someI hF
  exact (zF (zA (meet ⟨(), (zK rfl zL), H.pick [0, 1, 2] (by decide)⟩)))
 rintro _ ρ w150 H
 have hF := hK151
 refine zW (b := g149) rfl (fun c209 => ?_) (fun c209 => ?_)
 ·have hF := zO c209 hF
  refine zC fun K210 hK210 => ?_
  refine zB ?_
  refine zI (.int .i64 2) ?_
  refine (zF (zA (hK210 _ _ ?_)))
  obtain rfl := someI hF
  refine (zZ (zY (post1 (v1 := .int .i64 2) rfl rfl ?_)))
  exact ⟨rfl, H.pick [] (by decide)⟩
 have hF := zN c209 hF
 refine (yA (zA (hK91 _ _ ?_)))
 refine zC fun K299 hK299 => ?_
 refine yJ ?_
 obtain ⟨g320, hF, hK322⟩ := zD hF
 refine yL [72, 73, 74, 75, 76, 77, 78, 79, 80, 81, 82, 83, 84, 85, 86, 87, 88, 89, 90] (fun (g : Unit) => [(72, .bool g320)]) (fun g wl => Hd O w wl S [.fz (.sl rCond v1 p0.Kids), .blk b4 [.int .i64 p0.Kind, .string (bs p0.Name), .string (bs p0.Other), .int .i64 p0.Op, .int .i64 p0.N, .int .i64 p0.Frames, v1] 54, .blk b14 [.bool x9.name, .bool x9.other, .bool x9.op, .bool x9.n, .bool x9.frames, .int .i64 x9.least, .int .i64 x9.most] 211]) ?_ ?_
 ·skip
  refine zB ?_
  refine zH (fa211_0 rfl) ?_
  refine zH (zT one4 rfl (Cells.get (Blk.cells (H.item (i := 2) rfl)) (i := 0) rfl)) ?_
  obtain ⟨j323, hF, hK324⟩ := zD hF
  refine RL_cutS 6 [75, 76, 77, 78, 79, 80] [(80, .bool j323)] (fun wl => Hd O w wl S [.fz (.sl rCond v1 p0.Kids), .blk b4 [.int .i64 p0.Kind, .string (bs p0.Name), .string (bs p0.Other), .int .i64 p0.Op, .int .i64 p0.N, .int .i64 p0.Frames, v1] 54, .blk b14 [.bool x9.name, .bool x9.other, .bool x9.op, .bool x9.n, .bool x9.frames, .int .i64 x9.least, .int .i64 x9.most] 211]) ?_ ?_
  ·skip
   refine yK (b := x9.name) rfl rfl rfl (fun c326 => ?_) (fun c326 => ?_)
   ·have hF := zO c326 hF
    refine zH (fa54_1 rfl) ?_
    refine zH (zT one9 rfl (Cells.get (Blk.cells (H.item (i := 1) rfl)) (i := 1) rfl)) ?_
    have H327 := H
    obtain ⟨x328, e329, hF⟩ := zD hF
    refine zV rfl rfl (zU en68 rfl) (F_event_isName_w p0.Name _ e329 _ _ _ (H.enter [] [] (by decide) rfl)) ?_
    rintro _ w330 ⟨rfl, G331⟩
    have H := H327.step (G331.only : Only [] _ _)
    refine ⟨_, rfl, ?_⟩
    obtain ⟨x332, e333, hF⟩ := zG hF
    refine zH (zS (xY (p := x328) rfl) e333) ?_
    refine zH (yI (v := .bool x332) rfl rfl) ?_
    obtain rfl := someI hF
    exact zF (zA (meet ⟨(zK rfl zL), H.pick [0, 1, 2] (by decide)⟩))
   have hF := zN c326 hF
   refine yD ?_
   refine yD ?_
   refine yD ?_
   refine yD ?_
   refine zH (yE (v := .bool false) rfl rfl) ?_
   obtain rfl := someI hF
   exact zF (zA (meet ⟨(zK rfl zL), H.pick [0, 1, 2] (by decide)⟩))
  rintro ρ w325 H
  have hF := hK324
  refine yK (b := j323) rfl rfl rfl (fun c334 => ?_) (fun c334 => ?_)
  ·have hF := zO c334 hF
   refine yD ?_
   refine yD ?_
   refine yD ?_
   refine yD ?_
   refine yD ?_
   refine yD ?_
   refine yD ?_
   refine yD ?_
   refine zH (yI (v := .bool true) rfl rfl) ?_
   refine zI (.bool true) ?_
   obtain rfl := someI hF
   exact (zF (zA (meet ⟨(), (zK rfl zL), H.pick [0, 1, 2] (by decide)⟩)))
  have hF := zN c334 hF
  refine zH (fa211_1 rfl) ?_
  refine zH (zT one4 rfl (Cells.get (Blk.cells (H.item (i := 2) rfl)) (i := 1) rfl)) ?_
  refine yK (b := x9.other) rfl rfl rfl (fun c335 => ?_) (fun c335 => ?_)
  ·have hF := zO c335 hF
   refine zH (fa54_2 rfl) ?_
   refine zH (zT one9 rfl (Cells.get (Blk.cells (H.item (i := 1) rfl)) (i := 2) rfl)) ?_
   have H336 := H
   obtain ⟨x337, e338, hF⟩ := zD hF
   refine zV rfl rfl (zU en68 rfl) (F_event_isName_w p0.Other _ e338 _ _ _ (H.enter [] [] (by decide) rfl)) ?_
   rintro _ w339 ⟨rfl, G340⟩
   have H := H336.step (G340.only : Only [] _ _)
   refine ⟨_, rfl, ?_⟩
   obtain ⟨x341, e342, hF⟩ := zG hF
   refine zH (zS (xY (p := x337) rfl) e342) ?_
   refine zH (yI (v := .bool x341) rfl rfl) ?_
   refine zH (yE (v := .bool x341) rfl rfl) ?_
   refine zI (.bool x341) ?_
   obtain rfl := someI hF
   exact (zF (zA (meet ⟨(), (zK rfl zL), H.pick [0, 1, 2] (by decide)⟩)))
  have hF := zN c335 hF
  refine yD ?_
  refine yD ?_
  refine yD ?_
  refine yD ?_
  refine zH (yE (v := .bool false) rfl rfl) ?_
  refine zH (yE (v := .bool false) rfl rfl) ?_
  refine zI (.bool false) ?_
  obtain rfl := someI hF
  exact (zF (zA (meet ⟨(), (zK rfl zL), H.pick [0, 1, 2] (by decide)⟩)))
 rintro _ ρ w321 H
 have hF := hK322
 refine zW (b := g320) rfl (fun c343 => ?_) (fun c343 => ?_)
 ·have hF := zO c343 hF
  refine zC fun K344 hK344 => ?_
  refine zB ?_
  refine zI (.int .i64 8) ?_
  refine (zF (zA (hK344 _ _ ?_)))
  obtain rfl := someI hF
  refine (zZ (yF (zY (post1 (v1 := .int .i64 8) rfl rfl ?_))))
  exact ⟨rfl, H.pick [] (by decide)⟩
 have hF := zN c343 hF
 obtain ⟨g353, hF, hK355⟩ := zD hF
 refine yL [91, 92, 93, 94, 95, 96, 97, 98, 99] (fun (g : Unit) => [(91, .bool g353)]) (fun g wl => Hd O w wl S [.fz (.sl rCond v1 p0.Kids), .blk b4 [.int .i64 p0.Kind, .string (bs p0.Name), .string (bs p0.Other), .int .i64 p0.Op, .int .i64 p0.N, .int .i64 p0.Frames, v1] 54, .blk b14 [.bool x9.name, .bool x9.other, .bool x9.op, .bool x9.n, .bool x9.frames, .int .i64 x9.least, .int .i64 x9.most] 211]) ?_ ?_
 ·skip
  refine zB ?_
  refine zH (fa211_2 rfl) ?_
  refine zH (zT one4 rfl (Cells.get (Blk.cells (H.item (i := 2) rfl)) (i := 2) rfl)) ?_
  refine yK (b := x9.op) rfl rfl rfl (fun c356 => ?_) (fun c356 => ?_)
  ·have hF := zO c356 hF
   refine zH (fa54_3 rfl) ?_
   refine zH (zT one3 rfl (Cells.get (Blk.cells (H.item (i := 1) rfl)) (i := 3) rfl)) ?_
   have H357 := H
   obtain ⟨x358, e359, hF⟩ := zD hF
   refine zV rfl rfl (zU en60 rfl) (F_event_within_w p0.Op 1 6 _ e359 _ _ _ (H.enter [] [] (by decide) rfl)) ?_
   rintro _ w360 ⟨rfl, G361⟩
   have H := H357.step (G361.only : Only [] _ _)
   refine ⟨_, rfl, ?_⟩
   obtain ⟨x362, e363, hF⟩ := zG hF
   refine zH (zS (xY (p := x358) rfl) e363) ?_
   refine zH (yI (v := .bool x362) rfl rfl) ?_
   refine zI (.bool x362) ?_
   obtain rfl := someI hF
   exact (zF (zA (meet ⟨(), (zK rfl zL), H.pick [0, 1, 2] (by decide)⟩)))
  have hF := zN c356 hF
  refine yD ?_
  refine yD ?_
  refine yD ?_
  refine yD ?_
  refine zH (yE (v := .bool false) rfl rfl) ?_
  refine zI (.bool false) ?_
  obtain rfl := someI hF
  exact (zF (zA (meet ⟨(), (zK rfl zL), H.pick [0, 1, 2] (by decide)⟩)))
 rintro _ ρ w354 H
 have hF := hK355
 refine zW (b := g353) rfl (fun c364 => ?_) (fun c364 => ?_)
 ·have hF := zO c364 hF
  refine zC fun K365 hK365 => ?_
  refine zB ?_
  refine zI (.int .i64 7) ?_
  refine (zF (zA (hK365 _ _ ?_)))
  obtain rfl := someI hF
  refine (zZ (yF (zY (post1 (v1 := .int .i64 7) rfl rfl ?_))))
  exact ⟨rfl, H.pick [] (by decide)⟩
 have hF := zN c364 hF
 obtain ⟨g374, hF, hK376⟩ := zD hF
 refine yL [100, 101, 102, 103, 104, 105, 106, 107, 108] (fun (g : Unit) => [(100, .bool g374)]) (fun g wl => Hd O w wl S [.fz (.sl rCond v1 p0.Kids), .blk b4 [.int .i64 p0.Kind, .string (bs p0.Name), .string (bs p0.Other), .int .i64 p0.Op, .int .i64 p0.N, .int .i64 p0.Frames, v1] 54, .blk b14 [.bool x9.name, .bool x9.other, .bool x9.op, .bool x9.n, .bool x9.frames, .int .i64 x9.least, .int .i64 x9.most] 211]) ?_ ?_
 ·skip
  refine zB ?_
  refine zH (fa211_4 rfl) ?_
  refine zH (zT one4 rfl (Cells.get (Blk.cells (H.item (i := 2) rfl)) (i := 4) rfl)) ?_
  refine yK (b := x9.frames) rfl rfl rfl (fun c377 => ?_) (fun c377 => ?_)
  ·have hF := zO c377 hF
   refine zH (fa54_5 rfl) ?_
   refine zH (zT one3 rfl (Cells.get (Blk.cells (H.item (i := 1) rfl)) (i := 5) rfl)) ?_
   have H378 := H
   obtain ⟨x379, e380, hF⟩ := zD hF
   refine zV rfl rfl (zU en60 rfl) (F_event_within_w p0.Frames 1 4096 _ e380 _ _ _ (H.enter [] [] (by decide) rfl)) ?_
   rintro _ w381 ⟨rfl, G382⟩
   have H := H378.step (G382.only : Only [] _ _)
   refine ⟨_, rfl, ?_⟩
   obtain ⟨x383, e384, hF⟩ := zG hF
   refine zH (zS (xY (p := x379) rfl) e384) ?_
   refine zH (yI (v := .bool x383) rfl rfl) ?_
   refine zI (.bool x383) ?_
   obtain rfl := someI hF
   exact (zF (zA (meet ⟨(), (zK rfl zL), H.pick [0, 1, 2] (by decide)⟩)))
  have hF := zN c377 hF
  refine yD ?_
  refine yD ?_
  refine yD ?_
  refine yD ?_
  refine zH (yE (v := .bool false) rfl rfl) ?_
  refine zI (.bool false) ?_
  obtain rfl := someI hF
  exact (zF (zA (meet ⟨(), (zK rfl zL), H.pick [0, 1, 2] (by decide)⟩)))
 rintro _ ρ w375 H
 have hF := hK376
 refine zW (b := g374) rfl (fun c385 => ?_) (fun c385 => ?_)
 ·have hF := zO c385 hF
  refine zC fun K386 hK386 => ?_
  refine zB ?_
  refine zI (.int .i64 9) ?_
  refine (zF (zA (hK386 _ _ ?_)))
  obtain rfl := someI hF
  refine (zZ (yF (zY (post1 (v1 := .int .i64 9) rfl rfl ?_))))
  exact ⟨rfl, H.pick [] (by decide)⟩
 have hF := zN c385 hF
 obtain ⟨g397, hF, hK399⟩ := zD hF
 refine yL [109, 110, 111, 112, 113, 114, 115, 116, 117, 118, 119, 120] (fun (g : Unit) => [(109, .bool g397)]) (fun g wl => Hd O w wl S [.fz (.sl rCond v1 p0.Kids), .blk b4 [.int .i64 p0.Kind, .string (bs p0.Name), .string (bs p0.Other), .int .i64 p0.Op, .int .i64 p0.N, .int .i64 p0.Frames, v1] 54, .blk b14 [.bool x9.name, .bool x9.other, .bool x9.op, .bool x9.n, .bool x9.frames, .int .i64 x9.least, .int .i64 x9.most] 211]) ?_ ?_
 ·skip
  refine zB ?_
  refine zH (fa54_0 rfl) ?_
  refine zH (zT one3 rfl (Cells.get (Blk.cells (H.item (i := 1) rfl)) (i := 0) rfl)) ?_
  obtain ⟨x400, e401, hF⟩ := zG hF
  refine zH (zS (yP (a := p0.Kind) (b := 13) rfl rfl) e401) ?_
  refine yK (b := x400) rfl rfl rfl (fun c402 => ?_) (fun c402 => ?_)
  ·have hF := zO c402 hF
   refine zH (fa54_4 rfl) ?_
   refine zH (zT one3 rfl (Cells.get (Blk.cells (H.item (i := 1) rfl)) (i := 4) rfl)) ?_
   refine zH (fa54_5 rfl) ?_
   refine zH (zT one3 rfl (Cells.get (Blk.cells (H.item (i := 1) rfl)) (i := 5) rfl)) ?_
   have H403 := H
   obtain ⟨x404, e405, hF⟩ := zD hF
   refine zV rfl rfl (zU en60 rfl) (F_event_within_w p0.N 1 p0.Frames _ e405 _ _ _ (H.enter [] [] (by decide) rfl)) ?_
   rintro _ w406 ⟨rfl, G407⟩
   have H := H403.step (G407.only : Only [] _ _)
   refine ⟨_, rfl, ?_⟩
   obtain ⟨x408, e409, hF⟩ := zG hF
   refine zH (zS (xY (p := x404) rfl) e409) ?_
   refine zH (yI (v := .bool x408) rfl rfl) ?_
   refine zI (.bool x408) ?_
   obtain rfl := someI hF
   exact (zF (zA (meet ⟨(), (zK rfl zL), H.pick [0, 1, 2] (by decide)⟩)))
  have hF := zN c402 hF
  refine yD ?_
  refine yD ?_
  refine yD ?_
  refine yD ?_
  refine yD ?_
  refine yD ?_
  refine zH (yE (v := .bool false) rfl rfl) ?_
  refine zI (.bool false) ?_
  obtain rfl := someI hF
  exact (zF (zA (meet ⟨(), (zK rfl zL), H.pick [0, 1, 2] (by decide)⟩)))
 rintro _ ρ w398 H
 have hF := hK399
 refine zW (b := g397) rfl (fun c410 => ?_) (fun c410 => ?_)
 ·have hF := zO c410 hF
  refine zC fun K411 hK411 => ?_
  refine zB ?_
  refine zI (.int .i64 9) ?_
  refine (zF (zA (hK411 _ _ ?_)))
  obtain rfl := someI hF
  refine (zZ (yF (zY (post1 (v1 := .int .i64 9) rfl rfl ?_))))
  exact ⟨rfl, H.pick [] (by decide)⟩
 have hF := zN c410 hF
 obtain ⟨g429, hF, hK431⟩ := zD hF
 refine yL [121, 122, 123, 124, 125, 126, 127, 128, 129, 130, 131, 132, 133, 134, 135, 136, 137, 138, 139] (fun (g : Unit) => [(121, .bool g429)]) (fun g wl => Hd O w wl S []) ?_ ?_
 ·skip
  refine zB ?_
  refine zH (fa211_3 rfl) ?_
  refine zH (zT one4 rfl (Cells.get (Blk.cells (H.item (i := 2) rfl)) (i := 3) rfl)) ?_
  obtain ⟨j432, hF, hK433⟩ := zD hF
  refine RL_cutS 6 [124, 125, 126, 127, 128, 129] [(129, .bool j432)] (fun wl => Hd O w wl S [.fz (.sl rCond v1 p0.Kids), .blk b4 [.int .i64 p0.Kind, .string (bs p0.Name), .string (bs p0.Other), .int .i64 p0.Op, .int .i64 p0.N, .int .i64 p0.Frames, v1] 54, .blk b14 [.bool x9.name, .bool x9.other, .bool x9.op, .bool x9.n, .bool x9.frames, .int .i64 x9.least, .int .i64 x9.most] 211]) ?_ ?_
  ·skip
   refine yK (b := x9.n) rfl rfl rfl (fun c435 => ?_) (fun c435 => ?_)
   ·have hF := zO c435 hF
    refine zH (fa54_4 rfl) ?_
    refine zH (zT one3 rfl (Cells.get (Blk.cells (H.item (i := 1) rfl)) (i := 4) rfl)) ?_
    have H436 := H
    obtain ⟨x437, e438, hF⟩ := zD hF
    refine zV rfl rfl (zU en60 rfl) (F_event_within_w p0.N (-1125899906842624) 1125899906842624 _ e438 _ _ _ (H.enter [] [] (by decide) rfl)) ?_
    rintro _ w439 ⟨rfl, G440⟩
    have H := H436.step (G440.only : Only [] _ _)
    refine ⟨_, rfl, ?_⟩
    obtain ⟨x441, e442, hF⟩ := zG hF
    refine zH (zS (xY (p := x437) rfl) e442) ?_
    refine zH (yI (v := .bool x441) rfl rfl) ?_
    obtain rfl := someI hF
    exact zF (zA (meet ⟨(zK rfl zL), H.pick [0, 1, 2] (by decide)⟩))
   have hF := zN c435 hF
   refine yD ?_
   refine yD ?_
   refine yD ?_
   refine yD ?_
   refine zH (yE (v := .bool false) rfl rfl) ?_
   obtain rfl := someI hF
   exact zF (zA (meet ⟨(zK rfl zL), H.pick [0, 1, 2] (by decide)⟩))
  rintro ρ w434 H
  have hF := hK433
  refine yK (b := j432) rfl rfl rfl (fun c443 => ?_) (fun c443 => ?_)
  ·have hF := zO c443 hF
   refine yD ?_
   refine yD ?_
   refine yD ?_
   refine yD ?_
   refine yD ?_
   refine yD ?_
   refine yD ?_
   refine yD ?_
   refine zH (yI (v := .bool true) rfl rfl) ?_
   refine zI (.bool true) ?_
   obtain rfl := someI hF
   exact (zF (zA (meet ⟨(), (zK rfl zL), H.pick [] (by decide)⟩)))
  have hF := zN c443 hF
  refine zH (fa54_0 rfl) ?_
  refine zH (zT one3 rfl (Cells.get (Blk.cells (H.item (i := 1) rfl)) (i := 0) rfl)) ?_
  obtain ⟨x444, e445, hF⟩ := zG hF
  refine zH (zS (yP (a := p0.Kind) (b := 5) rfl rfl) e445) ?_
  refine yK (b := x444) rfl rfl rfl (fun c446 => ?_) (fun c446 => ?_)
  ·have hF := zO c446 hF
   refine zH (fa54_4 rfl) ?_
   refine zH (zT one3 rfl (Cells.get (Blk.cells (H.item (i := 1) rfl)) (i := 4) rfl)) ?_
   obtain ⟨x447, e448, hF⟩ := zG hF
   refine zH (zS (xZ (a := p0.N) (b := 0) rfl rfl) e448) ?_
   refine zH (yI (v := .bool x447) rfl rfl) ?_
   refine zH (yE (v := .bool x447) rfl rfl) ?_
   refine zI (.bool x447) ?_
   obtain rfl := someI hF
   exact (zF (zA (meet ⟨(), (zK rfl zL), H.pick [] (by decide)⟩)))
  have hF := zN c446 hF
  refine yD ?_
  refine yD ?_
  refine yD ?_
  refine zH (yE (v := .bool false) rfl rfl) ?_
  refine zH (yE (v := .bool false) rfl rfl) ?_
  refine zI (.bool false) ?_
  obtain rfl := someI hF
  exact (zF (zA (meet ⟨(), (zK rfl zL), H.pick [] (by decide)⟩)))
 rintro _ ρ w430 H
 have hF := hK431
 refine zW (b := g429) rfl (fun c449 => ?_) (fun c449 => ?_)
 ·have hF := zO c449 hF
  refine zC fun K450 hK450 => ?_
  refine zB ?_
  refine zI (.int .i64 9) ?_
  refine (zF (zA (hK450 _ _ ?_)))
  obtain rfl := someI hF
  refine (zZ (yF (zY (post1 (v1 := .int .i64 9) rfl rfl ?_))))
  exact ⟨rfl, H.pick [] (by decide)⟩
 have hF := zN c449 hF
 refine (yA (yR (zA (hK299 _ _ ?_))))
 refine zC fun K451 hK451 => ?_
 refine zB ?_
 refine zI (.int .i64 0) ?_
 refine (zF (zA (hK451 _ _ ?_)))
 obtain rfl := someI hF
 refine (zZ (post1 (v1 := .int .i64 0) rfl rfl ?_))
 exact ⟨rfl, H.pick [] (by decide)⟩
abbrev S_event_each_event_checkOne (f : Cond → Option Int) : Prop := ∀ (p0 : Cond) (v1 : Value) (r : Int) (_ : f p0 = some r) (O S : List Nat) (w : World) (_ : Hd O w w S [.fz (.sl rCond v1 p0.Kids)]),
  Calls Tryz.prog 108 ([.agg [.int .i64 p0.Kind, .string (bs p0.Name), .string (bs p0.Other), .int .i64 p0.Op, .int .i64 p0.N, .int .i64 p0.Frames, v1].toArray, .func (.func 109) #[] #[]] : List Value).toArray w fun e w' => e = .returned (.int .i64 r) ∧ Hd O w w' S []
set_option maxHeartbeats 4000000 in
theorem F_event_each_event_checkOne_B_w (rfD : Cond → Option Int) (rhD : S_event_each_event_checkOne rfD) (p0 : Cond) (v1 : Value) (r : Int) (hF : F_event_each_event_checkOne_B rfD p0 = some r) (O S : List Nat) (w : World) (H : Hd O w w S [.fz (.sl rCond v1 p0.Kids)]) :
  Calls Tryz.prog 108 ([.agg [.int .i64 p0.Kind, .string (bs p0.Name), .string (bs p0.Other), .int .i64 p0.Op, .int .i64 p0.N, .int .i64 p0.Frames, v1].toArray, .func (.func 109) #[] #[]] : List Value).toArray w fun e w' => e = .returned (.int .i64 r) ∧ Hd O w w' S [] := by
 unfold F_event_each_event_checkOne_B at hF
 refine yB 29 Tryz.func108 rfl rfl rfl ?_
 refine zC fun K3 hK3 => ?_
 refine zB ?_
 refine yX rfl rfl (Lx_box (cs := [.int .i64 p0.Kind, .string (bs p0.Name), .string (bs p0.Other), .int .i64 p0.Op, .int .i64 p0.N, .int .i64 p0.Frames, v1]) rfl H) ?_
 rintro _ w6 ⟨b4, rfl, H⟩
 refine zI (.int .i64 0) ?_
 refine (zF (zA (hK3 _ _ ?_)))
 refine zC fun K18 hK18 => ?_
 refine zC fun K19 hK19 => ?_
 refine zB ?_
 refine zM (.func (.func 109) #[] #[]) ?_
 refine zH (yQ (yM (cs := [.int .i64 p0.Kind, .string (bs p0.Name), .string (bs p0.Other), .int .i64 p0.Op, .int .i64 p0.N, .int .i64 p0.Frames, v1]) agg54 rfl sz54 rfl (Blk.cells (H.item (i := 1) rfl))) rfl) ?_
 have H20 := H
 obtain ⟨x21, e22, hF⟩ := zD hF
 refine zV rfl rfl (DoC_clo en109 rfl rfl) (F_event_checkOne_w p0 v1 _ e22 _ _ _ (H.enter [] [0] (by decide) rfl)) ?_
 rintro _ w23 ⟨rfl, G24⟩
 have H := H20.step (G24.only : Only [] _ _)
 refine ⟨_, rfl, ?_⟩
 refine zI (.int .i64 x21) ?_
 refine (zF (zA (hK19 _ _ ?_)))
 refine zC fun K25 hK25 => ?_
 refine zB ?_
 refine zM (.int .i64 x21) ?_
 obtain ⟨x26, e27, hF⟩ := zG hF
 refine zH (zS (Do_neq (a := x21) (b := 0) rfl rfl) e27) ?_
 refine (zF (zA (hK25 _ _ ?_)))
 refine zW (b := x26) rfl (fun c28 => ?_) (fun c28 => ?_)
 ·have hF := zO c28 hF
  refine zC fun K29 hK29 => ?_
  refine zB ?_
  refine zM (.int .i64 x21) ?_
  refine zI (.int .i64 x21) ?_
  refine (zF (zA (hK29 _ _ ?_)))
  obtain rfl := someI hF
  refine (zZ (zY (post1 (v1 := .int .i64 x21) rfl rfl ?_)))
  exact ⟨rfl, H.pick [] (by decide)⟩
 have hF := zN c28 hF
 refine (yA (zA (hK18 _ _ ?_)))
 obtain ⟨k186, ek187, hF⟩ := joinO_some hF
 refine yL [4, 7, 8, 15, 16, 17, 18, 19, 20, 21, 22, 23, 24, 25, 26, 27, 28] (fun (g : Unit) => []) (fun g wl => Hd O w wl S [] ∧ k186 () = some r) ?_ ?_
 ·skip
  refine zC fun K188 hK188 => ?_
  refine zB ?_
  refine zH (fa54_6 rfl) ?_
  refine zH (zT one52 rfl (Cells.get (Blk.cells (H.item (i := 1) rfl)) (i := 6) rfl)) ?_
  obtain ⟨x189, e190, hF⟩ := zG hF
  obtain ⟨a191, c192, q193⟩ := SlF.len ((H.item (i := 0) rfl))
  refine zH (yQ (Do_len u52 q193) (congrArg (Value.int .i64) e190)) ?_
  refine zM (.int .i64 0) ?_
  refine (zF (zA (hK188 _ _ ?_)))
  refine yJ ?_
  unfold F_event_each_event_checkOne_B_L1 at hF
  obtain ⟨B338, n339, eB340, hF⟩ := yY hF
  refine xK [4, 7, 8, 18, 19, 20, 21, 22, 23, 24, 25, 26, 27, 28] (fun (g : Nat × Int) => [(18, .int .i64 g.2)]) (fun g wl => Hd O w wl S [.fz (.sl rCond v1 p0.Kids)] ∧ loopN B338 g.1 g.2 = some r) (fun g => g.1) (n339, 0) (zK rfl zL) ⟨H.pick [0] (by decide), hF⟩ ?_
  clear H hF
  rintro ⟨n339, g337⟩ ρ w342 ⟨H, hF⟩
  obtain ⟨n343, rfl, hF⟩ := xE hF
  have hF := xC eB340 hF
  refine zC fun K344 hK344 => ?_
  refine zB ?_
  obtain ⟨x345, e346, hF⟩ := zG hF
  refine zH (zS (xZ (a := g337) (b := x189) rfl rfl) e346) ?_
  refine (zF (zA (hK344 _ _ ?_)))
  refine zC fun K348 hK348 => ?_
  refine zW (b := x345) rfl (fun c349 => ?_) (fun c349 => ?_)
  ·have hF := zO c349 hF
   refine (yA (zA (hK348 _ _ ?_)))
   refine zC fun K381 hK381 => ?_
   refine yJ ?_
   refine zC fun K382 hK382 => ?_
   refine zB ?_
   obtain ⟨x383, e384, hF⟩ := zD hF
   obtain ⟨b385, o386, c387, cs388, q389, h392, h390, h391, h393⟩ := rd_at (H.item (i := 0) rfl) e384
   obtain ⟨v394, rfl, h395⟩ := xX h392
   have H := H.fzs [.at b385 (o386 + g337.toNat * 7) _, .sl rCond v394 x383.Kids] ⟨⟨h390, h391, h393⟩, h395, trivial⟩
   refine zH (Do_idx u52 sz54 q389 rfl (yU e384).1 (yU e384).2.1 rfl rfl) ?_
   refine zH (yQ (yM (cs := [.int .i64 x383.Kind, .string (bs x383.Name), .string (bs x383.Other), .int .i64 x383.Op, .int .i64 x383.N, .int .i64 x383.Frames, v394]) agg54 rfl sz54 rfl (H.item (i := 1) rfl).2.2) rfl) ?_
   refine yX rfl rfl (xB zero54 H) ?_
   rintro _ w400 ⟨b398, rfl, H⟩
   refine yN rfl (yH (vs := [.int .i64 x383.Kind, .string (bs x383.Name), .string (bs x383.Other), .int .i64 x383.Op, .int .i64 x383.N, .int .i64 x383.Frames, v394]) H 3 rfl sz54 rfl rfl rfl ⟨rfl, rfl, rfl, rfl, rfl, rfl, (wE (H.item (i := 2) rfl)), trivial⟩ rfl) ?_
   rintro w401 H
   refine (zF (zA (hK382 _ _ ?_)))
   refine zC fun K402 hK402 => ?_
   refine zB ?_
   refine zH (yQ (yM (cs := [.int .i64 x383.Kind, .string (bs x383.Name), .string (bs x383.Other), .int .i64 x383.Op, .int .i64 x383.N, .int .i64 x383.Frames, v394]) agg54 rfl sz54 rfl (Blk.cells (H.item (i := 3) rfl))) rfl) ?_
   refine zM (.func (.func 109) #[] #[]) ?_
   have H403 := H
   obtain ⟨x404, e405, hF⟩ := zD hF
   refine zV rfl rfl (zU en108 rfl) (rhD x383 v394 _ e405 _ _ _ (H.enter [] [2] (by decide) rfl)) ?_
   rintro _ w406 ⟨rfl, G407⟩
   have H := H403.step (G407.only : Only [] _ _)
   refine ⟨_, rfl, ?_⟩
   refine zI (.int .i64 x404) ?_
   refine (zF (zA (hK402 _ _ ?_)))
   refine zC fun K408 hK408 => ?_
   refine zB ?_
   refine zM (.int .i64 x404) ?_
   obtain ⟨x409, e410, hF⟩ := zG hF
   refine zH (zS (Do_neq (a := x404) (b := 0) rfl rfl) e410) ?_
   refine (zF (zA (hK408 _ _ ?_)))
   refine zW (b := x409) rfl (fun c411 => ?_) (fun c411 => ?_)
   ·have hF := zO c411 hF
    refine zC fun K412 hK412 => ?_
    refine zB ?_
    refine zM (.int .i64 x404) ?_
    refine zI (.int .i64 x404) ?_
    refine (zF (zA (hK412 _ _ ?_)))
    obtain rfl := someI hF
    refine (zZ (yF (zY (zY (yF (zY (post1 (v1 := .int .i64 x404) rfl rfl ?_)))))))
    exact ⟨rfl, H.pick [] (by decide)⟩
   have hF := zN c411 hF
   refine (yA (yR (zA (hK381 _ _ ?_))))
   refine zB ?_
   obtain ⟨x413, e414, hF⟩ := zG hF
   refine zH (wC (a := g337) (b := 1) rfl rfl e414) ?_
   refine zM (.int .i64 x413) ?_
   exact (zF (zA (meet ⟨(n343, x413), (zK rfl zL), ⟨H.pick [0] (by decide), hF⟩, Nat.lt_succ_self _⟩)))
  have hF := zN c349 hF
  exact (xW (yT (yT (xG (zA (meet ⟨(), zL, ⟨H.pick [] (by decide), hF⟩⟩))))))
 rintro _ ρ w185 ⟨H, hF⟩
 have hF := join_body ek187 hF
 refine zC fun K415 hK415 => ?_
 refine zB ?_
 refine zI (.int .i64 0) ?_
 refine (zF (zA (hK415 _ _ ?_)))
 obtain rfl := someI hF
 refine (zZ (post1 (v1 := .int .i64 0) rfl rfl ?_))
 exact ⟨rfl, H.pick [] (by decide)⟩
theorem F_event_each_event_checkOne_s : S_event_each_event_checkOne (F_event_each_event_checkOne) := by
 have h : ∀ n, S_event_each_event_checkOne (F_event_each_event_checkOne_R n) := by
  intro n
  induction n with
  | zero => intro p0 v1 r hF; cases hF
  | succ n ih => intro p0 v1 r hF; exact F_event_each_event_checkOne_B_w (F_event_each_event_checkOne_R n) ih p0 v1 r hF
 exact h FU
set_option maxHeartbeats 4000000 in
theorem F_event_CheckCond_w (p0 : Cond) (v1 : Value) (r : Int) (hF : F_event_CheckCond p0 = some r) (O S : List Nat) (w : World) (H : Hd O w w S [.fz (.sl rCond v1 p0.Kids)]) :
  Calls Tryz.prog 56 ([.agg [.int .i64 p0.Kind, .string (bs p0.Name), .string (bs p0.Other), .int .i64 p0.Op, .int .i64 p0.N, .int .i64 p0.Frames, v1].toArray] : List Value).toArray w fun e w' => e = .returned (.int .i64 r) ∧ Hd O w w' S [] := by
 unfold F_event_CheckCond at hF
 refine yB 9 Tryz.func56 rfl rfl rfl ?_
 refine zC fun K3 hK3 => ?_
 refine zB ?_
 refine yX rfl rfl (Lx_box (cs := [.int .i64 p0.Kind, .string (bs p0.Name), .string (bs p0.Other), .int .i64 p0.Op, .int .i64 p0.N, .int .i64 p0.Frames, v1]) rfl H) ?_
 rintro _ w6 ⟨b4, rfl, H⟩
 refine zI (.int .i64 0) ?_
 refine (zF (zA (hK3 _ _ ?_)))
 refine zC fun K7 hK7 => ?_
 refine zB ?_
 refine yX rfl rfl (xB zero3 H) ?_
 rintro _ w10 ⟨b8, rfl, H⟩
 refine yN rfl (xA H 2 rfl sz3 rfl (v := .int .i64 0) rfl rfl rfl) ?_
 rintro w11 H
 refine (zF (zA (hK7 _ _ ?_)))
 refine zC fun K22 hK22 => ?_
 refine zC fun K23 hK23 => ?_
 refine zB ?_
 refine zH (yQ (yM (cs := [.int .i64 p0.Kind, .string (bs p0.Name), .string (bs p0.Other), .int .i64 p0.Op, .int .i64 p0.N, .int .i64 p0.Frames, v1]) agg54 rfl sz54 rfl (Blk.cells (H.item (i := 1) rfl))) rfl) ?_
 obtain ⟨⟨x24, x25⟩, e26, hF⟩ := zD hF
 refine zV rfl rfl (zU en107 rfl) (F_event_small_s p0 20 0 v1 b8 _ e26 _ _ _ (H.enter [2] [0] (by decide) rfl)) ?_
 rintro _ w27 ⟨rfl, G28⟩
 have H : Hd O _ w27 _ [.fz (.sl rCond v1 p0.Kids), .blk b4 [.int .i64 p0.Kind, .string (bs p0.Name), .string (bs p0.Other), .int .i64 p0.Op, .int .i64 p0.N, .int .i64 p0.Frames, v1] 54, .blk b8 [.int .i64 x25] 3] := H.back [2] [0] rfl G28
 refine ⟨_, rfl, ?_⟩
 obtain ⟨x29, e30, hF⟩ := zG hF
 refine zH (zS (xY (p := x24) rfl) e30) ?_
 refine (zF (zA (hK23 _ _ ?_)))
 refine zW (b := x29) rfl (fun c31 => ?_) (fun c31 => ?_)
 ·have hF := zO c31 hF
  refine zC fun K32 hK32 => ?_
  refine zB ?_
  refine zI (.int .i64 3) ?_
  refine (zF (zA (hK32 _ _ ?_)))
  obtain rfl := someI hF
  refine (zZ (zY (post1 (v1 := .int .i64 3) rfl rfl ?_)))
  exact ⟨rfl, H.pick [] (by decide)⟩
 have hF := zN c31 hF
 refine (yA (zA (hK22 _ _ ?_)))
 refine zC fun K33 hK33 => ?_
 refine zB ?_
 refine zH (yQ (yM (cs := [.int .i64 p0.Kind, .string (bs p0.Name), .string (bs p0.Other), .int .i64 p0.Op, .int .i64 p0.N, .int .i64 p0.Frames, v1]) agg54 rfl sz54 rfl (Blk.cells (H.item (i := 1) rfl))) rfl) ?_
 have H34 := H
 obtain ⟨x35, e36, hF⟩ := zD hF
 refine zV rfl rfl (zU en108 rfl) (F_event_each_event_checkOne_s p0 v1 _ e36 _ _ _ (H.enter [] [0] (by decide) rfl)) ?_
 rintro _ w37 ⟨rfl, G38⟩
 have H := H34.step (G38.only : Only [] _ _)
 refine ⟨_, rfl, ?_⟩
 refine zI (.int .i64 x35) ?_
 refine (zF (zA (hK33 _ _ ?_)))
 obtain rfl := someI hF
 refine (zZ (post1 (v1 := .int .i64 x35) rfl rfl ?_))
 exact ⟨rfl, H.pick [] (by decide)⟩
abbrev S_event_inward (f : Cond → Bool → Option Cond) : Prop := ∀ (p0 : Cond) (p1 : Bool) (v1 : Value) (r : Cond) (_ : f p0 p1 = some r) (O S : List Nat) (w : World) (_ : Hd O w w S [.fz (.sl rCond v1 p0.Kids)]),
  Calls Tryz.prog 57 ([.agg [.int .i64 p0.Kind, .string (bs p0.Name), .string (bs p0.Other), .int .i64 p0.Op, .int .i64 p0.N, .int .i64 p0.Frames, v1].toArray, .bool p1] : List Value).toArray w fun e w' => ∃ u3, e = .returned (.agg [.int .i64 r.Kind, .string (bs r.Name), .string (bs r.Other), .int .i64 r.Op, .int .i64 r.N, .int .i64 r.Frames, u3].toArray) ∧ Hd O w w' S [.fz (.sl rCond u3 r.Kids)]
set_option maxHeartbeats 4000000 in
theorem F_event_inwardAll_w (rfE : Cond → Bool → Option Cond) (rhE : S_event_inward rfE) (p0 : List Cond) (p1 : Bool) (v1 : Value) (r : (List Cond)) (hF : F_event_inwardAll rfE p0 p1 = some r) (O S : List Nat) (w : World) (H : Hd O w w S [.fz (.sl rCond v1 p0)]) :
  Calls Tryz.prog 110 ([v1, .bool p1] : List Value).toArray w fun e w' => ∃ u3, e = .returned (u3) ∧ Hd O w w' S [.own rCond u3 54 r] := by
 unfold F_event_inwardAll at hF
 refine yB 22 Tryz.func110 rfl rfl rfl ?_
 refine zC fun K4 hK4 => ?_
 refine zB ?_
 refine zI (.slice none 0 0) ?_
 refine (zF (zA (hK4 _ _ ?_)))
 refine zC fun K5 hK5 => ?_
 refine zB ?_
 refine zI (.slice none 0 0) ?_
 refine (zF (zA (hK5 _ _ ?_)))
 obtain ⟨g184, hF, hK187⟩ := zD hF
 refine yL [5, 7, 8, 9, 10, 11, 12, 13, 14, 15, 16, 17, 18, 19, 20] (fun (g : Value) => [(5, g)]) (fun g wl => Hd O w wl S [.own rCond g 54 g184]) ?_ ?_
 ·skip
  refine zC fun K188 hK188 => ?_
  refine zB ?_
  refine zM v1 ?_
  obtain ⟨x189, e190, hF⟩ := zG hF
  obtain ⟨a191, c192, q193⟩ := SlF.len ((H.item (i := 0) rfl))
  refine zH (yQ (Do_len u52 q193) (congrArg (Value.int .i64) e190)) ?_
  refine zM (.int .i64 0) ?_
  refine (zF (zA (hK188 _ _ ?_)))
  refine yJ ?_
  have H := own_nil H rCond 54
  unfold F_event_inwardAll_L1 at hF
  obtain ⟨B363, n364, eB365, hF⟩ := yY hF
  refine xK [5, 7, 10, 11, 12, 13, 14, 15, 16, 17, 18, 19, 20] (fun (g : Nat × (List Cond) × Int × Value) => [(5, g.2.2.2), (10, .int .i64 g.2.2.1)]) (fun g wl => Hd O w wl S [.own rCond g.2.2.2 54 g.2.1, .fz (.sl rCond v1 p0)] ∧ loopN B363 g.1 (g.2.1, g.2.2.1) = some g184) (fun g => g.1) (n364, [], 0, .slice none 0 0) (zK rfl (zK rfl zL)) ⟨H.pick [1, 0] (by decide), hF⟩ ?_
  clear H hF
  rintro ⟨n364, g359, g361, v360⟩ ρ w367 ⟨H, hF⟩
  obtain ⟨n368, rfl, hF⟩ := xE hF
  have hF := xC eB365 hF
  refine zC fun K369 hK369 => ?_
  refine zB ?_
  obtain ⟨x370, e371, hF⟩ := zG hF
  refine zH (zS (xZ (a := g361) (b := x189) rfl rfl) e371) ?_
  refine (zF (zA (hK369 _ _ ?_)))
  refine zC fun K373 hK373 => ?_
  refine zW (b := x370) rfl (fun c374 => ?_) (fun c374 => ?_)
  ·have hF := zO c374 hF
   refine (yA (zA (hK373 _ _ ?_)))
   refine zC fun K410 hK410 => ?_
   refine yJ ?_
   refine zC fun K411 hK411 => ?_
   refine zB ?_
   obtain ⟨x412, e413, hF⟩ := zD hF
   obtain ⟨b414, o415, c416, cs417, q418, h421, h419, h420, h422⟩ := rd_at (H.item (i := 1) rfl) e413
   obtain ⟨v423, rfl, h424⟩ := xX h421
   have H := H.fzs [.at b414 (o415 + g361.toNat * 7) _, .sl rCond v423 x412.Kids] ⟨⟨h419, h420, h422⟩, h424, trivial⟩
   refine zH (Do_idx u52 sz54 q418 rfl (yU e413).1 (yU e413).2.1 rfl rfl) ?_
   refine zH (yQ (yM (cs := [.int .i64 x412.Kind, .string (bs x412.Name), .string (bs x412.Other), .int .i64 x412.Op, .int .i64 x412.N, .int .i64 x412.Frames, v423]) agg54 rfl sz54 rfl (H.item (i := 2) rfl).2.2) rfl) ?_
   refine yX rfl rfl (xB zero54 H) ?_
   rintro _ w429 ⟨b427, rfl, H⟩
   refine yN rfl (yH (vs := [.int .i64 x412.Kind, .string (bs x412.Name), .string (bs x412.Other), .int .i64 x412.Op, .int .i64 x412.N, .int .i64 x412.Frames, v423]) H 4 rfl sz54 rfl rfl rfl ⟨rfl, rfl, rfl, rfl, rfl, rfl, (wE (H.item (i := 3) rfl)), trivial⟩ rfl) ?_
   rintro w430 H
   refine (zF (zA (hK411 _ _ ?_)))
   refine zB ?_
   refine zM v360 ?_
   refine zH (yQ (yM (cs := [.int .i64 x412.Kind, .string (bs x412.Name), .string (bs x412.Other), .int .i64 x412.Op, .int .i64 x412.N, .int .i64 x412.Frames, v423]) agg54 rfl sz54 rfl (Blk.cells (H.item (i := 4) rfl))) rfl) ?_
   refine zM (.bool p1) ?_
   obtain ⟨x431, e432, hF⟩ := zD hF
   refine zV rfl rfl (zU en57 rfl) (rhE x412 p1 v423 _ e432 _ _ _ (H.enter [] [3] (by decide) rfl)) ?_
   rintro _ w435 ⟨v433, rfl, G436⟩
   have H := H.back1 [3] rfl G436
   refine ⟨_, rfl, ?_⟩
   obtain ⟨x437, e438, hF⟩ := zG hF
   subst e438
   refine yX rfl rfl (Lx_bs (r := rCond) (xl := [x431]) (cs := [.int .i64 x431.Kind, .string (bs x431.Name), .string (bs x431.Other), .int .i64 x431.Op, .int .i64 x431.N, .int .i64 x431.Frames, v433]) u52 el54 (by decide) (by decide) rfl (xJ (vs := [.agg [.int .i64 x431.Kind, .string (bs x431.Name), .string (bs x431.Other), .int .i64 x431.Op, .int .i64 x431.N, .int .i64 x431.Frames, v433].toArray]) (by decide) rfl rfl ⟨rfl, trivial⟩ rfl) H ⟨[.int .i64 x431.Kind, .string (bs x431.Name), .string (bs x431.Other), .int .i64 x431.Op, .int .i64 x431.N, .int .i64 x431.Frames, v433], [], rfl, (rCond_mk (x := x431) (H.item (i := 5) rfl)), rfl⟩) ?_
   rintro v440 w441 H
   obtain ⟨x442, e443, hF⟩ := zD hF
   refine yX rfl rfl (Lx_app H (i := 0) rfl u52 el54 rfl rfl (Sr.of_own (H.item (i := 6) rfl)) e443) ?_
   rintro v444 w445 H
   refine zI v444 ?_
   refine (zF (yR (zA (hK410 _ _ ?_))))
   refine zB ?_
   obtain ⟨x446, e447, hF⟩ := zG hF
   refine zH (wC (a := g361) (b := 1) rfl rfl e447) ?_
   refine zM (.int .i64 x446) ?_
   exact (zF (zA (meet ⟨(n368, x442, x446, v444), (zK rfl (zK rfl zL)), ⟨H.pick [0, 1] (by decide), hF⟩, Nat.lt_succ_self _⟩)))
  have hF := zN c374 hF
  obtain rfl := someI hF
  exact (xW (yT (yT (xG (zA (meet ⟨v360, (zK rfl zL), H.pick [0] (by decide)⟩))))))
 rintro v185 ρ w186 H
 have hF := hK187
 refine zC fun K448 hK448 => ?_
 refine zB ?_
 refine zM v185 ?_
 refine zI v185 ?_
 refine (zF (zA (hK448 _ _ ?_)))
 obtain rfl := someI hF
 refine (zZ (post1 (v1 := v185) rfl rfl ?_))
 exact ⟨v185, rfl, H.pick [0] (by decide)⟩
set_option maxHeartbeats 4000000 in
set_option maxRecDepth 100000 in
theorem F_event_contrary_w (p0 : Int) (r : Int) (hF : F_event_contrary p0 = some r) (O S : List Nat) (w : World) (H : Hd O w w S []) :
  Calls Tryz.prog 111 ([.int .i64 p0] : List Value).toArray w fun e w' => e = .returned (.int .i64 r) ∧ Hd O w w' S [] := by
 unfold F_event_contrary at hF
 refine yB 14 Tryz.func111 rfl rfl rfl ?_
 refine zC fun K1 hK1 => ?_
 refine zB ?_
 refine zI (.int .i64 0) ?_
 refine (zF (zA (hK1 _ _ ?_)))
 refine zC fun K28 hK28 => ?_
 refine zC fun K29 hK29 => ?_
 refine zB ?_
 refine zM (.int .i64 p0) ?_
 refine (zF (zA (hK29 _ _ ?_)))
 refine yJ ?_
 refine zC fun K30 hK30 => ?_
 refine zB ?_
 obtain ⟨x31, e32, hF⟩ := zG hF
 refine zH (zS (yP (a := p0) (b := 1) rfl rfl) e32) ?_
 refine zI (.bool x31) ?_
 refine (zF (zA (hK30 _ _ ?_)))
 refine zW (b := x31) rfl (fun c33 => ?_) (fun c33 => ?_)
 ·have hF := zO c33 hF
  refine zC fun K34 hK34 => ?_
  refine zB ?_
  refine zI (.int .i64 5) ?_
  refine (zF (zA (hK34 _ _ ?_)))
  obtain rfl := someI hF
  refine (zZ (yF (zY (post1 (v1 := .int .i64 5) rfl rfl ?_))))
  exact ⟨rfl, H.pick [] (by decide)⟩
 have hF := zN c33 hF
 refine zC fun K35 hK35 => ?_
 refine zB ?_
 obtain ⟨x36, e37, hF⟩ := zG hF
 refine zH (zS (yP (a := p0) (b := 2) rfl rfl) e37) ?_
 refine zI (.bool x36) ?_
 refine (zF (zA (hK35 _ _ ?_)))
 refine zW (b := x36) rfl (fun c38 => ?_) (fun c38 => ?_)
 ·have hF := zO c38 hF
  refine zC fun K39 hK39 => ?_
  refine zB ?_
  refine zI (.int .i64 6) ?_
  refine (zF (zA (hK39 _ _ ?_)))
  obtain rfl := someI hF
  refine (zZ (yF (zY (post1 (v1 := .int .i64 6) rfl rfl ?_))))
  exact ⟨rfl, H.pick [] (by decide)⟩
 have hF := zN c38 hF
 refine zC fun K40 hK40 => ?_
 refine zB ?_
 obtain ⟨x41, e42, hF⟩ := zG hF
 refine zH (zS (yP (a := p0) (b := 3) rfl rfl) e42) ?_
 refine zI (.bool x41) ?_
 refine (zF (zA (hK40 _ _ ?_)))
 refine zW (b := x41) rfl (fun c43 => ?_) (fun c43 => ?_)
 ·have hF := zO c43 hF
  refine zC fun K44 hK44 => ?_
  refine zB ?_
  refine zI (.int .i64 4) ?_
  refine (zF (zA (hK44 _ _ ?_)))
  obtain rfl := someI hF
  refine (zZ (yF (zY (post1 (v1 := .int .i64 4) rfl rfl ?_))))
  exact ⟨rfl, H.pick [] (by decide)⟩
 have hF := zN c43 hF
 refine zC fun K45 hK45 => ?_
 refine zB ?_
 obtain ⟨x46, e47, hF⟩ := zG hF
 refine zH (zS (yP (a := p0) (b := 4) rfl rfl) e47) ?_
 refine zI (.bool x46) ?_
 refine (zF (zA (hK45 _ _ ?_)))
 refine zW (b := x46) rfl (fun c48 => ?_) (fun c48 => ?_)
 ·have hF := zO c48 hF
  refine zC fun K49 hK49 => ?_
  refine zB ?_
  refine zI (.int .i64 3) ?_
  refine (zF (zA (hK49 _ _ ?_)))
  obtain rfl := someI hF
  refine (zZ (yF (zY (post1 (v1 := .int .i64 3) rfl rfl ?_))))
  exact ⟨rfl, H.pick [] (by decide)⟩
 have hF := zN c48 hF
 refine zC fun K50 hK50 => ?_
 refine zB ?_
 obtain ⟨x51, e52, hF⟩ := zG hF
 refine zH (zS (yP (a := p0) (b := 5) rfl rfl) e52) ?_
 refine zI (.bool x51) ?_
 refine (zF (zA (hK50 _ _ ?_)))
 refine zW (b := x51) rfl (fun c53 => ?_) (fun c53 => ?_)
 ·have hF := zO c53 hF
  refine zC fun K54 hK54 => ?_
  refine zB ?_
  refine zI (.int .i64 1) ?_
  refine (zF (zA (hK54 _ _ ?_)))
  obtain rfl := someI hF
  refine (zZ (yF (zY (post1 (v1 := .int .i64 1) rfl rfl ?_))))
  exact ⟨rfl, H.pick [] (by decide)⟩
 have hF := zN c53 hF
 refine (yA (yR (zA (hK28 _ _ ?_))))
 refine zC fun K55 hK55 => ?_
 refine zB ?_
 refine zI (.int .i64 2) ?_
 refine (zF (zA (hK55 _ _ ?_)))
 obtain rfl := someI hF
 refine (zZ (post1 (v1 := .int .i64 2) rfl rfl ?_))
 exact ⟨rfl, H.pick [] (by decide)⟩
set_option maxHeartbeats 4000000 in
set_option maxRecDepth 100000 in
theorem F_event_inward_B_w (rfE : Cond → Bool → Option Cond) (rhE : S_event_inward rfE) (p0 : Cond) (p1 : Bool) (v1 : Value) (r : Cond) (hF : F_event_inward_B rfE p0 p1 = some r) (O S : List Nat) (w : World) (H : Hd O w w S [.fz (.sl rCond v1 p0.Kids)]) :
  Calls Tryz.prog 57 ([.agg [.int .i64 p0.Kind, .string (bs p0.Name), .string (bs p0.Other), .int .i64 p0.Op, .int .i64 p0.N, .int .i64 p0.Frames, v1].toArray, .bool p1] : List Value).toArray w fun e w' => ∃ u3, e = .returned (.agg [.int .i64 r.Kind, .string (bs r.Name), .string (bs r.Other), .int .i64 r.Op, .int .i64 r.N, .int .i64 r.Frames, u3].toArray) ∧ Hd O w w' S [.fz (.sl rCond u3 r.Kids)] := by
 unfold F_event_inward_B at hF
 refine yB 66 Tryz.func57 rfl rfl rfl ?_
 refine zC fun K4 hK4 => ?_
 refine zB ?_
 refine yX rfl rfl (Lx_box (cs := [.int .i64 p0.Kind, .string (bs p0.Name), .string (bs p0.Other), .int .i64 p0.Op, .int .i64 p0.N, .int .i64 p0.Frames, v1]) rfl H) ?_
 rintro _ w7 ⟨b5, rfl, H⟩
 refine yX rfl rfl (xB zero54 H) ?_
 rintro _ w10 ⟨b8, rfl, H⟩
 refine (zF (zA (hK4 _ _ ?_)))
 refine zC fun K11 hK11 => ?_
 refine zB ?_
 refine yX rfl rfl (Lx_mkmap H) ?_
 rintro _ w14 ⟨b12, rfl, H⟩
 obtain ⟨x15, e16, hF⟩ := zD hF
 refine yN rfl (Lx_insert (K := (Ky.int .i64)) (G := (fun v => Value.int .i64 v)) (m := ([] : List (Int × Int))) (k := 1) (v := 2) H 3 rfl u162 u3 rfl rfl rfl e16) ?_
 rintro w17 H
 obtain ⟨x18, e19, hF⟩ := zD hF
 refine yN rfl (Lx_insert (K := (Ky.int .i64)) (G := (fun v => Value.int .i64 v)) (m := x15) (k := 2) (v := 1) H 3 rfl u162 u3 rfl rfl rfl e19) ?_
 rintro w20 H
 obtain ⟨x21, e22, hF⟩ := zD hF
 refine yN rfl (Lx_insert (K := (Ky.int .i64)) (G := (fun v => Value.int .i64 v)) (m := x18) (k := 9) (v := 10) H 3 rfl u162 u3 rfl rfl rfl e22) ?_
 rintro w23 H
 obtain ⟨x24, e25, hF⟩ := zD hF
 refine yN rfl (Lx_insert (K := (Ky.int .i64)) (G := (fun v => Value.int .i64 v)) (m := x21) (k := 10) (v := 9) H 3 rfl u162 u3 rfl rfl rfl e25) ?_
 rintro w26 H
 obtain ⟨x27, e28, hF⟩ := zD hF
 refine yN rfl (Lx_insert (K := (Ky.int .i64)) (G := (fun v => Value.int .i64 v)) (m := x24) (k := 11) (v := 12) H 3 rfl u162 u3 rfl rfl rfl e28) ?_
 rintro w29 H
 obtain ⟨x30, e31, hF⟩ := zD hF
 refine yN rfl (Lx_insert (K := (Ky.int .i64)) (G := (fun v => Value.int .i64 v)) (m := x27) (k := 12) (v := 11) H 3 rfl u162 u3 rfl rfl rfl e31) ?_
 rintro w32 H
 refine zM (.map (some b12)) ?_
 refine zI (.map (some b12)) ?_
 refine (zF (zA (hK11 _ _ ?_)))
 refine zC fun K120 hK120 => ?_
 refine zC fun K121 hK121 => ?_
 refine zB ?_
 refine zH (fa54_0 rfl) ?_
 refine zH (zT one3 rfl (Cells.get (Blk.cells (H.item (i := 1) rfl)) (i := 0) rfl)) ?_
 refine (zF (zA (hK121 _ _ ?_)))
 refine yJ ?_
 refine zC fun K122 hK122 => ?_
 refine zB ?_
 obtain ⟨x123, e124, hF⟩ := zG hF
 refine zH (zS (yP (a := p0.Kind) (b := 8) rfl rfl) e124) ?_
 refine zI (.bool x123) ?_
 refine (zF (zA (hK122 _ _ ?_)))
 refine zW (b := x123) rfl (fun c125 => ?_) (fun c125 => ?_)
 ·have hF := zO c125 hF
  refine zC fun K126 hK126 => ?_
  refine zB ?_
  refine zH (fa54_6 rfl) ?_
  refine zH (zT one52 rfl (Cells.get (Blk.cells (H.item (i := 1) rfl)) (i := 6) rfl)) ?_
  obtain ⟨x127, e128, hF⟩ := zD hF
  obtain ⟨b129, o130, c131, cs132, q133, h136, h134, h135, h137⟩ := rd_at (H.item (i := 0) rfl) e128
  obtain ⟨v138, rfl, h139⟩ := xX h136
  have H := H.fzs [.at b129 (o130 + (0 : Int).toNat * 7) _, .sl rCond v138 x127.Kids] ⟨⟨h134, h135, h137⟩, h139, trivial⟩
  refine zH (Do_idx u52 sz54 q133 rfl (yU e128).1 (yU e128).2.1 rfl rfl) ?_
  refine zH (yQ (yM (cs := [.int .i64 x127.Kind, .string (bs x127.Name), .string (bs x127.Other), .int .i64 x127.Op, .int .i64 x127.N, .int .i64 x127.Frames, v138]) agg54 rfl sz54 rfl (H.item (i := 4) rfl).2.2) rfl) ?_
  refine zM (.bool p1) ?_
  obtain ⟨x142, e143, hF⟩ := zG hF
  refine zH (zS (xY (p := p1) rfl) e143) ?_
  obtain ⟨x144, e145, hF⟩ := zD hF
  refine zV rfl rfl (zU en57 rfl) (rhE x127 x142 v138 _ e145 _ _ _ (H.enter [] [5] (by decide) rfl)) ?_
  rintro _ w148 ⟨v146, rfl, G149⟩
  have H := H.back1 [5] rfl G149
  refine ⟨_, rfl, ?_⟩
  refine yN rfl (yH (vs := [.int .i64 x144.Kind, .string (bs x144.Name), .string (bs x144.Other), .int .i64 x144.Op, .int .i64 x144.N, .int .i64 x144.Frames, v146]) H 2 rfl sz54 rfl rfl rfl ⟨rfl, rfl, rfl, rfl, rfl, rfl, (wE (H.item (i := 6) rfl)), trivial⟩ rfl) ?_
  rintro w150 H
  refine (zF (zA (hK126 _ _ ?_)))
  obtain rfl := someI hF
  refine (zZ (yF (zY (postc  rfl rfl (yC agg54 sz54 rfl (Blk.cells (H.item (i := 2) rfl))) ?_))))
  exact ⟨v146, rfl, H.pick [6] (by decide)⟩
 have hF := zN c125 hF
 obtain ⟨g169, hF, hK171⟩ := zD hF
 refine yL [19, 20, 21, 22, 23, 24] (fun (g : Unit) => [(19, .bool g169)]) (fun g wl => Hd O w wl S [.fz (.sl rCond v1 p0.Kids), .blk b5 [.int .i64 p0.Kind, .string (bs p0.Name), .string (bs p0.Other), .int .i64 p0.Op, .int .i64 p0.N, .int .i64 p0.Frames, v1] 54, .blk b8 [.int .i64 0, .string (bs []), .string (bs []), .int .i64 0, .int .i64 0, .int .i64 0, .slice none 0 0] 54, .mp b12 (mcells (Ky.int .i64) (fun v => Value.int .i64 v) x30)]) ?_ ?_
 ·skip
  refine zC fun K172 hK172 => ?_
  refine zB ?_
  obtain ⟨x173, e174, hF⟩ := zG hF
  refine zH (zS (yP (a := p0.Kind) (b := 6) rfl rfl) e174) ?_
  refine zI (.bool x173) ?_
  refine (zF (zA (hK172 _ _ ?_)))
  refine zW (b := x173) rfl (fun c175 => ?_) (fun c175 => ?_)
  ·have hF := zO c175 hF
   obtain rfl := someI hF
   exact (yA (zA (meet ⟨(), (zK rfl zL), H.pick [0, 1, 2, 3] (by decide)⟩)))
  have hF := zN c175 hF
  refine zC fun K176 hK176 => ?_
  refine zB ?_
  obtain ⟨x177, e178, hF⟩ := zG hF
  refine zH (zS (yP (a := p0.Kind) (b := 7) rfl rfl) e178) ?_
  refine zI (.bool x177) ?_
  refine (zF (zA (hK176 _ _ ?_)))
  refine zW (b := x177) rfl (fun c179 => ?_) (fun c179 => ?_)
  ·have hF := zO c179 hF
   obtain rfl := someI hF
   exact (yA (zA (meet ⟨(), (zK rfl zL), H.pick [0, 1, 2, 3] (by decide)⟩)))
  have hF := zN c179 hF
  refine zC fun K180 hK180 => ?_
  refine zB ?_
  obtain ⟨x181, e182, hF⟩ := zG hF
  refine zH (zS (yP (a := p0.Kind) (b := 5) rfl rfl) e182) ?_
  refine zI (.bool x181) ?_
  refine (zF (zA (hK180 _ _ ?_)))
  refine zW (b := x181) rfl (fun c183 => ?_) (fun c183 => ?_)
  ·have hF := zO c183 hF
   obtain rfl := someI hF
   exact (yA (zA (meet ⟨(), (zK rfl zL), H.pick [0, 1, 2, 3] (by decide)⟩)))
  have hF := zN c183 hF
  refine zC fun K184 hK184 => ?_
  refine zB ?_
  obtain ⟨x185, e186, hF⟩ := zG hF
  refine zH (zS (yP (a := p0.Kind) (b := 14) rfl rfl) e186) ?_
  refine zI (.bool x185) ?_
  refine (zF (zA (hK184 _ _ ?_)))
  refine zW (b := x185) rfl (fun c187 => ?_) (fun c187 => ?_)
  ·have hF := zO c187 hF
   obtain rfl := someI hF
   exact (yA (zA (meet ⟨(), (zK rfl zL), H.pick [0, 1, 2, 3] (by decide)⟩)))
  have hF := zN c187 hF
  refine zB ?_
  obtain ⟨x188, e189, hF⟩ := zG hF
  refine zH (zS (yP (a := p0.Kind) (b := 15) rfl rfl) e189) ?_
  refine zI (.bool x188) ?_
  obtain rfl := someI hF
  exact (zF (zA (meet ⟨(), (zK rfl zL), H.pick [0, 1, 2, 3] (by decide)⟩)))
 rintro _ ρ w170 H
 have hF := hK171
 refine zW (b := g169) rfl (fun c190 => ?_) (fun c190 => ?_)
 ·have hF := zO c190 hF
  refine zC fun K191 hK191 => ?_
  refine zB ?_
  refine zH (fa54_6 rfl) ?_
  refine zH (zT one52 rfl (Cells.get (Blk.cells (H.item (i := 1) rfl)) (i := 6) rfl)) ?_
  obtain ⟨x192, e193, hF⟩ := zD hF
  refine zV rfl rfl (zU en110 rfl) (F_event_inwardAll_w rfE rhE p0.Kids false v1 _ e193 _ _ _ (H.enter [] [0] (by decide) rfl)) ?_
  rintro _ w196 ⟨v194, rfl, G197⟩
  have H := H.back1 [0] rfl G197
  refine ⟨_, rfl, ?_⟩
  refine zH (fa54_6 rfl) ?_
  refine yN rfl (xA H 1 rfl sz52 rfl (v := v194) rfl (own_one (H.item (i := 4) rfl)) rfl) ?_
  rintro w198 H
  refine (zF (zA (hK191 _ _ ?_)))
  refine zC fun K211 hK211 => ?_
  refine zC fun K212 hK212 => ?_
  refine zB ?_
  refine zM (.bool p1) ?_
  refine (zF (zA (hK212 _ _ ?_)))
  refine zW (b := p1) rfl (fun c213 => ?_) (fun c213 => ?_)
  ·have hF := zO c213 hF
   refine zC fun K214 hK214 => ?_
   refine zB ?_
   refine zH (yQ (yM (cs := [.int .i64 p0.Kind, .string (bs p0.Name), .string (bs p0.Other), .int .i64 p0.Op, .int .i64 p0.N, .int .i64 p0.Frames, v194]) agg54 rfl sz54 rfl (Blk.cells (H.item (i := 1) rfl))) rfl) ?_
   have H := H.freeze (i := 4) rfl
   obtain ⟨x215, e216, hF⟩ := zG hF
   subst e216
   refine yX rfl rfl (Lx_bs (r := rCond) (xl := [Cond.mk p0.Kind p0.Name p0.Other p0.Op p0.N p0.Frames x192]) (cs := [.int .i64 p0.Kind, .string (bs p0.Name), .string (bs p0.Other), .int .i64 p0.Op, .int .i64 p0.N, .int .i64 p0.Frames, v194]) u52 el54 (by decide) (by decide) rfl (xJ (vs := [.agg [.int .i64 p0.Kind, .string (bs p0.Name), .string (bs p0.Other), .int .i64 p0.Op, .int .i64 p0.N, .int .i64 p0.Frames, v194].toArray]) (by decide) rfl rfl ⟨rfl, trivial⟩ rfl) H ⟨[.int .i64 p0.Kind, .string (bs p0.Name), .string (bs p0.Other), .int .i64 p0.Op, .int .i64 p0.N, .int .i64 p0.Frames, v194], [], rfl, (rCond_mk (x := Cond.mk p0.Kind p0.Name p0.Other p0.Op p0.N p0.Frames x192) (H.item (i := 4) rfl)), rfl⟩) ?_
   rintro v218 w219 H
   obtain ⟨a220, c221, q222⟩ : ∃ a c, v218 = .slice a _ c := Sr.len (Sr.of_own (H.item (i := 5) rfl))
   refine zH (xH (cs := [.int .i64 8, .string (bs []), .string (bs []), .int .i64 0, .int .i64 0, .int .i64 0, v218]) (by rw [q222]; exact bt54_0_6 _ a220 _ c221)) ?_
   refine yN rfl (yH (vs := [.int .i64 8, .string (bs []), .string (bs []), .int .i64 0, .int .i64 0, .int .i64 0, v218]) H 2 rfl sz54 rfl rfl rfl ⟨rfl, rfl, rfl, rfl, rfl, rfl, (own_one (H.item (i := 5) rfl)), trivial⟩ rfl) ?_
   rintro w223 H
   refine (zF (zA (hK214 _ _ ?_)))
   have H := H.freeze (i := 5) rfl
   obtain rfl := someI hF
   refine (zZ (zY (yF (zY (postc  rfl rfl (yC agg54 sz54 rfl (Blk.cells (H.item (i := 2) rfl))) ?_)))))
   exact ⟨v218, rfl, H.pick [5] (by decide)⟩
  have hF := zN c213 hF
  refine (yA (zA (hK211 _ _ ?_)))
  refine zC fun K224 hK224 => ?_
  refine zB ?_
  refine zH (yQ (yM (cs := [.int .i64 p0.Kind, .string (bs p0.Name), .string (bs p0.Other), .int .i64 p0.Op, .int .i64 p0.N, .int .i64 p0.Frames, v194]) agg54 rfl sz54 rfl (Blk.cells (H.item (i := 1) rfl))) rfl) ?_
  refine yN rfl (yH (vs := [.int .i64 p0.Kind, .string (bs p0.Name), .string (bs p0.Other), .int .i64 p0.Op, .int .i64 p0.N, .int .i64 p0.Frames, v194]) H 2 rfl sz54 rfl rfl rfl ⟨rfl, rfl, rfl, rfl, rfl, rfl, (own_one (H.item (i := 4) rfl)), trivial⟩ rfl) ?_
  rintro w225 H
  refine (zF (zA (hK224 _ _ ?_)))
  have H := H.freeze (i := 4) rfl
  obtain rfl := someI hF
  refine (zZ (yF (zY (postc  rfl rfl (yC agg54 sz54 rfl (Blk.cells (H.item (i := 2) rfl))) ?_))))
  exact ⟨v194, rfl, H.pick [4] (by decide)⟩
 have hF := zN c190 hF
 refine (yA (yR (zA (hK120 _ _ ?_))))
 refine zC fun K226 hK226 => ?_
 refine zB ?_
 refine zH (fa54_6 rfl) ?_
 refine zH (zT one52 rfl (Cells.get (Blk.cells (H.item (i := 1) rfl)) (i := 6) rfl)) ?_
 refine zM (.bool p1) ?_
 obtain ⟨x227, e228, hF⟩ := zD hF
 refine zV rfl rfl (zU en110 rfl) (F_event_inwardAll_w rfE rhE p0.Kids p1 v1 _ e228 _ _ _ (H.enter [] [0] (by decide) rfl)) ?_
 rintro _ w231 ⟨v229, rfl, G232⟩
 have H := H.back1 [0] rfl G232
 refine ⟨_, rfl, ?_⟩
 refine zH (fa54_6 rfl) ?_
 refine yN rfl (xA H 1 rfl sz52 rfl (v := v229) rfl (own_one (H.item (i := 4) rfl)) rfl) ?_
 rintro w233 H
 refine (zF (zA (hK226 _ _ ?_)))
 refine zC fun K240 hK240 => ?_
 refine zC fun K241 hK241 => ?_
 refine zB ?_
 refine zM (.bool p1) ?_
 obtain ⟨x242, e243, hF⟩ := zG hF
 refine zH (zS (xY (p := p1) rfl) e243) ?_
 refine (zF (zA (hK241 _ _ ?_)))
 refine zW (b := x242) rfl (fun c244 => ?_) (fun c244 => ?_)
 ·have hF := zO c244 hF
  refine zC fun K245 hK245 => ?_
  refine zB ?_
  refine zH (yQ (yM (cs := [.int .i64 p0.Kind, .string (bs p0.Name), .string (bs p0.Other), .int .i64 p0.Op, .int .i64 p0.N, .int .i64 p0.Frames, v229]) agg54 rfl sz54 rfl (Blk.cells (H.item (i := 1) rfl))) rfl) ?_
  refine yN rfl (yH (vs := [.int .i64 p0.Kind, .string (bs p0.Name), .string (bs p0.Other), .int .i64 p0.Op, .int .i64 p0.N, .int .i64 p0.Frames, v229]) H 2 rfl sz54 rfl rfl rfl ⟨rfl, rfl, rfl, rfl, rfl, rfl, (own_one (H.item (i := 4) rfl)), trivial⟩ rfl) ?_
  rintro w246 H
  refine (zF (zA (hK245 _ _ ?_)))
  have H := H.freeze (i := 4) rfl
  obtain rfl := someI hF
  refine (zZ (zY (postc  rfl rfl (yC agg54 sz54 rfl (Blk.cells (H.item (i := 2) rfl))) ?_)))
  exact ⟨v229, rfl, H.pick [4] (by decide)⟩
 have hF := zN c244 hF
 refine (yA (zA (hK240 _ _ ?_)))
 obtain ⟨j281, hF, hK280⟩ := zD hF
 refine yL [42, 43, 44, 45, 46, 47, 48, 49, 50, 51, 52, 53, 54, 55, 56, 57, 58, 59, 60, 61, 62, 63, 64] (fun (g : Unit) => []) (fun g wl => Hd O w wl S [.blk b5 [.int .i64 j281.1, .string (bs p0.Name), .string (bs p0.Other), .int .i64 j281.2.1, .int .i64 j281.2.2, .int .i64 p0.Frames, v229] 54, .own rCond v229 54 x227, .blk b8 [.int .i64 0, .string (bs []), .string (bs []), .int .i64 0, .int .i64 0, .int .i64 0, .slice none 0 0] 54]) ?_ ?_
 ·skip
  refine zC fun K282 hK282 => ?_
  refine zB ?_
  refine zH (fa54_0 rfl) ?_
  refine zH (zT one3 rfl (Cells.get (Blk.cells (H.item (i := 1) rfl)) (i := 0) rfl)) ?_
  refine (zF (zA (hK282 _ _ ?_)))
  refine yJ ?_
  obtain ⟨g289, hF, hK291⟩ := zD hF
  refine yL [49, 50, 51] (fun (g : Unit) => [(49, .bool g289)]) (fun g wl => Hd O w wl S [.blk b5 [.int .i64 p0.Kind, .string (bs p0.Name), .string (bs p0.Other), .int .i64 p0.Op, .int .i64 p0.N, .int .i64 p0.Frames, v229] 54, .own rCond v229 54 x227, .blk b8 [.int .i64 0, .string (bs []), .string (bs []), .int .i64 0, .int .i64 0, .int .i64 0, .slice none 0 0] 54, .mp b12 (mcells (Ky.int .i64) (fun v => Value.int .i64 v) x30)]) ?_ ?_
  ·skip
   refine zC fun K292 hK292 => ?_
   refine zB ?_
   obtain ⟨x293, e294, hF⟩ := zG hF
   refine zH (zS (yP (a := p0.Kind) (b := 3) rfl rfl) e294) ?_
   refine zI (.bool x293) ?_
   refine (zF (zA (hK292 _ _ ?_)))
   refine zW (b := x293) rfl (fun c295 => ?_) (fun c295 => ?_)
   ·have hF := zO c295 hF
    obtain rfl := someI hF
    exact (yA (zA (meet ⟨(), (zK rfl zL), H.pick [1, 4, 2, 3] (by decide)⟩)))
   have hF := zN c295 hF
   refine zB ?_
   obtain ⟨x296, e297, hF⟩ := zG hF
   refine zH (zS (yP (a := p0.Kind) (b := 4) rfl rfl) e297) ?_
   refine zI (.bool x296) ?_
   obtain rfl := someI hF
   exact (zF (zA (meet ⟨(), (zK rfl zL), H.pick [1, 4, 2, 3] (by decide)⟩)))
  rintro _ ρ w290 H
  have hF := hK291
  refine zW (b := g289) rfl (fun c298 => ?_) (fun c298 => ?_)
  ·have hF := zO c298 hF
   refine zB ?_
   refine zH (fa54_3 rfl) ?_
   refine zH (zT one3 rfl (Cells.get (Blk.cells (H.item (i := 0) rfl)) (i := 3) rfl)) ?_
   have H299 := H
   obtain ⟨x300, e301, hF⟩ := zD hF
   refine zV rfl rfl (zU en111 rfl) (F_event_contrary_w p0.Op _ e301 _ _ _ (H.enter [] [] (by decide) rfl)) ?_
   rintro _ w302 ⟨rfl, G303⟩
   have H := H299.step (G303.only : Only [] _ _)
   refine ⟨_, rfl, ?_⟩
   refine zH (fa54_3 rfl) ?_
   refine yN rfl (xA H 0 rfl sz3 rfl (v := .int .i64 x300) rfl rfl rfl) ?_
   rintro w304 H
   obtain rfl := someI hF
   exact (zF (yR (zA (meet ⟨(), zL, H.pick [0, 1, 2] (by decide)⟩))))
  have hF := zN c298 hF
  refine zC fun K305 hK305 => ?_
  refine zB ?_
  obtain ⟨x306, e307, hF⟩ := zG hF
  refine zH (zS (yP (a := p0.Kind) (b := 13) rfl rfl) e307) ?_
  refine zI (.bool x306) ?_
  refine (zF (zA (hK305 _ _ ?_)))
  refine zW (b := x306) rfl (fun c308 => ?_) (fun c308 => ?_)
  ·have hF := zO c308 hF
   refine zB ?_
   refine zH (fa54_5 rfl) ?_
   refine zH (zT one3 rfl (Cells.get (Blk.cells (H.item (i := 0) rfl)) (i := 5) rfl)) ?_
   obtain ⟨x309, e310, hF⟩ := zG hF
   refine zH (wC (a := p0.Frames) (b := 1) rfl rfl e310) ?_
   refine zH (fa54_4 rfl) ?_
   refine zH (zT one3 rfl (Cells.get (Blk.cells (H.item (i := 0) rfl)) (i := 4) rfl)) ?_
   obtain ⟨x311, e312, hF⟩ := zG hF
   refine zH (Do_sub (a := x309) (b := p0.N) rfl rfl e312) ?_
   refine zH (fa54_4 rfl) ?_
   refine yN rfl (xA H 0 rfl sz3 rfl (v := .int .i64 x311) rfl rfl rfl) ?_
   rintro w313 H
   obtain rfl := someI hF
   exact (zF (yR (zA (meet ⟨(), zL, H.pick [0, 1, 2] (by decide)⟩))))
  have hF := zN c308 hF
  refine zB ?_
  refine zM (.map (some b12)) ?_
  refine zH (fa54_0 rfl) ?_
  refine zH (zT one3 rfl (Cells.get (Blk.cells (H.item (i := 0) rfl)) (i := 0) rfl)) ?_
  obtain ⟨x314, e315, hF⟩ := zG hF
  refine zH (yQ (Do_lookup (K := (Ky.int .i64)) (G := (fun v => Value.int .i64 v)) (m := x30) (k := p0.Kind) (zv := 0) (H.item (i := 3) rfl) u162 u3 rfl rfl (Tryz.zeroValue3 w290)) (congrArg (fun v => Value.int .i64 v) e315)) ?_
  refine zH (fa54_0 rfl) ?_
  refine yN rfl (xA H 0 rfl sz3 rfl (v := .int .i64 x314) rfl rfl rfl) ?_
  rintro w316 H
  obtain rfl := someI hF
  exact (zF (yR (zA (meet ⟨(), zL, H.pick [0, 1, 2] (by decide)⟩))))
 rintro _ ρ w279 H
 have hF := hK280
 obtain ⟨g276, g277, g278⟩ := j281
 refine zC fun K317 hK317 => ?_
 refine zB ?_
 refine zH (yQ (yM (cs := [.int .i64 g276, .string (bs p0.Name), .string (bs p0.Other), .int .i64 g277, .int .i64 g278, .int .i64 p0.Frames, v229]) agg54 rfl sz54 rfl (Blk.cells (H.item (i := 0) rfl))) rfl) ?_
 refine yN rfl (yH (vs := [.int .i64 g276, .string (bs p0.Name), .string (bs p0.Other), .int .i64 g277, .int .i64 g278, .int .i64 p0.Frames, v229]) H 2 rfl sz54 rfl rfl rfl ⟨rfl, rfl, rfl, rfl, rfl, rfl, (own_one (H.item (i := 1) rfl)), trivial⟩ rfl) ?_
 rintro w318 H
 refine (zF (zA (hK317 _ _ ?_)))
 have H := H.freeze (i := 1) rfl
 obtain rfl := someI hF
 refine (zZ (postc  rfl rfl (yC agg54 sz54 rfl (Blk.cells (H.item (i := 2) rfl))) ?_))
 exact ⟨v229, rfl, H.pick [1] (by decide)⟩
theorem F_event_inward_s : S_event_inward (F_event_inward) := by
 have h : ∀ n, S_event_inward (F_event_inward_R n) := by
  intro n
  induction n with
  | zero => intro p0 p1 v1 r hF; cases hF
  | succ n ih => intro p0 p1 v1 r hF; exact F_event_inward_B_w (F_event_inward_R n) ih p0 p1 v1 r hF
 exact h FU
end Go.Proofs.YtnajnkghilemhaaGreatDoor.L
