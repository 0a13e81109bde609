/- Walks: what each function computes, for every argument; no condition but those that stand in the statements. -/
import Derived.Test.YtnajnkghilemhaaGreatDoorVV0
import Derived.Test.YtnajnkghilemhaaGreatDoorVV7
namespace Go.Proofs.YtnajnkghilemhaaGreatDoor.L
open Go.RowKit Go.OB Go.Lf
/- orangebox/event.checkOne -/
set_option maxHeartbeats 4000000 in
set_option maxRecDepth 100000 in
theorem F_event_checkOne_w (p0 : Cond) (v1 : Value) (r : Int) (hF : F_event_checkOne p0 = some r) (O S : List Nat) (w : World) (H : Hd O w w S [.fz (.sl rCond v1 p0.Kids)]) :
  Calls Tryz.prog 109 ([.agg [.int .i64 p0.Kind, .string (bs p0.Name), .string (bs p0.Other), .int .i64 p0.Op, .int .i64 p0.N, .int .i64 p0.Frames, v1].toArray] : List Value).toArray w fun e w' => e = .returned (.int .i64 r) ∧ Hd O w w' S [] := by
 unfold F_event_checkOne at hF
 refine yD 140 Tryz.func109 rfl rfl rfl ?_
 refine zD fun K3 hK3 => ?_
 refine zC ?_
 refine yY rfl rfl (Lx_box (cs := [.int .i64 p0.Kind, .string (bs p0.Name), .string (bs p0.Other), .int .i64 p0.Op, .int .i64 p0.N, .int .i64 p0.Frames, v1]) rfl H) ?_
 rintro _ w6 ⟨b4, rfl, H⟩
 refine zA rfl rfl (zG (v := .int .i64 0) rfl) ?_
 refine (zJ (zB (hK3 _ _ ?_)))
 refine zD fun K7 hK7 => ?_
 refine zC ?_
 refine zA rfl rfl (fa54_0 rfl) ?_
 refine zA rfl rfl (zL one3 rfl (Cells.get (Blk.cells (H.item (i := 1) rfl)) (i := 0) rfl)) ?_
 have H8 := H
 obtain ⟨⟨x9, x10⟩, e11, hF⟩ := zI hF
 refine yA rfl rfl (zX en157 rfl) (F_event_fieldsOf_w p0.Kind _ e11 _ _ _ (H.enter [] [] (by decide) rfl)) ?_
 rintro _ w12 ⟨rfl, G13⟩
 have H := H8.step (G13.only : Only [] _ _)
 refine ⟨_, rfl, ?_⟩
 refine zA rfl rfl (zK (v := .tuple #[.agg [.bool x9.name, .bool x9.other, .bool x9.op, .bool x9.n, .bool x9.frames, .int .i64 x9.least, .int .i64 x9.most].toArray, .bool x10]) rfl) ?_
 refine zA rfl rfl (xQ (v := .agg [.bool x9.name, .bool x9.other, .bool x9.op, .bool x9.n, .bool x9.frames, .int .i64 x9.least, .int .i64 x9.most].toArray) rfl rfl) ?_
 refine zA rfl rfl (xQ (v := .bool x10) rfl rfl) ?_
 refine yY rfl rfl (xJ zero211 H) ?_
 rintro _ w16 ⟨b14, rfl, H⟩
 refine yV rfl (yN (vs := [.bool x9.name, .bool x9.other, .bool x9.op, .bool x9.n, .bool x9.frames, .int .i64 x9.least, .int .i64 x9.most]) H 2 rfl sz211 rfl rfl rfl ⟨rfl, rfl, rfl, rfl, rfl, rfl, rfl, trivial⟩ rfl) ?_
 rintro w17 H
 refine zA rfl rfl (zG (v := .bool x10) rfl) ?_
 refine (zJ (zB (hK7 _ _ ?_)))
 refine zD fun K23 hK23 => ?_
 refine zD fun K24 hK24 => ?_
 refine zC ?_
 refine zA rfl rfl (zK (v := .bool x10) rfl) ?_
 obtain ⟨x25, e26, hF⟩ := zF hF
 refine zA rfl rfl (zM (yS (p := x10) rfl) (congrArg Value.bool e26)) ?_
 refine (zJ (zB (hK24 _ _ ?_)))
 refine yH (b := x25) rfl (fun c27 => ?_) (fun c27 => ?_)
 ·have hF := zV c27 hF
  refine zD fun K28 hK28 => ?_
  refine zC ?_
  refine zA rfl rfl (zG (v := .int .i64 7) rfl) ?_
  refine (zJ (zB (hK28 _ _ ?_)))
  have hR := Option.some.inj hF
  subst hR
  refine (yG (yC (post1 (v1 := .int .i64 7) rfl rfl ?_)))
  exact ⟨rfl, H.pick [] (by decide)⟩
 have hF := zW c27 hF
 refine (yI (zB (hK23 _ _ ?_)))
 refine zD fun K604 hK604 => ?_
 obtain ⟨g1175, hF, hK1177⟩ := zI hF
 refine yQ [13, 14, 15, 16, 17, 18, 19, 20, 21, 22, 23, 24, 25, 26, 27, 28, 29, 30, 31, 32, 33, 34, 35, 36, 37, 38, 39, 40, 41, 42, 43, 44, 45, 46, 47, 48, 49, 50, 51, 52, 53, 54, 55, 56, 57, 58, 59, 60, 61, 62, 63, 64, 65, 66, 67, 68, 69, 70, 71] (fun (g : Unit) => [(71, .bool g1175)]) (fun g wl => Hd O w wl S [.fz (.sl rCond v1 p0.Kids), .blk b4 [.int .i64 p0.Kind, .string (bs p0.Name), .string (bs p0.Other), .int .i64 p0.Op, .int .i64 p0.N, .int .i64 p0.Frames, v1] 54, .blk b14 [.bool x9.name, .bool x9.other, .bool x9.op, .bool x9.n, .bool x9.frames, .int .i64 x9.least, .int .i64 x9.most] 211]) ?_ ?_
 ·skip
  refine zC ?_
  refine zA rfl rfl (fa211_0 rfl) ?_
  refine zA rfl rfl (zL one4 rfl (Cells.get (Blk.cells (H.item (i := 2) rfl)) (i := 0) rfl)) ?_
  obtain ⟨x1178, e1179, hF⟩ := zF hF
  refine zA rfl rfl (zM (yS (p := x9.name) rfl) (congrArg Value.bool e1179)) ?_
  refine yE (b := x1178) rfl rfl rfl (fun c1180 => ?_) (fun c1180 => ?_)
  ·have hF := zV c1180 hF
   refine zA rfl rfl (fa54_1 rfl) ?_
   refine zA rfl rfl (zL one9 rfl (Cells.get (Blk.cells (H.item (i := 1) rfl)) (i := 1) rfl)) ?_
   obtain ⟨x1181, e1182, hF⟩ := zF hF
   refine zA rfl rfl (zM (Do_neqs (s1 := p0.Name) (s2 := []) rfl rfl) (congrArg Value.bool e1182)) ?_
   refine zA rfl rfl (zY (v := .bool x1181) rfl rfl) ?_
   refine yE (b := x1181) rfl rfl rfl (fun c1183 => ?_) (fun c1183 => ?_)
   ·have hF := zV c1183 hF
    refine zH rfl rfl ?_
    refine zH rfl rfl ?_
    refine zH rfl rfl ?_
    refine zH rfl rfl ?_
    refine zH rfl rfl ?_
    refine zH rfl rfl ?_
    refine zH rfl rfl ?_
    refine zH rfl rfl ?_
    refine zA rfl rfl (zY (v := .bool true) rfl rfl) ?_
    refine zA rfl rfl (zK (v := .bool true) rfl) ?_
    refine zH rfl rfl ?_
    refine zH rfl rfl ?_
    refine zH rfl rfl ?_
    refine zH rfl rfl ?_
    refine zH rfl rfl ?_
    refine zH rfl rfl ?_
    refine zH rfl rfl ?_
    refine zH rfl rfl ?_
    refine zA rfl rfl (zY (v := .bool true) rfl rfl) ?_
    refine zA rfl rfl (zK (v := .bool true) rfl) ?_
    refine zH rfl rfl ?_
    refine zH rfl rfl ?_
    refine zH rfl rfl ?_
    refine zH rfl rfl ?_
    refine zH rfl rfl ?_
    refine zH rfl rfl ?_
    refine zH rfl rfl ?_
    refine zH rfl rfl ?_
    refine zA rfl rfl (zY (v := .bool true) rfl rfl) ?_
    refine zA rfl rfl (zK (v := .bool true) rfl) ?_
    refine zH rfl rfl ?_
    refine zH rfl rfl ?_
    refine zH rfl rfl ?_
    refine zH rfl rfl ?_
    refine zH rfl rfl ?_
    refine zH rfl rfl ?_
    refine zH rfl rfl ?_
    refine zH rfl rfl ?_
    refine zA rfl rfl (zY (v := .bool true) rfl rfl) ?_
    refine zA rfl rfl (zK (v := .bool true) rfl) ?_
    refine zH rfl rfl ?_
    refine zH rfl rfl ?_
    refine zH rfl rfl ?_
    refine zH rfl rfl ?_
    refine zH rfl rfl ?_
    refine zH rfl rfl ?_
    refine zH rfl rfl ?_
    refine zH rfl rfl ?_
    refine zH rfl rfl ?_
    refine zA rfl rfl (zY (v := .bool true) rfl rfl) ?_
    have hR := Option.some.inj hF
    subst hR
    refine (zJ (zB (And.intro ?_ ?_)))
    ·repeat' (first | with_reducible exact zS | refine zZ rfl ?_ | refine zT rfl rfl ?_)
    exact ⟨(), (zQ rfl zU), H.pick [0, 1, 2] (by decide)⟩
   have hF := zW c1183 hF
   refine zA rfl rfl (fa211_1 rfl) ?_
   refine zA rfl rfl (zL one4 rfl (Cells.get (Blk.cells (H.item (i := 2) rfl)) (i := 1) rfl)) ?_
   obtain ⟨x1184, e1185, hF⟩ := zF hF
   refine zA rfl rfl (zM (yS (p := x9.other) rfl) (congrArg Value.bool e1185)) ?_
   refine yE (b := x1184) rfl rfl rfl (fun c1186 => ?_) (fun c1186 => ?_)
   ·have hF := zV c1186 hF
    refine zA rfl rfl (fa54_2 rfl) ?_
    refine zA rfl rfl (zL one9 rfl (Cells.get (Blk.cells (H.item (i := 1) rfl)) (i := 2) rfl)) ?_
    obtain ⟨x1187, e1188, hF⟩ := zF hF
    refine zA rfl rfl (zM (Do_neqs (s1 := p0.Other) (s2 := []) rfl rfl) (congrArg Value.bool e1188)) ?_
    refine zA rfl rfl (zY (v := .bool x1187) rfl rfl) ?_
    refine zA rfl rfl (zN (v := .bool x1187) rfl rfl) ?_
    refine yE (b := x1187) rfl rfl rfl (fun c1189 => ?_) (fun c1189 => ?_)
    ·have hF := zV c1189 hF
     refine zH rfl rfl ?_
     refine zH rfl rfl ?_
     refine zH rfl rfl ?_
     refine zH rfl rfl ?_
     refine zH rfl rfl ?_
     refine zH rfl rfl ?_
     refine zH rfl rfl ?_
     refine zH rfl rfl ?_
     refine zA rfl rfl (zY (v := .bool true) rfl rfl) ?_
     refine zA rfl rfl (zK (v := .bool true) rfl) ?_
     refine zH rfl rfl ?_
     refine zH rfl rfl ?_
     refine zH rfl rfl ?_
     refine zH rfl rfl ?_
     refine zH rfl rfl ?_
     refine zH rfl rfl ?_
     refine zH rfl rfl ?_
     refine zH rfl rfl ?_
     refine zA rfl rfl (zY (v := .bool true) rfl rfl) ?_
     refine zA rfl rfl (zK (v := .bool true) rfl) ?_
     refine zH rfl rfl ?_
     refine zH rfl rfl ?_
     refine zH rfl rfl ?_
     refine zH rfl rfl ?_
     refine zH rfl rfl ?_
     refine zH rfl rfl ?_
     refine zH rfl rfl ?_
     refine zH rfl rfl ?_
     refine zA rfl rfl (zY (v := .bool true) rfl rfl) ?_
     refine zA rfl rfl (zK (v := .bool true) rfl) ?_
     refine zH rfl rfl ?_
     refine zH rfl rfl ?_
     refine zH rfl rfl ?_
     refine zH rfl rfl ?_
     refine zH rfl rfl ?_
     refine zH rfl rfl ?_
     refine zH rfl rfl ?_
     refine zH rfl rfl ?_
     refine zH rfl rfl ?_
     refine zA rfl rfl (zY (v := .bool true) rfl rfl) ?_
     have hR := Option.some.inj hF
     subst hR
     refine (zJ (zB (And.intro ?_ ?_)))
     ·repeat' (first | with_reducible exact zS | refine zZ rfl ?_ | refine zT rfl rfl ?_)
     exact ⟨(), (zQ rfl zU), H.pick [0, 1, 2] (by decide)⟩
    have hF := zW c1189 hF
    refine zA rfl rfl (fa211_2 rfl) ?_
    refine zA rfl rfl (zL one4 rfl (Cells.get (Blk.cells (H.item (i := 2) rfl)) (i := 2) rfl)) ?_
    obtain ⟨x1190, e1191, hF⟩ := zF hF
    refine zA rfl rfl (zM (yS (p := x9.op) rfl) (congrArg Value.bool e1191)) ?_
    refine yE (b := x1190) rfl rfl rfl (fun c1192 => ?_) (fun c1192 => ?_)
    ·have hF := zV c1192 hF
     refine zA rfl rfl (fa54_3 rfl) ?_
     refine zA rfl rfl (zL one3 rfl (Cells.get (Blk.cells (H.item (i := 1) rfl)) (i := 3) rfl)) ?_
     obtain ⟨x1193, e1194, hF⟩ := zF hF
     refine zA rfl rfl (zM (xO (a := p0.Op) (b := 0) rfl rfl) (congrArg Value.bool e1194)) ?_
     refine zA rfl rfl (zY (v := .bool x1193) rfl rfl) ?_
     refine zA rfl rfl (zN (v := .bool x1193) rfl rfl) ?_
     refine yE (b := x1193) rfl rfl rfl (fun c1195 => ?_) (fun c1195 => ?_)
     ·have hF := zV c1195 hF
      refine zH rfl rfl ?_
      refine zH rfl rfl ?_
      refine zH rfl rfl ?_
      refine zH rfl rfl ?_
      refine zH rfl rfl ?_
      refine zH rfl rfl ?_
      refine zH rfl rfl ?_
      refine zH rfl rfl ?_
      refine zA rfl rfl (zY (v := .bool true) rfl rfl) ?_
      refine zA rfl rfl (zK (v := .bool true) rfl) ?_
      refine zH rfl rfl ?_
      refine zH rfl rfl ?_
      refine zH rfl rfl ?_
      refine zH rfl rfl ?_
      refine zH rfl rfl ?_
      refine zH rfl rfl ?_
      refine zH rfl rfl ?_
      refine zH rfl rfl ?_
      refine zA rfl rfl (zY (v := .bool true) rfl rfl) ?_
      refine zA rfl rfl (zK (v := .bool true) rfl) ?_
      refine zH rfl rfl ?_
      refine zH rfl rfl ?_
      refine zH rfl rfl ?_
      refine zH rfl rfl ?_
      refine zH rfl rfl ?_
      refine zH rfl rfl ?_
      refine zH rfl rfl ?_
      refine zH rfl rfl ?_
      refine zH rfl rfl ?_
      refine zA rfl rfl (zY (v := .bool true) rfl rfl) ?_
      have hR := Option.some.inj hF
      subst hR
      refine (zJ (zB (And.intro ?_ ?_)))
      ·repeat' (first | with_reducible exact zS | refine zZ rfl ?_ | refine zT rfl rfl ?_)
      exact ⟨(), (zQ rfl zU), H.pick [0, 1, 2] (by decide)⟩
     have hF := zW c1195 hF
     refine zA rfl rfl (fa211_3 rfl) ?_
     refine zA rfl rfl (zL one4 rfl (Cells.get (Blk.cells (H.item (i := 2) rfl)) (i := 3) rfl)) ?_
     obtain ⟨x1196, e1197, hF⟩ := zF hF
     refine zA rfl rfl (zM (yS (p := x9.n) rfl) (congrArg Value.bool e1197)) ?_
     refine yE (b := x1196) rfl rfl rfl (fun c1198 => ?_) (fun c1198 => ?_)
     ·have hF := zV c1198 hF
      refine zA rfl rfl (fa54_4 rfl) ?_
      refine zA rfl rfl (zL one3 rfl (Cells.get (Blk.cells (H.item (i := 1) rfl)) (i := 4) rfl)) ?_
      obtain ⟨x1199, e1200, hF⟩ := zF hF
      refine zA rfl rfl (zM (xO (a := p0.N) (b := 0) rfl rfl) (congrArg Value.bool e1200)) ?_
      refine zA rfl rfl (zY (v := .bool x1199) rfl rfl) ?_
      refine zA rfl rfl (zN (v := .bool x1199) rfl rfl) ?_
      refine yE (b := x1199) rfl rfl rfl (fun c1201 => ?_) (fun c1201 => ?_)
      ·have hF := zV c1201 hF
       refine zH rfl rfl ?_
       refine zH rfl rfl ?_
       refine zH rfl rfl ?_
       refine zH rfl rfl ?_
       refine zH rfl rfl ?_
       refine zH rfl rfl ?_
       refine zH rfl rfl ?_
       refine zH rfl rfl ?_
       refine zA rfl rfl (zY (v := .bool true) rfl rfl) ?_
       refine zA rfl rfl (zK (v := .bool true) rfl) ?_
       refine zH rfl rfl ?_
       refine zH rfl rfl ?_
       refine zH rfl rfl ?_
       refine zH rfl rfl ?_
       refine zH rfl rfl ?_
       refine zH rfl rfl ?_
       refine zH rfl rfl ?_
       refine zH rfl rfl ?_
       refine zH rfl rfl ?_
       refine zA rfl rfl (zY (v := .bool true) rfl rfl) ?_
       have hR := Option.some.inj hF
       subst hR
       refine (zJ (zB (And.intro ?_ ?_)))
       ·repeat' (first | with_reducible exact zS | refine zZ rfl ?_ | refine zT rfl rfl ?_)
       exact ⟨(), (zQ rfl zU), H.pick [0, 1, 2] (by decide)⟩
      have hF := zW c1201 hF
      refine zA rfl rfl (fa211_4 rfl) ?_
      refine zA rfl rfl (zL one4 rfl (Cells.get (Blk.cells (H.item (i := 2) rfl)) (i := 4) rfl)) ?_
      obtain ⟨x1202, e1203, hF⟩ := zF hF
      refine zA rfl rfl (zM (yS (p := x9.frames) rfl) (congrArg Value.bool e1203)) ?_
      refine yE (b := x1202) rfl rfl rfl (fun c1204 => ?_) (fun c1204 => ?_)
      ·have hF := zV c1204 hF
       refine zA rfl rfl (fa54_5 rfl) ?_
       refine zA rfl rfl (zL one3 rfl (Cells.get (Blk.cells (H.item (i := 1) rfl)) (i := 5) rfl)) ?_
       obtain ⟨x1205, e1206, hF⟩ := zF hF
       refine zA rfl rfl (zM (xO (a := p0.Frames) (b := 0) rfl rfl) (congrArg Value.bool e1206)) ?_
       refine zA rfl rfl (zY (v := .bool x1205) rfl rfl) ?_
       refine zA rfl rfl (zN (v := .bool x1205) rfl rfl) ?_
       refine yE (b := x1205) rfl rfl rfl (fun c1207 => ?_) (fun c1207 => ?_)
       ·have hF := zV c1207 hF
        refine zH rfl rfl ?_
        refine zH rfl rfl ?_
        refine zH rfl rfl ?_
        refine zH rfl rfl ?_
        refine zH rfl rfl ?_
        refine zH rfl rfl ?_
        refine zH rfl rfl ?_
        refine zH rfl rfl ?_
        refine zH rfl rfl ?_
        refine zA rfl rfl (zY (v := .bool true) rfl rfl) ?_
        have hR := Option.some.inj hF
        subst hR
        refine (zJ (zB (And.intro ?_ ?_)))
        ·repeat' (first | with_reducible exact zS | refine zZ rfl ?_ | refine zT rfl rfl ?_)
        exact ⟨(), (zQ rfl zU), H.pick [0, 1, 2] (by decide)⟩
       have hF := zW c1207 hF
       refine zA rfl rfl (wB rfl) ?_
       refine zA rfl rfl (zL one52 rfl (Cells.get (Blk.cells (H.item (i := 1) rfl)) (i := 6) rfl)) ?_
       obtain ⟨x1208, e1209, hF⟩ := zF hF
       obtain ⟨a1210, c1211, q1212⟩ := SlF.len ((H.item (i := 0) rfl))
       refine zA rfl rfl (zM (xA u52 q1212) (congrArg (Value.int .i64) e1209)) ?_
       refine zA rfl rfl (wI rfl) ?_
       refine zA rfl rfl (zL one3 rfl (Cells.get (Blk.cells (H.item (i := 2) rfl)) (i := 5) rfl)) ?_
       refine zA rfl rfl (wG rfl) ?_
       refine zA rfl rfl (zL one3 rfl (Cells.get (Blk.cells (H.item (i := 2) rfl)) (i := 6) rfl)) ?_
       have H1213 := H
       obtain ⟨x1214, e1215, hF⟩ := zI hF
       refine yA rfl rfl (zX en60 rfl) (F_event_within_w x1208 x9.least x9.most _ e1215 _ _ _ (H.enter [] [] (by decide) rfl)) ?_
       rintro _ w1216 ⟨rfl, G1217⟩
       have H := H1213.step (G1217.only : Only [] _ _)
       refine ⟨_, rfl, ?_⟩
       obtain ⟨x1218, e1219, hF⟩ := zF hF
       refine zA rfl rfl (zM (yS (p := x1214) rfl) (congrArg Value.bool e1219)) ?_
       refine zA rfl rfl (zN (v := .bool x1218) rfl rfl) ?_
       have hR := Option.some.inj hF
       subst hR
       refine (zJ (zB (And.intro ?_ ?_)))
       ·repeat' (first | with_reducible exact zS | refine zZ rfl ?_ | refine zT rfl rfl ?_)
       exact ⟨(), (zQ rfl zU), H.pick [0, 1, 2] (by decide)⟩
      have hF := zW c1204 hF
      refine zH rfl rfl ?_
      refine zH rfl rfl ?_
      refine zH rfl rfl ?_
      refine zA rfl rfl (zN (v := .bool false) rfl rfl) ?_
      refine zA rfl rfl (zN (v := .bool false) rfl rfl) ?_
      refine zA rfl rfl (zK (v := .bool false) rfl) ?_
      refine zA rfl rfl (wB rfl) ?_
      refine zA rfl rfl (zL one52 rfl (Cells.get (Blk.cells (H.item (i := 1) rfl)) (i := 6) rfl)) ?_
      obtain ⟨x1220, e1221, hF⟩ := zF hF
      obtain ⟨a1222, c1223, q1224⟩ := SlF.len ((H.item (i := 0) rfl))
      refine zA rfl rfl (zM (xA u52 q1224) (congrArg (Value.int .i64) e1221)) ?_
      refine zA rfl rfl (wI rfl) ?_
      refine zA rfl rfl (zL one3 rfl (Cells.get (Blk.cells (H.item (i := 2) rfl)) (i := 5) rfl)) ?_
      refine zA rfl rfl (wG rfl) ?_
      refine zA rfl rfl (zL one3 rfl (Cells.get (Blk.cells (H.item (i := 2) rfl)) (i := 6) rfl)) ?_
      have H1225 := H
      obtain ⟨x1226, e1227, hF⟩ := zI hF
      refine yA rfl rfl (zX en60 rfl) (F_event_within_w x1220 x9.least x9.most _ e1227 _ _ _ (H.enter [] [] (by decide) rfl)) ?_
      rintro _ w1228 ⟨rfl, G1229⟩
      have H := H1225.step (G1229.only : Only [] _ _)
      refine ⟨_, rfl, ?_⟩
      obtain ⟨x1230, e1231, hF⟩ := zF hF
      refine zA rfl rfl (zM (yS (p := x1226) rfl) (congrArg Value.bool e1231)) ?_
      refine zA rfl rfl (zN (v := .bool x1230) rfl rfl) ?_
      have hR := Option.some.inj hF
      subst hR
      refine (zJ (zB (And.intro ?_ ?_)))
      ·repeat' (first | with_reducible exact zS | refine zZ rfl ?_ | refine zT rfl rfl ?_)
      exact ⟨(), (zQ rfl zU), H.pick [0, 1, 2] (by decide)⟩
     have hF := zW c1198 hF
     refine zH rfl rfl ?_
     refine zH rfl rfl ?_
     refine zH rfl rfl ?_
     refine zA rfl rfl (zN (v := .bool false) rfl rfl) ?_
     refine zA rfl rfl (zN (v := .bool false) rfl rfl) ?_
     refine zA rfl rfl (zK (v := .bool false) rfl) ?_
     refine zA rfl rfl (fa211_4 rfl) ?_
     refine zA rfl rfl (zL one4 rfl (Cells.get (Blk.cells (H.item (i := 2) rfl)) (i := 4) rfl)) ?_
     obtain ⟨x1232, e1233, hF⟩ := zF hF
     refine zA rfl rfl (zM (yS (p := x9.frames) rfl) (congrArg Value.bool e1233)) ?_
     refine yE (b := x1232) rfl rfl rfl (fun c1234 => ?_) (fun c1234 => ?_)
     ·have hF := zV c1234 hF
      refine zA rfl rfl (fa54_5 rfl) ?_
      refine zA rfl rfl (zL one3 rfl (Cells.get (Blk.cells (H.item (i := 1) rfl)) (i := 5) rfl)) ?_
      obtain ⟨x1235, e1236, hF⟩ := zF hF
      refine zA rfl rfl (zM (xO (a := p0.Frames) (b := 0) rfl rfl) (congrArg Value.bool e1236)) ?_
      refine zA rfl rfl (zY (v := .bool x1235) rfl rfl) ?_
      refine zA rfl rfl (zN (v := .bool x1235) rfl rfl) ?_
      refine yE (b := x1235) rfl rfl rfl (fun c1237 => ?_) (fun c1237 => ?_)
      ·have hF := zV c1237 hF
       refine zH rfl rfl ?_
       refine zH rfl rfl ?_
       refine zH rfl rfl ?_
       refine zH rfl rfl ?_
       refine zH rfl rfl ?_
       refine zH rfl rfl ?_
       refine zH rfl rfl ?_
       refine zH rfl rfl ?_
       refine zH rfl rfl ?_
       refine zA rfl rfl (zY (v := .bool true) rfl rfl) ?_
       have hR := Option.some.inj hF
       subst hR
       refine (zJ (zB (And.intro ?_ ?_)))
       ·repeat' (first | with_reducible exact zS | refine zZ rfl ?_ | refine zT rfl rfl ?_)
       exact ⟨(), (zQ rfl zU), H.pick [0, 1, 2] (by decide)⟩
      have hF := zW c1237 hF
      refine zA rfl rfl (wB rfl) ?_
      refine zA rfl rfl (zL one52 rfl (Cells.get (Blk.cells (H.item (i := 1) rfl)) (i := 6) rfl)) ?_
      obtain ⟨x1238, e1239, hF⟩ := zF hF
      obtain ⟨a1240, c1241, q1242⟩ := SlF.len ((H.item (i := 0) rfl))
      refine zA rfl rfl (zM (xA u52 q1242) (congrArg (Value.int .i64) e1239)) ?_
      refine zA rfl rfl (wI rfl) ?_
      refine zA rfl rfl (zL one3 rfl (Cells.get (Blk.cells (H.item (i := 2) rfl)) (i := 5) rfl)) ?_
      refine zA rfl rfl (wG rfl) ?_
      refine zA rfl rfl (zL one3 rfl (Cells.get (Blk.cells (H.item (i := 2) rfl)) (i := 6) rfl)) ?_
      have H1243 := H
      obtain ⟨x1244, e1245, hF⟩ := zI hF
      refine yA rfl rfl (zX en60 rfl) (F_event_within_w x1238 x9.least x9.most _ e1245 _ _ _ (H.enter [] [] (by decide) rfl)) ?_
      rintro _ w1246 ⟨rfl, G1247⟩
      have H := H1243.step (G1247.only : Only [] _ _)
      refine ⟨_, rfl, ?_⟩
      obtain ⟨x1248, e1249, hF⟩ := zF hF
      refine zA rfl rfl (zM (yS (p := x1244) rfl) (congrArg Value.bool e1249)) ?_
      refine zA rfl rfl (zN (v := .bool x1248) rfl rfl) ?_
      have hR := Option.some.inj hF
      subst hR
      refine (zJ (zB (And.intro ?_ ?_)))
      ·repeat' (first | with_reducible exact zS | refine zZ rfl ?_ | refine zT rfl rfl ?_)
      exact ⟨(), (zQ rfl zU), H.pick [0, 1, 2] (by decide)⟩
     have hF := zW c1234 hF
     refine zH rfl rfl ?_
     refine zH rfl rfl ?_
     refine zH rfl rfl ?_
     refine zA rfl rfl (zN (v := .bool false) rfl rfl) ?_
     refine zA rfl rfl (zN (v := .bool false) rfl rfl) ?_
     refine zA rfl rfl (zK (v := .bool false) rfl) ?_
     refine zA rfl rfl (wB rfl) ?_
     refine zA rfl rfl (zL one52 rfl (Cells.get (Blk.cells (H.item (i := 1) rfl)) (i := 6) rfl)) ?_
     obtain ⟨x1250, e1251, hF⟩ := zF hF
     obtain ⟨a1252, c1253, q1254⟩ := SlF.len ((H.item (i := 0) rfl))
     refine zA rfl rfl (zM (xA u52 q1254) (congrArg (Value.int .i64) e1251)) ?_
     refine zA rfl rfl (wI rfl) ?_
     refine zA rfl rfl (zL one3 rfl (Cells.get (Blk.cells (H.item (i := 2) rfl)) (i := 5) rfl)) ?_
     refine zA rfl rfl (wG rfl) ?_
     refine zA rfl rfl (zL one3 rfl (Cells.get (Blk.cells (H.item (i := 2) rfl)) (i := 6) rfl)) ?_
     have H1255 := H
     obtain ⟨x1256, e1257, hF⟩ := zI hF
     refine yA rfl rfl (zX en60 rfl) (F_event_within_w x1250 x9.least x9.most _ e1257 _ _ _ (H.enter [] [] (by decide) rfl)) ?_
     rintro _ w1258 ⟨rfl, G1259⟩
     have H := H1255.step (G1259.only : Only [] _ _)
     refine ⟨_, rfl, ?_⟩
     obtain ⟨x1260, e1261, hF⟩ := zF hF
     refine zA rfl rfl (zM (yS (p := x1256) rfl) (congrArg Value.bool e1261)) ?_
     refine zA rfl rfl (zN (v := .bool x1260) rfl rfl) ?_
     have hR := Option.some.inj hF
     subst hR
     refine (zJ (zB (And.intro ?_ ?_)))
     ·repeat' (first | with_reducible exact zS | refine zZ rfl ?_ | refine zT rfl rfl ?_)
     exact ⟨(), (zQ rfl zU), H.pick [0, 1, 2] (by decide)⟩
    have hF := zW c1192 hF
    refine zH rfl rfl ?_
    refine zH rfl rfl ?_
    refine zH rfl rfl ?_
    refine zA rfl rfl (zN (v := .bool false) rfl rfl) ?_
    refine zA rfl rfl (zN (v := .bool false) rfl rfl) ?_
    refine zA rfl rfl (zK (v := .bool false) rfl) ?_
    refine zA rfl rfl (fa211_3 rfl) ?_
    refine zA rfl rfl (zL one4 rfl (Cells.get (Blk.cells (H.item (i := 2) rfl)) (i := 3) rfl)) ?_
    obtain ⟨x1262, e1263, hF⟩ := zF hF
    refine zA rfl rfl (zM (yS (p := x9.n) rfl) (congrArg Value.bool e1263)) ?_
    refine yE (b := x1262) rfl rfl rfl (fun c1264 => ?_) (fun c1264 => ?_)
    ·have hF := zV c1264 hF
     refine zA rfl rfl (fa54_4 rfl) ?_
     refine zA rfl rfl (zL one3 rfl (Cells.get (Blk.cells (H.item (i := 1) rfl)) (i := 4) rfl)) ?_
     obtain ⟨x1265, e1266, hF⟩ := zF hF
     refine zA rfl rfl (zM (xO (a := p0.N) (b := 0) rfl rfl) (congrArg Value.bool e1266)) ?_
     refine zA rfl rfl (zY (v := .bool x1265) rfl rfl) ?_
     refine zA rfl rfl (zN (v := .bool x1265) rfl rfl) ?_
     refine yE (b := x1265) rfl rfl rfl (fun c1267 => ?_) (fun c1267 => ?_)
     ·have hF := zV c1267 hF
      refine zH rfl rfl ?_
      refine zH rfl rfl ?_
      refine zH rfl rfl ?_
      refine zH rfl rfl ?_
      refine zH rfl rfl ?_
      refine zH rfl rfl ?_
      refine zH rfl rfl ?_
      refine zH rfl rfl ?_
      refine zA rfl rfl (zY (v := .bool true) rfl rfl) ?_
      refine zA rfl rfl (zK (v := .bool true) rfl) ?_
      refine zH rfl rfl ?_
      refine zH rfl rfl ?_
      refine zH rfl rfl ?_
      refine zH rfl rfl ?_
      refine zH rfl rfl ?_
      refine zH rfl rfl ?_
      refine zH rfl rfl ?_
      refine zH rfl rfl ?_
      refine zH rfl rfl ?_
      refine zA rfl rfl (zY (v := .bool true) rfl rfl) ?_
      have hR := Option.some.inj hF
      subst hR
      refine (zJ (zB (And.intro ?_ ?_)))
      ·repeat' (first | with_reducible exact zS | refine zZ rfl ?_ | refine zT rfl rfl ?_)
      exact ⟨(), (zQ rfl zU), H.pick [0, 1, 2] (by decide)⟩
     have hF := zW c1267 hF
     refine zA rfl rfl (fa211_4 rfl) ?_
     refine zA rfl rfl (zL one4 rfl (Cells.get (Blk.cells (H.item (i := 2) rfl)) (i := 4) rfl)) ?_
     obtain ⟨x1268, e1269, hF⟩ := zF hF
     refine zA rfl rfl (zM (yS (p := x9.frames) rfl) (congrArg Value.bool e1269)) ?_
     refine yE (b := x1268) rfl rfl rfl (fun c1270 => ?_) (fun c1270 => ?_)
     ·have hF := zV c1270 hF
      refine zA rfl rfl (fa54_5 rfl) ?_
      refine zA rfl rfl (zL one3 rfl (Cells.get (Blk.cells (H.item (i := 1) rfl)) (i := 5) rfl)) ?_
      obtain ⟨x1271, e1272, hF⟩ := zF hF
      refine zA rfl rfl (zM (xO (a := p0.Frames) (b := 0) rfl rfl) (congrArg Value.bool e1272)) ?_
      refine zA rfl rfl (zY (v := .bool x1271) rfl rfl) ?_
      refine zA rfl rfl (zN (v := .bool x1271) rfl rfl) ?_
      refine yE (b := x1271) rfl rfl rfl (fun c1273 => ?_) (fun c1273 => ?_)
      ·have hF := zV c1273 hF
       refine zH rfl rfl ?_
       refine zH rfl rfl ?_
       refine zH rfl rfl ?_
       refine zH rfl rfl ?_
       refine zH rfl rfl ?_
       refine zH rfl rfl ?_
       refine zH rfl rfl ?_
       refine zH rfl rfl ?_
       refine zH rfl rfl ?_
       refine zA rfl rfl (zY (v := .bool true) rfl rfl) ?_
       have hR := Option.some.inj hF
       subst hR
       refine (zJ (zB (And.intro ?_ ?_)))
       ·repeat' (first | with_reducible exact zS | refine zZ rfl ?_ | refine zT rfl rfl ?_)
       exact ⟨(), (zQ rfl zU), H.pick [0, 1, 2] (by decide)⟩
      have hF := zW c1273 hF
      refine zA rfl rfl (wB rfl) ?_
      refine zA rfl rfl (zL one52 rfl (Cells.get (Blk.cells (H.item (i := 1) rfl)) (i := 6) rfl)) ?_
      obtain ⟨x1274, e1275, hF⟩ := zF hF
      obtain ⟨a1276, c1277, q1278⟩ := SlF.len ((H.item (i := 0) rfl))
      refine zA rfl rfl (zM (xA u52 q1278) (congrArg (Value.int .i64) e1275)) ?_
      refine zA rfl rfl (wI rfl) ?_
      refine zA rfl rfl (zL one3 rfl (Cells.get (Blk.cells (H.item (i := 2) rfl)) (i := 5) rfl)) ?_
      refine zA rfl rfl (wG rfl) ?_
      refine zA rfl rfl (zL one3 rfl (Cells.get (Blk.cells (H.item (i := 2) rfl)) (i := 6) rfl)) ?_
      have H1279 := H
      obtain ⟨x1280, e1281, hF⟩ := zI hF
      refine yA rfl rfl (zX en60 rfl) (F_event_within_w x1274 x9.least x9.most _ e1281 _ _ _ (H.enter [] [] (by decide) rfl)) ?_
      rintro _ w1282 ⟨rfl, G1283⟩
      have H := H1279.step (G1283.only : Only [] _ _)
      refine ⟨_, rfl, ?_⟩
      obtain ⟨x1284, e1285, hF⟩ := zF hF
      refine zA rfl rfl (zM (yS (p := x1280) rfl) (congrArg Value.bool e1285)) ?_
      refine zA rfl rfl (zN (v := .bool x1284) rfl rfl) ?_
      have hR := Option.some.inj hF
      subst hR
      refine (zJ (zB (And.intro ?_ ?_)))
      ·repeat' (first | with_reducible exact zS | refine zZ rfl ?_ | refine zT rfl rfl ?_)
      exact ⟨(), (zQ rfl zU), H.pick [0, 1, 2] (by decide)⟩
     have hF := zW c1270 hF
     refine zH rfl rfl ?_
     refine zH rfl rfl ?_
     refine zH rfl rfl ?_
     refine zA rfl rfl (zN (v := .bool false) rfl rfl) ?_
     refine zA rfl rfl (zN (v := .bool false) rfl rfl) ?_
     refine zA rfl rfl (zK (v := .bool false) rfl) ?_
     refine zA rfl rfl (wB rfl) ?_
     refine zA rfl rfl (zL one52 rfl (Cells.get (Blk.cells (H.item (i := 1) rfl)) (i := 6) rfl)) ?_
     obtain ⟨x1286, e1287, hF⟩ := zF hF
     obtain ⟨a1288, c1289, q1290⟩ := SlF.len ((H.item (i := 0) rfl))
     refine zA rfl rfl (zM (xA u52 q1290) (congrArg (Value.int .i64) e1287)) ?_
     refine zA rfl rfl (wI rfl) ?_
     refine zA rfl rfl (zL one3 rfl (Cells.get (Blk.cells (H.item (i := 2) rfl)) (i := 5) rfl)) ?_
     refine zA rfl rfl (wG rfl) ?_
     refine zA rfl rfl (zL one3 rfl (Cells.get (Blk.cells (H.item (i := 2) rfl)) (i := 6) rfl)) ?_
     have H1291 := H
     obtain ⟨x1292, e1293, hF⟩ := zI hF
     refine yA rfl rfl (zX en60 rfl) (F_event_within_w x1286 x9.least x9.most _ e1293 _ _ _ (H.enter [] [] (by decide) rfl)) ?_
     rintro _ w1294 ⟨rfl, G1295⟩
     have H := H1291.step (G1295.only : Only [] _ _)
     refine ⟨_, rfl, ?_⟩
     obtain ⟨x1296, e1297, hF⟩ := zF hF
     refine zA rfl rfl (zM (yS (p := x1292) rfl) (congrArg Value.bool e1297)) ?_
     refine zA rfl rfl (zN (v := .bool x1296) rfl rfl) ?_
     have hR := Option.some.inj hF
     subst hR
     refine (zJ (zB (And.intro ?_ ?_)))
     ·repeat' (first | with_reducible exact zS | refine zZ rfl ?_ | refine zT rfl rfl ?_)
     exact ⟨(), (zQ rfl zU), H.pick [0, 1, 2] (by decide)⟩
    have hF := zW c1264 hF
    refine zH rfl rfl ?_
    refine zH rfl rfl ?_
    refine zH rfl rfl ?_
    refine zA rfl rfl (zN (v := .bool false) rfl rfl) ?_
    refine zA rfl rfl (zN (v := .bool false) rfl rfl) ?_
    refine zA rfl rfl (zK (v := .bool false) rfl) ?_
    refine zA rfl rfl (fa211_4 rfl) ?_
    refine zA rfl rfl (zL one4 rfl (Cells.get (Blk.cells (H.item (i := 2) rfl)) (i := 4) rfl)) ?_
    obtain ⟨x1298, e1299, hF⟩ := zF hF
    refine zA rfl rfl (zM (yS (p := x9.frames) rfl) (congrArg Value.bool e1299)) ?_
    refine yE (b := x1298) rfl rfl rfl (fun c1300 => ?_) (fun c1300 => ?_)
    ·have hF := zV c1300 hF
     refine zA rfl rfl (fa54_5 rfl) ?_
     refine zA rfl rfl (zL one3 rfl (Cells.get (Blk.cells (H.item (i := 1) rfl)) (i := 5) rfl)) ?_
     obtain ⟨x1301, e1302, hF⟩ := zF hF
     refine zA rfl rfl (zM (xO (a := p0.Frames) (b := 0) rfl rfl) (congrArg Value.bool e1302)) ?_
     refine zA rfl rfl (zY (v := .bool x1301) rfl rfl) ?_
     refine zA rfl rfl (zN (v := .bool x1301) rfl rfl) ?_
     refine yE (b := x1301) rfl rfl rfl (fun c1303 => ?_) (fun c1303 => ?_)
     ·have hF := zV c1303 hF
      refine zH rfl rfl ?_
      refine zH rfl rfl ?_
      refine zH rfl rfl ?_
      refine zH rfl rfl ?_
      refine zH rfl rfl ?_
      refine zH rfl rfl ?_
      refine zH rfl rfl ?_
      refine zH rfl rfl ?_
      refine zH rfl rfl ?_
      refine zA rfl rfl (zY (v := .bool true) rfl rfl) ?_
      have hR := Option.some.inj hF
      subst hR
      refine (zJ (zB (And.intro ?_ ?_)))
      ·repeat' (first | with_reducible exact zS | refine zZ rfl ?_ | refine zT rfl rfl ?_)
      exact ⟨(), (zQ rfl zU), H.pick [0, 1, 2] (by decide)⟩
     have hF := zW c1303 hF
     refine zA rfl rfl (wB rfl) ?_
     refine zA rfl rfl (zL one52 rfl (Cells.get (Blk.cells (H.item (i := 1) rfl)) (i := 6) rfl)) ?_
     obtain ⟨x1304, e1305, hF⟩ := zF hF
     obtain ⟨a1306, c1307, q1308⟩ := SlF.len ((H.item (i := 0) rfl))
     refine zA rfl rfl (zM (xA u52 q1308) (congrArg (Value.int .i64) e1305)) ?_
     refine zA rfl rfl (wI rfl) ?_
     refine zA rfl rfl (zL one3 rfl (Cells.get (Blk.cells (H.item (i := 2) rfl)) (i := 5) rfl)) ?_
     refine zA rfl rfl (wG rfl) ?_
     refine zA rfl rfl (zL one3 rfl (Cells.get (Blk.cells (H.item (i := 2) rfl)) (i := 6) rfl)) ?_
     have H1309 := H
     obtain ⟨x1310, e1311, hF⟩ := zI hF
     refine yA rfl rfl (zX en60 rfl) (F_event_within_w x1304 x9.least x9.most _ e1311 _ _ _ (H.enter [] [] (by decide) rfl)) ?_
     rintro _ w1312 ⟨rfl, G1313⟩
     have H := H1309.step (G1313.only : Only [] _ _)
     refine ⟨_, rfl, ?_⟩
     obtain ⟨x1314, e1315, hF⟩ := zF hF
     refine zA rfl rfl (zM (yS (p := x1310) rfl) (congrArg Value.bool e1315)) ?_
     refine zA rfl rfl (zN (v := .bool x1314) rfl rfl) ?_
     have hR := Option.some.inj hF
     subst hR
     refine (zJ (zB (And.intro ?_ ?_)))
     ·repeat' (first | with_reducible exact zS | refine zZ rfl ?_ | refine zT rfl rfl ?_)
     exact ⟨(), (zQ rfl zU), H.pick [0, 1, 2] (by decide)⟩
    have hF := zW c1300 hF
    refine zH rfl rfl ?_
    refine zH rfl rfl ?_
    refine zH rfl rfl ?_
    refine zA rfl rfl (zN (v := .bool false) rfl rfl) ?_
    refine zA rfl rfl (zN (v := .bool false) rfl rfl) ?_
    refine zA rfl rfl (zK (v := .bool false) rfl) ?_
    refine zA rfl rfl (wB rfl) ?_
    refine zA rfl rfl (zL one52 rfl (Cells.get (Blk.cells (H.item (i := 1) rfl)) (i := 6) rfl)) ?_
    obtain ⟨x1316, e1317, hF⟩ := zF hF
    obtain ⟨a1318, c1319, q1320⟩ := SlF.len ((H.item (i := 0) rfl))
    refine zA rfl rfl (zM (xA u52 q1320) (congrArg (Value.int .i64) e1317)) ?_
    refine zA rfl rfl (wI rfl) ?_
    refine zA rfl rfl (zL one3 rfl (Cells.get (Blk.cells (H.item (i := 2) rfl)) (i := 5) rfl)) ?_
    refine zA rfl rfl (wG rfl) ?_
    refine zA rfl rfl (zL one3 rfl (Cells.get (Blk.cells (H.item (i := 2) rfl)) (i := 6) rfl)) ?_
    have H1321 := H
    obtain ⟨x1322, e1323, hF⟩ := zI hF
    refine yA rfl rfl (zX en60 rfl) (F_event_within_w x1316 x9.least x9.most _ e1323 _ _ _ (H.enter [] [] (by decide) rfl)) ?_
    rintro _ w1324 ⟨rfl, G1325⟩
    have H := H1321.step (G1325.only : Only [] _ _)
    refine ⟨_, rfl, ?_⟩
    obtain ⟨x1326, e1327, hF⟩ := zF hF
    refine zA rfl rfl (zM (yS (p := x1322) rfl) (congrArg Value.bool e1327)) ?_
    refine zA rfl rfl (zN (v := .bool x1326) rfl rfl) ?_
    have hR := Option.some.inj hF
    subst hR
    refine (zJ (zB (And.intro ?_ ?_)))
    ·repeat' (first | with_reducible exact zS | refine zZ rfl ?_ | refine zT rfl rfl ?_)
    exact ⟨(), (zQ rfl zU), H.pick [0, 1, 2] (by decide)⟩
   have hF := zW c1186 hF
   refine zH rfl rfl ?_
   refine zH rfl rfl ?_
   refine zH rfl rfl ?_
   refine zA rfl rfl (zN (v := .bool false) rfl rfl) ?_
   refine zA rfl rfl (zN (v := .bool false) rfl rfl) ?_
   refine zA rfl rfl (zK (v := .bool false) rfl) ?_
   refine zA rfl rfl (fa211_2 rfl) ?_
   refine zA rfl rfl (zL one4 rfl (Cells.get (Blk.cells (H.item (i := 2) rfl)) (i := 2) rfl)) ?_
   obtain ⟨x1328, e1329, hF⟩ := zF hF
   refine zA rfl rfl (zM (yS (p := x9.op) rfl) (congrArg Value.bool e1329)) ?_
   refine yE (b := x1328) rfl rfl rfl (fun c1330 => ?_) (fun c1330 => ?_)
   ·have hF := zV c1330 hF
    refine zA rfl rfl (fa54_3 rfl) ?_
    refine zA rfl rfl (zL one3 rfl (Cells.get (Blk.cells (H.item (i := 1) rfl)) (i := 3) rfl)) ?_
    obtain ⟨x1331, e1332, hF⟩ := zF hF
    refine zA rfl rfl (zM (xO (a := p0.Op) (b := 0) rfl rfl) (congrArg Value.bool e1332)) ?_
    refine zA rfl rfl (zY (v := .bool x1331) rfl rfl) ?_
    refine zA rfl rfl (zN (v := .bool x1331) rfl rfl) ?_
    refine yE (b := x1331) rfl rfl rfl (fun c1333 => ?_) (fun c1333 => ?_)
    ·have hF := zV c1333 hF
     refine zH rfl rfl ?_
     refine zH rfl rfl ?_
     refine zH rfl rfl ?_
     refine zH rfl rfl ?_
     refine zH rfl rfl ?_
     refine zH rfl rfl ?_
     refine zH rfl rfl ?_
     refine zH rfl rfl ?_
     refine zA rfl rfl (zY (v := .bool true) rfl rfl) ?_
     refine zA rfl rfl (zK (v := .bool true) rfl) ?_
     refine zH rfl rfl ?_
     refine zH rfl rfl ?_
     refine zH rfl rfl ?_
     refine zH rfl rfl ?_
     refine zH rfl rfl ?_
     refine zH rfl rfl ?_
     refine zH rfl rfl ?_
     refine zH rfl rfl ?_
     refine zA rfl rfl (zY (v := .bool true) rfl rfl) ?_
     refine zA rfl rfl (zK (v := .bool true) rfl) ?_
     refine zH rfl rfl ?_
     refine zH rfl rfl ?_
     refine zH rfl rfl ?_
     refine zH rfl rfl ?_
     refine zH rfl rfl ?_
     refine zH rfl rfl ?_
     refine zH rfl rfl ?_
     refine zH rfl rfl ?_
     refine zH rfl rfl ?_
     refine zA rfl rfl (zY (v := .bool true) rfl rfl) ?_
     have hR := Option.some.inj hF
     subst hR
     refine (zJ (zB (And.intro ?_ ?_)))
     ·repeat' (first | with_reducible exact zS | refine zZ rfl ?_ | refine zT rfl rfl ?_)
     exact ⟨(), (zQ rfl zU), H.pick [0, 1, 2] (by decide)⟩
    have hF := zW c1333 hF
    refine zA rfl rfl (fa211_3 rfl) ?_
    refine zA rfl rfl (zL one4 rfl (Cells.get (Blk.cells (H.item (i := 2) rfl)) (i := 3) rfl)) ?_
    obtain ⟨x1334, e1335, hF⟩ := zF hF
    refine zA rfl rfl (zM (yS (p := x9.n) rfl) (congrArg Value.bool e1335)) ?_
    refine yE (b := x1334) rfl rfl rfl (fun c1336 => ?_) (fun c1336 => ?_)
    ·have hF := zV c1336 hF
     refine zA rfl rfl (fa54_4 rfl) ?_
     refine zA rfl rfl (zL one3 rfl (Cells.get (Blk.cells (H.item (i := 1) rfl)) (i := 4) rfl)) ?_
     obtain ⟨x1337, e1338, hF⟩ := zF hF
     refine zA rfl rfl (zM (xO (a := p0.N) (b := 0) rfl rfl) (congrArg Value.bool e1338)) ?_
     refine zA rfl rfl (zY (v := .bool x1337) rfl rfl) ?_
     refine zA rfl rfl (zN (v := .bool x1337) rfl rfl) ?_
     refine yE (b := x1337) rfl rfl rfl (fun c1339 => ?_) (fun c1339 => ?_)
     ·have hF := zV c1339 hF
      refine zH rfl rfl ?_
      refine zH rfl rfl ?_
      refine zH rfl rfl ?_
      refine zH rfl rfl ?_
      refine zH rfl rfl ?_
      refine zH rfl rfl ?_
      refine zH rfl rfl ?_
      refine zH rfl rfl ?_
      refine zA rfl rfl (zY (v := .bool true) rfl rfl) ?_
      refine zA rfl rfl (zK (v := .bool true) rfl) ?_
      refine zH rfl rfl ?_
      refine zH rfl rfl ?_
      refine zH rfl rfl ?_
      refine zH rfl rfl ?_
      refine zH rfl rfl ?_
      refine zH rfl rfl ?_
      refine zH rfl rfl ?_
      refine zH rfl rfl ?_
      refine zH rfl rfl ?_
      refine zA rfl rfl (zY (v := .bool true) rfl rfl) ?_
      have hR := Option.some.inj hF
      subst hR
      refine (zJ (zB (And.intro ?_ ?_)))
      ·repeat' (first | with_reducible exact zS | refine zZ rfl ?_ | refine zT rfl rfl ?_)
      exact ⟨(), (zQ rfl zU), H.pick [0, 1, 2] (by decide)⟩
     have hF := zW c1339 hF
     refine zA rfl rfl (fa211_4 rfl) ?_
     refine zA rfl rfl (zL one4 rfl (Cells.get (Blk.cells (H.item (i := 2) rfl)) (i := 4) rfl)) ?_
     obtain ⟨x1340, e1341, hF⟩ := zF hF
     refine zA rfl rfl (zM (yS (p := x9.frames) rfl) (congrArg Value.bool e1341)) ?_
     refine yE (b := x1340) rfl rfl rfl (fun c1342 => ?_) (fun c1342 => ?_)
     ·have hF := zV c1342 hF
      refine zA rfl rfl (fa54_5 rfl) ?_
      refine zA rfl rfl (zL one3 rfl (Cells.get (Blk.cells (H.item (i := 1) rfl)) (i := 5) rfl)) ?_
      obtain ⟨x1343, e1344, hF⟩ := zF hF
      refine zA rfl rfl (zM (xO (a := p0.Frames) (b := 0) rfl rfl) (congrArg Value.bool e1344)) ?_
      refine zA rfl rfl (zY (v := .bool x1343) rfl rfl) ?_
      refine zA rfl rfl (zN (v := .bool x1343) rfl rfl) ?_
      refine yE (b := x1343) rfl rfl rfl (fun c1345 => ?_) (fun c1345 => ?_)
      ·have hF := zV c1345 hF
       refine zH rfl rfl ?_
       refine zH rfl rfl ?_
       refine zH rfl rfl ?_
       refine zH rfl rfl ?_
       refine zH rfl rfl ?_
       refine zH rfl rfl ?_
       refine zH rfl rfl ?_
       refine zH rfl rfl ?_
       refine zH rfl rfl ?_
       refine zA rfl rfl (zY (v := .bool true) rfl rfl) ?_
       have hR := Option.some.inj hF
       subst hR
       refine (zJ (zB (And.intro ?_ ?_)))
       ·repeat' (first | with_reducible exact zS | refine zZ rfl ?_ | refine zT rfl rfl ?_)
       exact ⟨(), (zQ rfl zU), H.pick [0, 1, 2] (by decide)⟩
      have hF := zW c1345 hF
      refine zA rfl rfl (wB rfl) ?_
      refine zA rfl rfl (zL one52 rfl (Cells.get (Blk.cells (H.item (i := 1) rfl)) (i := 6) rfl)) ?_
      obtain ⟨x1346, e1347, hF⟩ := zF hF
      obtain ⟨a1348, c1349, q1350⟩ := SlF.len ((H.item (i := 0) rfl))
      refine zA rfl rfl (zM (xA u52 q1350) (congrArg (Value.int .i64) e1347)) ?_
      refine zA rfl rfl (wI rfl) ?_
      refine zA rfl rfl (zL one3 rfl (Cells.get (Blk.cells (H.item (i := 2) rfl)) (i := 5) rfl)) ?_
      refine zA rfl rfl (wG rfl) ?_
      refine zA rfl rfl (zL one3 rfl (Cells.get (Blk.cells (H.item (i := 2) rfl)) (i := 6) rfl)) ?_
      have H1351 := H
      obtain ⟨x1352, e1353, hF⟩ := zI hF
      refine yA rfl rfl (zX en60 rfl) (F_event_within_w x1346 x9.least x9.most _ e1353 _ _ _ (H.enter [] [] (by decide) rfl)) ?_
      rintro _ w1354 ⟨rfl, G1355⟩
      have H := H1351.step (G1355.only : Only [] _ _)
      refine ⟨_, rfl, ?_⟩
      obtain ⟨x1356, e1357, hF⟩ := zF hF
      refine zA rfl rfl (zM (yS (p := x1352) rfl) (congrArg Value.bool e1357)) ?_
      refine zA rfl rfl (zN (v := .bool x1356) rfl rfl) ?_
      have hR := Option.some.inj hF
      subst hR
      refine (zJ (zB (And.intro ?_ ?_)))
      ·repeat' (first | with_reducible exact zS | refine zZ rfl ?_ | refine zT rfl rfl ?_)
      exact ⟨(), (zQ rfl zU), H.pick [0, 1, 2] (by decide)⟩
     have hF := zW c1342 hF
     refine zH rfl rfl ?_
     refine zH rfl rfl ?_
     refine zH rfl rfl ?_
     refine zA rfl rfl (zN (v := .bool false) rfl rfl) ?_
     refine zA rfl rfl (zN (v := .bool false) rfl rfl) ?_
     refine zA rfl rfl (zK (v := .bool false) rfl) ?_
     refine zA rfl rfl (wB rfl) ?_
     refine zA rfl rfl (zL one52 rfl (Cells.get (Blk.cells (H.item (i := 1) rfl)) (i := 6) rfl)) ?_
     obtain ⟨x1358, e1359, hF⟩ := zF hF
     obtain ⟨a1360, c1361, q1362⟩ := SlF.len ((H.item (i := 0) rfl))
     refine zA rfl rfl (zM (xA u52 q1362) (congrArg (Value.int .i64) e1359)) ?_
     refine zA rfl rfl (wI rfl) ?_
     refine zA rfl rfl (zL one3 rfl (Cells.get (Blk.cells (H.item (i := 2) rfl)) (i := 5) rfl)) ?_
     refine zA rfl rfl (wG rfl) ?_
     refine zA rfl rfl (zL one3 rfl (Cells.get (Blk.cells (H.item (i := 2) rfl)) (i := 6) rfl)) ?_
     have H1363 := H
     obtain ⟨x1364, e1365, hF⟩ := zI hF
     refine yA rfl rfl (zX en60 rfl) (F_event_within_w x1358 x9.least x9.most _ e1365 _ _ _ (H.enter [] [] (by decide) rfl)) ?_
     rintro _ w1366 ⟨rfl, G1367⟩
     have H := H1363.step (G1367.only : Only [] _ _)
     refine ⟨_, rfl, ?_⟩
     obtain ⟨x1368, e1369, hF⟩ := zF hF
     refine zA rfl rfl (zM (yS (p := x1364) rfl) (congrArg Value.bool e1369)) ?_
     refine zA rfl rfl (zN (v := .bool x1368) rfl rfl) ?_
     have hR := Option.some.inj hF
     subst hR
     refine (zJ (zB (And.intro ?_ ?_)))
     ·repeat' (first | with_reducible exact zS | refine zZ rfl ?_ | refine zT rfl rfl ?_)
     exact ⟨(), (zQ rfl zU), H.pick [0, 1, 2] (by decide)⟩
    have hF := zW c1336 hF
    refine zH rfl rfl ?_
    refine zH rfl rfl ?_
    refine zH rfl rfl ?_
    refine zA rfl rfl (zN (v := .bool false) rfl rfl) ?_
    refine zA rfl rfl (zN (v := .bool false) rfl rfl) ?_
    refine zA rfl rfl (zK (v := .bool false) rfl) ?_
    refine zA rfl rfl (fa211_4 rfl) ?_
    refine zA rfl rfl (zL one4 rfl (Cells.get (Blk.cells (H.item (i := 2) rfl)) (i := 4) rfl)) ?_
    obtain ⟨x1370, e1371, hF⟩ := zF hF
    refine zA rfl rfl (zM (yS (p := x9.frames) rfl) (congrArg Value.bool e1371)) ?_
    refine yE (b := x1370) rfl rfl rfl (fun c1372 => ?_) (fun c1372 => ?_)
    ·have hF := zV c1372 hF
     refine zA rfl rfl (fa54_5 rfl) ?_
     refine zA rfl rfl (zL one3 rfl (Cells.get (Blk.cells (H.item (i := 1) rfl)) (i := 5) rfl)) ?_
     obtain ⟨x1373, e1374, hF⟩ := zF hF
     refine zA rfl rfl (zM (xO (a := p0.Frames) (b := 0) rfl rfl) (congrArg Value.bool e1374)) ?_
     refine zA rfl rfl (zY (v := .bool x1373) rfl rfl) ?_
     refine zA rfl rfl (zN (v := .bool x1373) rfl rfl) ?_
     refine yE (b := x1373) rfl rfl rfl (fun c1375 => ?_) (fun c1375 => ?_)
     ·have hF := zV c1375 hF
      refine zH rfl rfl ?_
      refine zH rfl rfl ?_
      refine zH rfl rfl ?_
      refine zH rfl rfl ?_
      refine zH rfl rfl ?_
      refine zH rfl rfl ?_
      refine zH rfl rfl ?_
      refine zH rfl rfl ?_
      refine zH rfl rfl ?_
      refine zA rfl rfl (zY (v := .bool true) rfl rfl) ?_
      have hR := Option.some.inj hF
      subst hR
      refine (zJ (zB (And.intro ?_ ?_)))
      ·repeat' (first | with_reducible exact zS | refine zZ rfl ?_ | refine zT rfl rfl ?_)
      exact ⟨(), (zQ rfl zU), H.pick [0, 1, 2] (by decide)⟩
     have hF := zW c1375 hF
     refine zA rfl rfl (wB rfl) ?_
     refine zA rfl rfl (zL one52 rfl (Cells.get (Blk.cells (H.item (i := 1) rfl)) (i := 6) rfl)) ?_
     obtain ⟨x1376, e1377, hF⟩ := zF hF
     obtain ⟨a1378, c1379, q1380⟩ := SlF.len ((H.item (i := 0) rfl))
     refine zA rfl rfl (zM (xA u52 q1380) (congrArg (Value.int .i64) e1377)) ?_
     refine zA rfl rfl (wI rfl) ?_
     refine zA rfl rfl (zL one3 rfl (Cells.get (Blk.cells (H.item (i := 2) rfl)) (i := 5) rfl)) ?_
     refine zA rfl rfl (wG rfl) ?_
     refine zA rfl rfl (zL one3 rfl (Cells.get (Blk.cells (H.item (i := 2) rfl)) (i := 6) rfl)) ?_
     have H1381 := H
     obtain ⟨x1382, e1383, hF⟩ := zI hF
     refine yA rfl rfl (zX en60 rfl) (F_event_within_w x1376 x9.least x9.most _ e1383 _ _ _ (H.enter [] [] (by decide) rfl)) ?_
     rintro _ w1384 ⟨rfl, G1385⟩
     have H := H1381.step (G1385.only : Only [] _ _)
     refine ⟨_, rfl, ?_⟩
     obtain ⟨x1386, e1387, hF⟩ := zF hF
     refine zA rfl rfl (zM (yS (p := x1382) rfl) (congrArg Value.bool e1387)) ?_
     refine zA rfl rfl (zN (v := .bool x1386) rfl rfl) ?_
     have hR := Option.some.inj hF
     subst hR
     refine (zJ (zB (And.intro ?_ ?_)))
     ·repeat' (first | with_reducible exact zS | refine zZ rfl ?_ | refine zT rfl rfl ?_)
     exact ⟨(), (zQ rfl zU), H.pick [0, 1, 2] (by decide)⟩
    have hF := zW c1372 hF
    refine zH rfl rfl ?_
    refine zH rfl rfl ?_
    refine zH rfl rfl ?_
    refine zA rfl rfl (zN (v := .bool false) rfl rfl) ?_
    refine zA rfl rfl (zN (v := .bool false) rfl rfl) ?_
    refine zA rfl rfl (zK (v := .bool false) rfl) ?_
    refine zA rfl rfl (wB rfl) ?_
    refine zA rfl rfl (zL one52 rfl (Cells.get (Blk.cells (H.item (i := 1) rfl)) (i := 6) rfl)) ?_
    obtain ⟨x1388, e1389, hF⟩ := zF hF
    obtain ⟨a1390, c1391, q1392⟩ := SlF.len ((H.item (i := 0) rfl))
    refine zA rfl rfl (zM (xA u52 q1392) (congrArg (Value.int .i64) e1389)) ?_
    refine zA rfl rfl (wI rfl) ?_
    refine zA rfl rfl (zL one3 rfl (Cells.get (Blk.cells (H.item (i := 2) rfl)) (i := 5) rfl)) ?_
    refine zA rfl rfl (wG rfl) ?_
    refine zA rfl rfl (zL one3 rfl (Cells.get (Blk.cells (H.item (i := 2) rfl)) (i := 6) rfl)) ?_
    have H1393 := H
    obtain ⟨x1394, e1395, hF⟩ := zI hF
    refine yA rfl rfl (zX en60 rfl) (F_event_within_w x1388 x9.least x9.most _ e1395 _ _ _ (H.enter [] [] (by decide) rfl)) ?_
    rintro _ w1396 ⟨rfl, G1397⟩
    have H := H1393.step (G1397.only : Only [] _ _)
    refine ⟨_, rfl, ?_⟩
    obtain ⟨x1398, e1399, hF⟩ := zF hF
    refine zA rfl rfl (zM (yS (p := x1394) rfl) (congrArg Value.bool e1399)) ?_
    refine zA rfl rfl (zN (v := .bool x1398) rfl rfl) ?_
    have hR := Option.some.inj hF
    subst hR
    refine (zJ (zB (And.intro ?_ ?_)))
    ·repeat' (first | with_reducible exact zS | refine zZ rfl ?_ | refine zT rfl rfl ?_)
    exact ⟨(), (zQ rfl zU), H.pick [0, 1, 2] (by decide)⟩
   have hF := zW c1330 hF
   refine zH rfl rfl ?_
   refine zH rfl rfl ?_
   refine zH rfl rfl ?_
   refine zA rfl rfl (zN (v := .bool false) rfl rfl) ?_
   refine zA rfl rfl (zN (v := .bool false) rfl rfl) ?_
   refine zA rfl rfl (zK (v := .bool false) rfl) ?_
   refine zA rfl rfl (fa211_3 rfl) ?_
   refine zA rfl rfl (zL one4 rfl (Cells.get (Blk.cells (H.item (i := 2) rfl)) (i := 3) rfl)) ?_
   obtain ⟨x1400, e1401, hF⟩ := zF hF
   refine zA rfl rfl (zM (yS (p := x9.n) rfl) (congrArg Value.bool e1401)) ?_
   refine yE (b := x1400) rfl rfl rfl (fun c1402 => ?_) (fun c1402 => ?_)
   ·have hF := zV c1402 hF
    refine zA rfl rfl (fa54_4 rfl) ?_
    refine zA rfl rfl (zL one3 rfl (Cells.get (Blk.cells (H.item (i := 1) rfl)) (i := 4) rfl)) ?_
    obtain ⟨x1403, e1404, hF⟩ := zF hF
    refine zA rfl rfl (zM (xO (a := p0.N) (b := 0) rfl rfl) (congrArg Value.bool e1404)) ?_
    refine zA rfl rfl (zY (v := .bool x1403) rfl rfl) ?_
    refine zA rfl rfl (zN (v := .bool x1403) rfl rfl) ?_
    refine yE (b := x1403) rfl rfl rfl (fun c1405 => ?_) (fun c1405 => ?_)
    ·have hF := zV c1405 hF
     refine zH rfl rfl ?_
     refine zH rfl rfl ?_
     refine zH rfl rfl ?_
     refine zH rfl rfl ?_
     refine zH rfl rfl ?_
     refine zH rfl rfl ?_
     refine zH rfl rfl ?_
     refine zH rfl rfl ?_
     refine zA rfl rfl (zY (v := .bool true) rfl rfl) ?_
     refine zA rfl rfl (zK (v := .bool true) rfl) ?_
     refine zH rfl rfl ?_
     refine zH rfl rfl ?_
     refine zH rfl rfl ?_
     refine zH rfl rfl ?_
     refine zH rfl rfl ?_
     refine zH rfl rfl ?_
     refine zH rfl rfl ?_
     refine zH rfl rfl ?_
     refine zH rfl rfl ?_
     refine zA rfl rfl (zY (v := .bool true) rfl rfl) ?_
     have hR := Option.some.inj hF
     subst hR
     refine (zJ (zB (And.intro ?_ ?_)))
     ·repeat' (first | with_reducible exact zS | refine zZ rfl ?_ | refine zT rfl rfl ?_)
     exact ⟨(), (zQ rfl zU), H.pick [0, 1, 2] (by decide)⟩
    have hF := zW c1405 hF
    refine zA rfl rfl (fa211_4 rfl) ?_
    refine zA rfl rfl (zL one4 rfl (Cells.get (Blk.cells (H.item (i := 2) rfl)) (i := 4) rfl)) ?_
    obtain ⟨x1406, e1407, hF⟩ := zF hF
    refine zA rfl rfl (zM (yS (p := x9.frames) rfl) (congrArg Value.bool e1407)) ?_
    refine yE (b := x1406) rfl rfl rfl (fun c1408 => ?_) (fun c1408 => ?_)
    ·have hF := zV c1408 hF
     refine zA rfl rfl (fa54_5 rfl) ?_
     refine zA rfl rfl (zL one3 rfl (Cells.get (Blk.cells (H.item (i := 1) rfl)) (i := 5) rfl)) ?_
     obtain ⟨x1409, e1410, hF⟩ := zF hF
     refine zA rfl rfl (zM (xO (a := p0.Frames) (b := 0) rfl rfl) (congrArg Value.bool e1410)) ?_
     refine zA rfl rfl (zY (v := .bool x1409) rfl rfl) ?_
     refine zA rfl rfl (zN (v := .bool x1409) rfl rfl) ?_
     refine yE (b := x1409) rfl rfl rfl (fun c1411 => ?_) (fun c1411 => ?_)
     ·have hF := zV c1411 hF
      refine zH rfl rfl ?_
      refine zH rfl rfl ?_
      refine zH rfl rfl ?_
      refine zH rfl rfl ?_
      refine zH rfl rfl ?_
      refine zH rfl rfl ?_
      refine zH rfl rfl ?_
      refine zH rfl rfl ?_
      refine zH rfl rfl ?_
      refine zA rfl rfl (zY (v := .bool true) rfl rfl) ?_
      have hR := Option.some.inj hF
      subst hR
      refine (zJ (zB (And.intro ?_ ?_)))
      ·repeat' (first | with_reducible exact zS | refine zZ rfl ?_ | refine zT rfl rfl ?_)
      exact ⟨(), (zQ rfl zU), H.pick [0, 1, 2] (by decide)⟩
     have hF := zW c1411 hF
     refine zA rfl rfl (wB rfl) ?_
     refine zA rfl rfl (zL one52 rfl (Cells.get (Blk.cells (H.item (i := 1) rfl)) (i := 6) rfl)) ?_
     obtain ⟨x1412, e1413, hF⟩ := zF hF
     obtain ⟨a1414, c1415, q1416⟩ := SlF.len ((H.item (i := 0) rfl))
     refine zA rfl rfl (zM (xA u52 q1416) (congrArg (Value.int .i64) e1413)) ?_
     refine zA rfl rfl (wI rfl) ?_
     refine zA rfl rfl (zL one3 rfl (Cells.get (Blk.cells (H.item (i := 2) rfl)) (i := 5) rfl)) ?_
     refine zA rfl rfl (wG rfl) ?_
     refine zA rfl rfl (zL one3 rfl (Cells.get (Blk.cells (H.item (i := 2) rfl)) (i := 6) rfl)) ?_
     have H1417 := H
     obtain ⟨x1418, e1419, hF⟩ := zI hF
     refine yA rfl rfl (zX en60 rfl) (F_event_within_w x1412 x9.least x9.most _ e1419 _ _ _ (H.enter [] [] (by decide) rfl)) ?_
     rintro _ w1420 ⟨rfl, G1421⟩
     have H := H1417.step (G1421.only : Only [] _ _)
     refine ⟨_, rfl, ?_⟩
     obtain ⟨x1422, e1423, hF⟩ := zF hF
     refine zA rfl rfl (zM (yS (p := x1418) rfl) (congrArg Value.bool e1423)) ?_
     refine zA rfl rfl (zN (v := .bool x1422) rfl rfl) ?_
     have hR := Option.some.inj hF
     subst hR
     refine (zJ (zB (And.intro ?_ ?_)))
     ·repeat' (first | with_reducible exact zS | refine zZ rfl ?_ | refine zT rfl rfl ?_)
     exact ⟨(), (zQ rfl zU), H.pick [0, 1, 2] (by decide)⟩
    have hF := zW c1408 hF
    refine zH rfl rfl ?_
    refine zH rfl rfl ?_
    refine zH rfl rfl ?_
    refine zA rfl rfl (zN (v := .bool false) rfl rfl) ?_
    refine zA rfl rfl (zN (v := .bool false) rfl rfl) ?_
    refine zA rfl rfl (zK (v := .bool false) rfl) ?_
    refine zA rfl rfl (wB rfl) ?_
    refine zA rfl rfl (zL one52 rfl (Cells.get (Blk.cells (H.item (i := 1) rfl)) (i := 6) rfl)) ?_
    obtain ⟨x1424, e1425, hF⟩ := zF hF
    obtain ⟨a1426, c1427, q1428⟩ := SlF.len ((H.item (i := 0) rfl))
    refine zA rfl rfl (zM (xA u52 q1428) (congrArg (Value.int .i64) e1425)) ?_
    refine zA rfl rfl (wI rfl) ?_
    refine zA rfl rfl (zL one3 rfl (Cells.get (Blk.cells (H.item (i := 2) rfl)) (i := 5) rfl)) ?_
    refine zA rfl rfl (wG rfl) ?_
    refine zA rfl rfl (zL one3 rfl (Cells.get (Blk.cells (H.item (i := 2) rfl)) (i := 6) rfl)) ?_
    have H1429 := H
    obtain ⟨x1430, e1431, hF⟩ := zI hF
    refine yA rfl rfl (zX en60 rfl) (F_event_within_w x1424 x9.least x9.most _ e1431 _ _ _ (H.enter [] [] (by decide) rfl)) ?_
    rintro _ w1432 ⟨rfl, G1433⟩
    have H := H1429.step (G1433.only : Only [] _ _)
    refine ⟨_, rfl, ?_⟩
    obtain ⟨x1434, e1435, hF⟩ := zF hF
    refine zA rfl rfl (zM (yS (p := x1430) rfl) (congrArg Value.bool e1435)) ?_
    refine zA rfl rfl (zN (v := .bool x1434) rfl rfl) ?_
    have hR := Option.some.inj hF
    subst hR
    refine (zJ (zB (And.intro ?_ ?_)))
    ·repeat' (first | with_reducible exact zS | refine zZ rfl ?_ | refine zT rfl rfl ?_)
    exact ⟨(), (zQ rfl zU), H.pick [0, 1, 2] (by decide)⟩
   have hF := zW c1402 hF
   refine zH rfl rfl ?_
   refine zH rfl rfl ?_
   refine zH rfl rfl ?_
   refine zA rfl rfl (zN (v := .bool false) rfl rfl) ?_
   refine zA rfl rfl (zN (v := .bool false) rfl rfl) ?_
   refine zA rfl rfl (zK (v := .bool false) rfl) ?_
   refine zA rfl rfl (fa211_4 rfl) ?_
   refine zA rfl rfl (zL one4 rfl (Cells.get (Blk.cells (H.item (i := 2) rfl)) (i := 4) rfl)) ?_
   obtain ⟨x1436, e1437, hF⟩ := zF hF
   refine zA rfl rfl (zM (yS (p := x9.frames) rfl) (congrArg Value.bool e1437)) ?_
   refine yE (b := x1436) rfl rfl rfl (fun c1438 => ?_) (fun c1438 => ?_)
   ·have hF := zV c1438 hF
    refine zA rfl rfl (fa54_5 rfl) ?_
    refine zA rfl rfl (zL one3 rfl (Cells.get (Blk.cells (H.item (i := 1) rfl)) (i := 5) rfl)) ?_
    obtain ⟨x1439, e1440, hF⟩ := zF hF
    refine zA rfl rfl (zM (xO (a := p0.Frames) (b := 0) rfl rfl) (congrArg Value.bool e1440)) ?_
    refine zA rfl rfl (zY (v := .bool x1439) rfl rfl) ?_
    refine zA rfl rfl (zN (v := .bool x1439) rfl rfl) ?_
    refine yE (b := x1439) rfl rfl rfl (fun c1441 => ?_) (fun c1441 => ?_)
    ·have hF := zV c1441 hF
     refine zH rfl rfl ?_
     refine zH rfl rfl ?_
     refine zH rfl rfl ?_
     refine zH rfl rfl ?_
     refine zH rfl rfl ?_
     refine zH rfl rfl ?_
     refine zH rfl rfl ?_
     refine zH rfl rfl ?_
     refine zH rfl rfl ?_
     refine zA rfl rfl (zY (v := .bool true) rfl rfl) ?_
     have hR := Option.some.inj hF
     subst hR
     refine (zJ (zB (And.intro ?_ ?_)))
     ·repeat' (first | with_reducible exact zS | refine zZ rfl ?_ | refine zT rfl rfl ?_)
     exact ⟨(), (zQ rfl zU), H.pick [0, 1, 2] (by decide)⟩
    have hF := zW c1441 hF
    refine zA rfl rfl (wB rfl) ?_
    refine zA rfl rfl (zL one52 rfl (Cells.get (Blk.cells (H.item (i := 1) rfl)) (i := 6) rfl)) ?_
    obtain ⟨x1442, e1443, hF⟩ := zF hF
    obtain ⟨a1444, c1445, q1446⟩ := SlF.len ((H.item (i := 0) rfl))
    refine zA rfl rfl (zM (xA u52 q1446) (congrArg (Value.int .i64) e1443)) ?_
    refine zA rfl rfl (wI rfl) ?_
    refine zA rfl rfl (zL one3 rfl (Cells.get (Blk.cells (H.item (i := 2) rfl)) (i := 5) rfl)) ?_
    refine zA rfl rfl (wG rfl) ?_
    refine zA rfl rfl (zL one3 rfl (Cells.get (Blk.cells (H.item (i := 2) rfl)) (i := 6) rfl)) ?_
    have H1447 := H
    obtain ⟨x1448, e1449, hF⟩ := zI hF
    refine yA rfl rfl (zX en60 rfl) (F_event_within_w x1442 x9.least x9.most _ e1449 _ _ _ (H.enter [] [] (by decide) rfl)) ?_
    rintro _ w1450 ⟨rfl, G1451⟩
    have H := H1447.step (G1451.only : Only [] _ _)
    refine ⟨_, rfl, ?_⟩
    obtain ⟨x1452, e1453, hF⟩ := zF hF
    refine zA rfl rfl (zM (yS (p := x1448) rfl) (congrArg Value.bool e1453)) ?_
    refine zA rfl rfl (zN (v := .bool x1452) rfl rfl) ?_
    have hR := Option.some.inj hF
    subst hR
    refine (zJ (zB (And.intro ?_ ?_)))
    ·repeat' (first | with_reducible exact zS | refine zZ rfl ?_ | refine zT rfl rfl ?_)
    exact ⟨(), (zQ rfl zU), H.pick [0, 1, 2] (by decide)⟩
   have hF := zW c1438 hF
   refine zH rfl rfl ?_
   refine zH rfl rfl ?_
   refine zH rfl rfl ?_
   refine zA rfl rfl (zN (v := .bool false) rfl rfl) ?_
   refine zA rfl rfl (zN (v := .bool false) rfl rfl) ?_
   refine zA rfl rfl (zK (v := .bool false) rfl) ?_
   refine zA rfl rfl (wB rfl) ?_
   refine zA rfl rfl (zL one52 rfl (Cells.get (Blk.cells (H.item (i := 1) rfl)) (i := 6) rfl)) ?_
   obtain ⟨x1454, e1455, hF⟩ := zF hF
   obtain ⟨a1456, c1457, q1458⟩ := SlF.len ((H.item (i := 0) rfl))
   refine zA rfl rfl (zM (xA u52 q1458) (congrArg (Value.int .i64) e1455)) ?_
   refine zA rfl rfl (wI rfl) ?_
   refine zA rfl rfl (zL one3 rfl (Cells.get (Blk.cells (H.item (i := 2) rfl)) (i := 5) rfl)) ?_
   refine zA rfl rfl (wG rfl) ?_
   refine zA rfl rfl (zL one3 rfl (Cells.get (Blk.cells (H.item (i := 2) rfl)) (i := 6) rfl)) ?_
   have H1459 := H
   obtain ⟨x1460, e1461, hF⟩ := zI hF
   refine yA rfl rfl (zX en60 rfl) (F_event_within_w x1454 x9.least x9.most _ e1461 _ _ _ (H.enter [] [] (by decide) rfl)) ?_
   rintro _ w1462 ⟨rfl, G1463⟩
   have H := H1459.step (G1463.only : Only [] _ _)
   refine ⟨_, rfl, ?_⟩
   obtain ⟨x1464, e1465, hF⟩ := zF hF
   refine zA rfl rfl (zM (yS (p := x1460) rfl) (congrArg Value.bool e1465)) ?_
   refine zA rfl rfl (zN (v := .bool x1464) rfl rfl) ?_
   have hR := Option.some.inj hF
   subst hR
   refine (zJ (zB (And.intro ?_ ?_)))
   ·repeat' (first | with_reducible exact zS | refine zZ rfl ?_ | refine zT rfl rfl ?_)
   exact ⟨(), (zQ rfl zU), H.pick [0, 1, 2] (by decide)⟩
  have hF := zW c1180 hF
  refine zH rfl rfl ?_
  refine zH rfl rfl ?_
  refine zH rfl rfl ?_
  refine zA rfl rfl (zN (v := .bool false) rfl rfl) ?_
  refine zA rfl rfl (zK (v := .bool false) rfl) ?_
  refine zA rfl rfl (fa211_1 rfl) ?_
  refine zA rfl rfl (zL one4 rfl (Cells.get (Blk.cells (H.item (i := 2) rfl)) (i := 1) rfl)) ?_
  obtain ⟨x1466, e1467, hF⟩ := zF hF
  refine zA rfl rfl (zM (yS (p := x9.other) rfl) (congrArg Value.bool e1467)) ?_
  refine yE (b := x1466) rfl rfl rfl (fun c1468 => ?_) (fun c1468 => ?_)
  ·have hF := zV c1468 hF
   refine zA rfl rfl (fa54_2 rfl) ?_
   refine zA rfl rfl (zL one9 rfl (Cells.get (Blk.cells (H.item (i := 1) rfl)) (i := 2) rfl)) ?_
   obtain ⟨x1469, e1470, hF⟩ := zF hF
   refine zA rfl rfl (zM (Do_neqs (s1 := p0.Other) (s2 := []) rfl rfl) (congrArg Value.bool e1470)) ?_
   refine zA rfl rfl (zY (v := .bool x1469) rfl rfl) ?_
   refine zA rfl rfl (zN (v := .bool x1469) rfl rfl) ?_
   refine yE (b := x1469) rfl rfl rfl (fun c1471 => ?_) (fun c1471 => ?_)
   ·have hF := zV c1471 hF
    refine zH rfl rfl ?_
    refine zH rfl rfl ?_
    refine zH rfl rfl ?_
    refine zH rfl rfl ?_
    refine zH rfl rfl ?_
    refine zH rfl rfl ?_
    refine zH rfl rfl ?_
    refine zH rfl rfl ?_
    refine zA rfl rfl (zY (v := .bool true) rfl rfl) ?_
    refine zA rfl rfl (zK (v := .bool true) rfl) ?_
    refine zH rfl rfl ?_
    refine zH rfl rfl ?_
    refine zH rfl rfl ?_
    refine zH rfl rfl ?_
    refine zH rfl rfl ?_
    refine zH rfl rfl ?_
    refine zH rfl rfl ?_
    refine zH rfl rfl ?_
    refine zA rfl rfl (zY (v := .bool true) rfl rfl) ?_
    refine zA rfl rfl (zK (v := .bool true) rfl) ?_
    refine zH rfl rfl ?_
    refine zH rfl rfl ?_
    refine zH rfl rfl ?_
    refine zH rfl rfl ?_
    refine zH rfl rfl ?_
    refine zH rfl rfl ?_
    refine zH rfl rfl ?_
    refine zH rfl rfl ?_
    refine zA rfl rfl (zY (v := .bool true) rfl rfl) ?_
    refine zA rfl rfl (zK (v := .bool true) rfl) ?_
    refine zH rfl rfl ?_
    refine zH rfl rfl ?_
    refine zH rfl rfl ?_
    refine zH rfl rfl ?_
    refine zH rfl rfl ?_
    refine zH rfl rfl ?_
    refine zH rfl rfl ?_
    refine zH rfl rfl ?_
    refine zH rfl rfl ?_
    refine zA rfl rfl (zY (v := .bool true) rfl rfl) ?_
    have hR := Option.some.inj hF
    subst hR
    refine (zJ (zB (And.intro ?_ ?_)))
    ·repeat' (first | with_reducible exact zS | refine zZ rfl ?_ | refine zT rfl rfl ?_)
    exact ⟨(), (zQ rfl zU), H.pick [0, 1, 2] (by decide)⟩
   have hF := zW c1471 hF
   refine zA rfl rfl (fa211_2 rfl) ?_
   refine zA rfl rfl (zL one4 rfl (Cells.get (Blk.cells (H.item (i := 2) rfl)) (i := 2) rfl)) ?_
   obtain ⟨x1472, e1473, hF⟩ := zF hF
   refine zA rfl rfl (zM (yS (p := x9.op) rfl) (congrArg Value.bool e1473)) ?_
   refine yE (b := x1472) rfl rfl rfl (fun c1474 => ?_) (fun c1474 => ?_)
   ·have hF := zV c1474 hF
    refine zA rfl rfl (fa54_3 rfl) ?_
    refine zA rfl rfl (zL one3 rfl (Cells.get (Blk.cells (H.item (i := 1) rfl)) (i := 3) rfl)) ?_
    obtain ⟨x1475, e1476, hF⟩ := zF hF
    refine zA rfl rfl (zM (xO (a := p0.Op) (b := 0) rfl rfl) (congrArg Value.bool e1476)) ?_
    refine zA rfl rfl (zY (v := .bool x1475) rfl rfl) ?_
    refine zA rfl rfl (zN (v := .bool x1475) rfl rfl) ?_
    refine yE (b := x1475) rfl rfl rfl (fun c1477 => ?_) (fun c1477 => ?_)
    ·have hF := zV c1477 hF
     refine zH rfl rfl ?_
     refine zH rfl rfl ?_
     refine zH rfl rfl ?_
     refine zH rfl rfl ?_
     refine zH rfl rfl ?_
     refine zH rfl rfl ?_
     refine zH rfl rfl ?_
     refine zH rfl rfl ?_
     refine zA rfl rfl (zY (v := .bool true) rfl rfl) ?_
     refine zA rfl rfl (zK (v := .bool true) rfl) ?_
     refine zH rfl rfl ?_
     refine zH rfl rfl ?_
     refine zH rfl rfl ?_
     refine zH rfl rfl ?_
     refine zH rfl rfl ?_
     refine zH rfl rfl ?_
     refine zH rfl rfl ?_
     refine zH rfl rfl ?_
     refine zA rfl rfl (zY (v := .bool true) rfl rfl) ?_
     refine zA rfl rfl (zK (v := .bool true) rfl) ?_
     refine zH rfl rfl ?_
     refine zH rfl rfl ?_
     refine zH rfl rfl ?_
     refine zH rfl rfl ?_
     refine zH rfl rfl ?_
     refine zH rfl rfl ?_
     refine zH rfl rfl ?_
     refine zH rfl rfl ?_
     refine zH rfl rfl ?_
     refine zA rfl rfl (zY (v := .bool true) rfl rfl) ?_
     have hR := Option.some.inj hF
     subst hR
     refine (zJ (zB (And.intro ?_ ?_)))
     ·repeat' (first | with_reducible exact zS | refine zZ rfl ?_ | refine zT rfl rfl ?_)
     exact ⟨(), (zQ rfl zU), H.pick [0, 1, 2] (by decide)⟩
    have hF := zW c1477 hF
    refine zA rfl rfl (fa211_3 rfl) ?_
    refine zA rfl rfl (zL one4 rfl (Cells.get (Blk.cells (H.item (i := 2) rfl)) (i := 3) rfl)) ?_
    obtain ⟨x1478, e1479, hF⟩ := zF hF
    refine zA rfl rfl (zM (yS (p := x9.n) rfl) (congrArg Value.bool e1479)) ?_
    refine yE (b := x1478) rfl rfl rfl (fun c1480 => ?_) (fun c1480 => ?_)
    ·have hF := zV c1480 hF
     refine zA rfl rfl (fa54_4 rfl) ?_
     refine zA rfl rfl (zL one3 rfl (Cells.get (Blk.cells (H.item (i := 1) rfl)) (i := 4) rfl)) ?_
     obtain ⟨x1481, e1482, hF⟩ := zF hF
     refine zA rfl rfl (zM (xO (a := p0.N) (b := 0) rfl rfl) (congrArg Value.bool e1482)) ?_
     refine zA rfl rfl (zY (v := .bool x1481) rfl rfl) ?_
     refine zA rfl rfl (zN (v := .bool x1481) rfl rfl) ?_
     refine yE (b := x1481) rfl rfl rfl (fun c1483 => ?_) (fun c1483 => ?_)
     ·have hF := zV c1483 hF
      refine zH rfl rfl ?_
      refine zH rfl rfl ?_
      refine zH rfl rfl ?_
      refine zH rfl rfl ?_
      refine zH rfl rfl ?_
      refine zH rfl rfl ?_
      refine zH rfl rfl ?_
      refine zH rfl rfl ?_
      refine zA rfl rfl (zY (v := .bool true) rfl rfl) ?_
      refine zA rfl rfl (zK (v := .bool true) rfl) ?_
      refine zH rfl rfl ?_
      refine zH rfl rfl ?_
      refine zH rfl rfl ?_
      refine zH rfl rfl ?_
      refine zH rfl rfl ?_
      refine zH rfl rfl ?_
      refine zH rfl rfl ?_
      refine zH rfl rfl ?_
      refine zH rfl rfl ?_
      refine zA rfl rfl (zY (v := .bool true) rfl rfl) ?_
      have hR := Option.some.inj hF
      subst hR
      refine (zJ (zB (And.intro ?_ ?_)))
      ·repeat' (first | with_reducible exact zS | refine zZ rfl ?_ | refine zT rfl rfl ?_)
      exact ⟨(), (zQ rfl zU), H.pick [0, 1, 2] (by decide)⟩
     have hF := zW c1483 hF
     refine zA rfl rfl (fa211_4 rfl) ?_
     refine zA rfl rfl (zL one4 rfl (Cells.get (Blk.cells (H.item (i := 2) rfl)) (i := 4) rfl)) ?_
     obtain ⟨x1484, e1485, hF⟩ := zF hF
     refine zA rfl rfl (zM (yS (p := x9.frames) rfl) (congrArg Value.bool e1485)) ?_
     refine yE (b := x1484) rfl rfl rfl (fun c1486 => ?_) (fun c1486 => ?_)
     ·have hF := zV c1486 hF
      refine zA rfl rfl (fa54_5 rfl) ?_
      refine zA rfl rfl (zL one3 rfl (Cells.get (Blk.cells (H.item (i := 1) rfl)) (i := 5) rfl)) ?_
      obtain ⟨x1487, e1488, hF⟩ := zF hF
      refine zA rfl rfl (zM (xO (a := p0.Frames) (b := 0) rfl rfl) (congrArg Value.bool e1488)) ?_
      refine zA rfl rfl (zY (v := .bool x1487) rfl rfl) ?_
      refine zA rfl rfl (zN (v := .bool x1487) rfl rfl) ?_
      refine yE (b := x1487) rfl rfl rfl (fun c1489 => ?_) (fun c1489 => ?_)
      ·have hF := zV c1489 hF
       refine zH rfl rfl ?_
       refine zH rfl rfl ?_
       refine zH rfl rfl ?_
       refine zH rfl rfl ?_
       refine zH rfl rfl ?_
       refine zH rfl rfl ?_
       refine zH rfl rfl ?_
       refine zH rfl rfl ?_
       refine zH rfl rfl ?_
       refine zA rfl rfl (zY (v := .bool true) rfl rfl) ?_
       have hR := Option.some.inj hF
       subst hR
       refine (zJ (zB (And.intro ?_ ?_)))
       ·repeat' (first | with_reducible exact zS | refine zZ rfl ?_ | refine zT rfl rfl ?_)
       exact ⟨(), (zQ rfl zU), H.pick [0, 1, 2] (by decide)⟩
      have hF := zW c1489 hF
      refine zA rfl rfl (wB rfl) ?_
      refine zA rfl rfl (zL one52 rfl (Cells.get (Blk.cells (H.item (i := 1) rfl)) (i := 6) rfl)) ?_
      obtain ⟨x1490, e1491, hF⟩ := zF hF
      obtain ⟨a1492, c1493, q1494⟩ := SlF.len ((H.item (i := 0) rfl))
      refine zA rfl rfl (zM (xA u52 q1494) (congrArg (Value.int .i64) e1491)) ?_
      refine zA rfl rfl (wI rfl) ?_
      refine zA rfl rfl (zL one3 rfl (Cells.get (Blk.cells (H.item (i := 2) rfl)) (i := 5) rfl)) ?_
      refine zA rfl rfl (wG rfl) ?_
      refine zA rfl rfl (zL one3 rfl (Cells.get (Blk.cells (H.item (i := 2) rfl)) (i := 6) rfl)) ?_
      have H1495 := H
      obtain ⟨x1496, e1497, hF⟩ := zI hF
      refine yA rfl rfl (zX en60 rfl) (F_event_within_w x1490 x9.least x9.most _ e1497 _ _ _ (H.enter [] [] (by decide) rfl)) ?_
      rintro _ w1498 ⟨rfl, G1499⟩
      have H := H1495.step (G1499.only : Only [] _ _)
      refine ⟨_, rfl, ?_⟩
      obtain ⟨x1500, e1501, hF⟩ := zF hF
      refine zA rfl rfl (zM (yS (p := x1496) rfl) (congrArg Value.bool e1501)) ?_
      refine zA rfl rfl (zN (v := .bool x1500) rfl rfl) ?_
      have hR := Option.some.inj hF
      subst hR
      refine (zJ (zB (And.intro ?_ ?_)))
      ·repeat' (first | with_reducible exact zS | refine zZ rfl ?_ | refine zT rfl rfl ?_)
      exact ⟨(), (zQ rfl zU), H.pick [0, 1, 2] (by decide)⟩
     have hF := zW c1486 hF
     refine zH rfl rfl ?_
     refine zH rfl rfl ?_
     refine zH rfl rfl ?_
     refine zA rfl rfl (zN (v := .bool false) rfl rfl) ?_
     refine zA rfl rfl (zN (v := .bool false) rfl rfl) ?_
     refine zA rfl rfl (zK (v := .bool false) rfl) ?_
     refine zA rfl rfl (wB rfl) ?_
     refine zA rfl rfl (zL one52 rfl (Cells.get (Blk.cells (H.item (i := 1) rfl)) (i := 6) rfl)) ?_
     obtain ⟨x1502, e1503, hF⟩ := zF hF
     obtain ⟨a1504, c1505, q1506⟩ := SlF.len ((H.item (i := 0) rfl))
     refine zA rfl rfl (zM (xA u52 q1506) (congrArg (Value.int .i64) e1503)) ?_
     refine zA rfl rfl (wI rfl) ?_
     refine zA rfl rfl (zL one3 rfl (Cells.get (Blk.cells (H.item (i := 2) rfl)) (i := 5) rfl)) ?_
     refine zA rfl rfl (wG rfl) ?_
     refine zA rfl rfl (zL one3 rfl (Cells.get (Blk.cells (H.item (i := 2) rfl)) (i := 6) rfl)) ?_
     have H1507 := H
     obtain ⟨x1508, e1509, hF⟩ := zI hF
     refine yA rfl rfl (zX en60 rfl) (F_event_within_w x1502 x9.least x9.most _ e1509 _ _ _ (H.enter [] [] (by decide) rfl)) ?_
     rintro _ w1510 ⟨rfl, G1511⟩
     have H := H1507.step (G1511.only : Only [] _ _)
     refine ⟨_, rfl, ?_⟩
     obtain ⟨x1512, e1513, hF⟩ := zF hF
     refine zA rfl rfl (zM (yS (p := x1508) rfl) (congrArg Value.bool e1513)) ?_
     refine zA rfl rfl (zN (v := .bool x1512) rfl rfl) ?_
     have hR := Option.some.inj hF
     subst hR
     refine (zJ (zB (And.intro ?_ ?_)))
     ·repeat' (first | with_reducible exact zS | refine zZ rfl ?_ | refine zT rfl rfl ?_)
     exact ⟨(), (zQ rfl zU), H.pick [0, 1, 2] (by decide)⟩
    have hF := zW c1480 hF
    refine zH rfl rfl ?_
    refine zH rfl rfl ?_
    refine zH rfl rfl ?_
    refine zA rfl rfl (zN (v := .bool false) rfl rfl) ?_
    refine zA rfl rfl (zN (v := .bool false) rfl rfl) ?_
    refine zA rfl rfl (zK (v := .bool false) rfl) ?_
    refine zA rfl rfl (fa211_4 rfl) ?_
    refine zA rfl rfl (zL one4 rfl (Cells.get (Blk.cells (H.item (i := 2) rfl)) (i := 4) rfl)) ?_
    obtain ⟨x1514, e1515, hF⟩ := zF hF
    refine zA rfl rfl (zM (yS (p := x9.frames) rfl) (congrArg Value.bool e1515)) ?_
    refine yE (b := x1514) rfl rfl rfl (fun c1516 => ?_) (fun c1516 => ?_)
    ·have hF := zV c1516 hF
     refine zA rfl rfl (fa54_5 rfl) ?_
     refine zA rfl rfl (zL one3 rfl (Cells.get (Blk.cells (H.item (i := 1) rfl)) (i := 5) rfl)) ?_
     obtain ⟨x1517, e1518, hF⟩ := zF hF
     refine zA rfl rfl (zM (xO (a := p0.Frames) (b := 0) rfl rfl) (congrArg Value.bool e1518)) ?_
     refine zA rfl rfl (zY (v := .bool x1517) rfl rfl) ?_
     refine zA rfl rfl (zN (v := .bool x1517) rfl rfl) ?_
     refine yE (b := x1517) rfl rfl rfl (fun c1519 => ?_) (fun c1519 => ?_)
     ·have hF := zV c1519 hF
      refine zH rfl rfl ?_
      refine zH rfl rfl ?_
      refine zH rfl rfl ?_
      refine zH rfl rfl ?_
      refine zH rfl rfl ?_
      refine zH rfl rfl ?_
      refine zH rfl rfl ?_
      refine zH rfl rfl ?_
      refine zH rfl rfl ?_
      refine zA rfl rfl (zY (v := .bool true) rfl rfl) ?_
      have hR := Option.some.inj hF
      subst hR
      refine (zJ (zB (And.intro ?_ ?_)))
      ·repeat' (first | with_reducible exact zS | refine zZ rfl ?_ | refine zT rfl rfl ?_)
      exact ⟨(), (zQ rfl zU), H.pick [0, 1, 2] (by decide)⟩
     have hF := zW c1519 hF
     refine zA rfl rfl (wB rfl) ?_
     refine zA rfl rfl (zL one52 rfl (Cells.get (Blk.cells (H.item (i := 1) rfl)) (i := 6) rfl)) ?_
     obtain ⟨x1520, e1521, hF⟩ := zF hF
     obtain ⟨a1522, c1523, q1524⟩ := SlF.len ((H.item (i := 0) rfl))
     refine zA rfl rfl (zM (xA u52 q1524) (congrArg (Value.int .i64) e1521)) ?_
     refine zA rfl rfl (wI rfl) ?_
     refine zA rfl rfl (zL one3 rfl (Cells.get (Blk.cells (H.item (i := 2) rfl)) (i := 5) rfl)) ?_
     refine zA rfl rfl (wG rfl) ?_
     refine zA rfl rfl (zL one3 rfl (Cells.get (Blk.cells (H.item (i := 2) rfl)) (i := 6) rfl)) ?_
     have H1525 := H
     obtain ⟨x1526, e1527, hF⟩ := zI hF
     refine yA rfl rfl (zX en60 rfl) (F_event_within_w x1520 x9.least x9.most _ e1527 _ _ _ (H.enter [] [] (by decide) rfl)) ?_
     rintro _ w1528 ⟨rfl, G1529⟩
     have H := H1525.step (G1529.only : Only [] _ _)
     refine ⟨_, rfl, ?_⟩
     obtain ⟨x1530, e1531, hF⟩ := zF hF
     refine zA rfl rfl (zM (yS (p := x1526) rfl) (congrArg Value.bool e1531)) ?_
     refine zA rfl rfl (zN (v := .bool x1530) rfl rfl) ?_
     have hR := Option.some.inj hF
     subst hR
     refine (zJ (zB (And.intro ?_ ?_)))
     ·repeat' (first | with_reducible exact zS | refine zZ rfl ?_ | refine zT rfl rfl ?_)
     exact ⟨(), (zQ rfl zU), H.pick [0, 1, 2] (by decide)⟩
    have hF := zW c1516 hF
    refine zH rfl rfl ?_
    refine zH rfl rfl ?_
    refine zH rfl rfl ?_
    refine zA rfl rfl (zN (v := .bool false) rfl rfl) ?_
    refine zA rfl rfl (zN (v := .bool false) rfl rfl) ?_
    refine zA rfl rfl (zK (v := .bool false) rfl) ?_
    refine zA rfl rfl (wB rfl) ?_
    refine zA rfl rfl (zL one52 rfl (Cells.get (Blk.cells (H.item (i := 1) rfl)) (i := 6) rfl)) ?_
    obtain ⟨x1532, e1533, hF⟩ := zF hF
    obtain ⟨a1534, c1535, q1536⟩ := SlF.len ((H.item (i := 0) rfl))
    refine zA rfl rfl (zM (xA u52 q1536) (congrArg (Value.int .i64) e1533)) ?_
    refine zA rfl rfl (wI rfl) ?_
    refine zA rfl rfl (zL one3 rfl (Cells.get (Blk.cells (H.item (i := 2) rfl)) (i := 5) rfl)) ?_
    refine zA rfl rfl (wG rfl) ?_
    refine zA rfl rfl (zL one3 rfl (Cells.get (Blk.cells (H.item (i := 2) rfl)) (i := 6) rfl)) ?_
    have H1537 := H
    obtain ⟨x1538, e1539, hF⟩ := zI hF
    refine yA rfl rfl (zX en60 rfl) (F_event_within_w x1532 x9.least x9.most _ e1539 _ _ _ (H.enter [] [] (by decide) rfl)) ?_
    rintro _ w1540 ⟨rfl, G1541⟩
    have H := H1537.step (G1541.only : Only [] _ _)
    refine ⟨_, rfl, ?_⟩
    obtain ⟨x1542, e1543, hF⟩ := zF hF
    refine zA rfl rfl (zM (yS (p := x1538) rfl) (congrArg Value.bool e1543)) ?_
    refine zA rfl rfl (zN (v := .bool x1542) rfl rfl) ?_
    have hR := Option.some.inj hF
    subst hR
    refine (zJ (zB (And.intro ?_ ?_)))
    ·repeat' (first | with_reducible exact zS | refine zZ rfl ?_ | refine zT rfl rfl ?_)
    exact ⟨(), (zQ rfl zU), H.pick [0, 1, 2] (by decide)⟩
   have hF := zW c1474 hF
   refine zH rfl rfl ?_
   refine zH rfl rfl ?_
   refine zH rfl rfl ?_
   refine zA rfl rfl (zN (v := .bool false) rfl rfl) ?_
   refine zA rfl rfl (zN (v := .bool false) rfl rfl) ?_
   refine zA rfl rfl (zK (v := .bool false) rfl) ?_
   refine zA rfl rfl (fa211_3 rfl) ?_
   refine zA rfl rfl (zL one4 rfl (Cells.get (Blk.cells (H.item (i := 2) rfl)) (i := 3) rfl)) ?_
   obtain ⟨x1544, e1545, hF⟩ := zF hF
   refine zA rfl rfl (zM (yS (p := x9.n) rfl) (congrArg Value.bool e1545)) ?_
   refine yE (b := x1544) rfl rfl rfl (fun c1546 => ?_) (fun c1546 => ?_)
   ·have hF := zV c1546 hF
    refine zA rfl rfl (fa54_4 rfl) ?_
    refine zA rfl rfl (zL one3 rfl (Cells.get (Blk.cells (H.item (i := 1) rfl)) (i := 4) rfl)) ?_
    obtain ⟨x1547, e1548, hF⟩ := zF hF
    refine zA rfl rfl (zM (xO (a := p0.N) (b := 0) rfl rfl) (congrArg Value.bool e1548)) ?_
    refine zA rfl rfl (zY (v := .bool x1547) rfl rfl) ?_
    refine zA rfl rfl (zN (v := .bool x1547) rfl rfl) ?_
    refine yE (b := x1547) rfl rfl rfl (fun c1549 => ?_) (fun c1549 => ?_)
    ·have hF := zV c1549 hF
     refine zH rfl rfl ?_
     refine zH rfl rfl ?_
     refine zH rfl rfl ?_
     refine zH rfl rfl ?_
     refine zH rfl rfl ?_
     refine zH rfl rfl ?_
     refine zH rfl rfl ?_
     refine zH rfl rfl ?_
     refine zA rfl rfl (zY (v := .bool true) rfl rfl) ?_
     refine zA rfl rfl (zK (v := .bool true) rfl) ?_
     refine zH rfl rfl ?_
     refine zH rfl rfl ?_
     refine zH rfl rfl ?_
     refine zH rfl rfl ?_
     refine zH rfl rfl ?_
     refine zH rfl rfl ?_
     refine zH rfl rfl ?_
     refine zH rfl rfl ?_
     refine zH rfl rfl ?_
     refine zA rfl rfl (zY (v := .bool true) rfl rfl) ?_
     have hR := Option.some.inj hF
     subst hR
     refine (zJ (zB (And.intro ?_ ?_)))
     ·repeat' (first | with_reducible exact zS | refine zZ rfl ?_ | refine zT rfl rfl ?_)
     exact ⟨(), (zQ rfl zU), H.pick [0, 1, 2] (by decide)⟩
    have hF := zW c1549 hF
    refine zA rfl rfl (fa211_4 rfl) ?_
    refine zA rfl rfl (zL one4 rfl (Cells.get (Blk.cells (H.item (i := 2) rfl)) (i := 4) rfl)) ?_
    obtain ⟨x1550, e1551, hF⟩ := zF hF
    refine zA rfl rfl (zM (yS (p := x9.frames) rfl) (congrArg Value.bool e1551)) ?_
    refine yE (b := x1550) rfl rfl rfl (fun c1552 => ?_) (fun c1552 => ?_)
    ·have hF := zV c1552 hF
     refine zA rfl rfl (fa54_5 rfl) ?_
     refine zA rfl rfl (zL one3 rfl (Cells.get (Blk.cells (H.item (i := 1) rfl)) (i := 5) rfl)) ?_
     obtain ⟨x1553, e1554, hF⟩ := zF hF
     refine zA rfl rfl (zM (xO (a := p0.Frames) (b := 0) rfl rfl) (congrArg Value.bool e1554)) ?_
     refine zA rfl rfl (zY (v := .bool x1553) rfl rfl) ?_
     refine zA rfl rfl (zN (v := .bool x1553) rfl rfl) ?_
     refine yE (b := x1553) rfl rfl rfl (fun c1555 => ?_) (fun c1555 => ?_)
     ·have hF := zV c1555 hF
      refine zH rfl rfl ?_
      refine zH rfl rfl ?_
      refine zH rfl rfl ?_
      refine zH rfl rfl ?_
      refine zH rfl rfl ?_
      refine zH rfl rfl ?_
      refine zH rfl rfl ?_
      refine zH rfl rfl ?_
      refine zH rfl rfl ?_
      refine zA rfl rfl (zY (v := .bool true) rfl rfl) ?_
      have hR := Option.some.inj hF
      subst hR
      refine (zJ (zB (And.intro ?_ ?_)))
      ·repeat' (first | with_reducible exact zS | refine zZ rfl ?_ | refine zT rfl rfl ?_)
      exact ⟨(), (zQ rfl zU), H.pick [0, 1, 2] (by decide)⟩
     have hF := zW c1555 hF
     refine zA rfl rfl (wB rfl) ?_
     refine zA rfl rfl (zL one52 rfl (Cells.get (Blk.cells (H.item (i := 1) rfl)) (i := 6) rfl)) ?_
     obtain ⟨x1556, e1557, hF⟩ := zF hF
     obtain ⟨a1558, c1559, q1560⟩ := SlF.len ((H.item (i := 0) rfl))
     refine zA rfl rfl (zM (xA u52 q1560) (congrArg (Value.int .i64) e1557)) ?_
     refine zA rfl rfl (wI rfl) ?_
     refine zA rfl rfl (zL one3 rfl (Cells.get (Blk.cells (H.item (i := 2) rfl)) (i := 5) rfl)) ?_
     refine zA rfl rfl (wG rfl) ?_
     refine zA rfl rfl (zL one3 rfl (Cells.get (Blk.cells (H.item (i := 2) rfl)) (i := 6) rfl)) ?_
     have H1561 := H
     obtain ⟨x1562, e1563, hF⟩ := zI hF
     refine yA rfl rfl (zX en60 rfl) (F_event_within_w x1556 x9.least x9.most _ e1563 _ _ _ (H.enter [] [] (by decide) rfl)) ?_
     rintro _ w1564 ⟨rfl, G1565⟩
     have H := H1561.step (G1565.only : Only [] _ _)
     refine ⟨_, rfl, ?_⟩
     obtain ⟨x1566, e1567, hF⟩ := zF hF
     refine zA rfl rfl (zM (yS (p := x1562) rfl) (congrArg Value.bool e1567)) ?_
     refine zA rfl rfl (zN (v := .bool x1566) rfl rfl) ?_
     have hR := Option.some.inj hF
     subst hR
     refine (zJ (zB (And.intro ?_ ?_)))
     ·repeat' (first | with_reducible exact zS | refine zZ rfl ?_ | refine zT rfl rfl ?_)
     exact ⟨(), (zQ rfl zU), H.pick [0, 1, 2] (by decide)⟩
    have hF := zW c1552 hF
    refine zH rfl rfl ?_
    refine zH rfl rfl ?_
    refine zH rfl rfl ?_
    refine zA rfl rfl (zN (v := .bool false) rfl rfl) ?_
    refine zA rfl rfl (zN (v := .bool false) rfl rfl) ?_
    refine zA rfl rfl (zK (v := .bool false) rfl) ?_
    refine zA rfl rfl (wB rfl) ?_
    refine zA rfl rfl (zL one52 rfl (Cells.get (Blk.cells (H.item (i := 1) rfl)) (i := 6) rfl)) ?_
    obtain ⟨x1568, e1569, hF⟩ := zF hF
    obtain ⟨a1570, c1571, q1572⟩ := SlF.len ((H.item (i := 0) rfl))
    refine zA rfl rfl (zM (xA u52 q1572) (congrArg (Value.int .i64) e1569)) ?_
    refine zA rfl rfl (wI rfl) ?_
    refine zA rfl rfl (zL one3 rfl (Cells.get (Blk.cells (H.item (i := 2) rfl)) (i := 5) rfl)) ?_
    refine zA rfl rfl (wG rfl) ?_
    refine zA rfl rfl (zL one3 rfl (Cells.get (Blk.cells (H.item (i := 2) rfl)) (i := 6) rfl)) ?_
    have H1573 := H
    obtain ⟨x1574, e1575, hF⟩ := zI hF
    refine yA rfl rfl (zX en60 rfl) (F_event_within_w x1568 x9.least x9.most _ e1575 _ _ _ (H.enter [] [] (by decide) rfl)) ?_
    rintro _ w1576 ⟨rfl, G1577⟩
    have H := H1573.step (G1577.only : Only [] _ _)
    refine ⟨_, rfl, ?_⟩
    obtain ⟨x1578, e1579, hF⟩ := zF hF
    refine zA rfl rfl (zM (yS (p := x1574) rfl) (congrArg Value.bool e1579)) ?_
    refine zA rfl rfl (zN (v := .bool x1578) rfl rfl) ?_
    have hR := Option.some.inj hF
    subst hR
    refine (zJ (zB (And.intro ?_ ?_)))
    ·repeat' (first | with_reducible exact zS | refine zZ rfl ?_ | refine zT rfl rfl ?_)
    exact ⟨(), (zQ rfl zU), H.pick [0, 1, 2] (by decide)⟩
   have hF := zW c1546 hF
   refine zH rfl rfl ?_
   refine zH rfl rfl ?_
   refine zH rfl rfl ?_
   refine zA rfl rfl (zN (v := .bool false) rfl rfl) ?_
   refine zA rfl rfl (zN (v := .bool false) rfl rfl) ?_
   refine zA rfl rfl (zK (v := .bool false) rfl) ?_
   refine zA rfl rfl (fa211_4 rfl) ?_
   refine zA rfl rfl (zL one4 rfl (Cells.get (Blk.cells (H.item (i := 2) rfl)) (i := 4) rfl)) ?_
   obtain ⟨x1580, e1581, hF⟩ := zF hF
   refine zA rfl rfl (zM (yS (p := x9.frames) rfl) (congrArg Value.bool e1581)) ?_
   refine yE (b := x1580) rfl rfl rfl (fun c1582 => ?_) (fun c1582 => ?_)
   ·have hF := zV c1582 hF
    refine zA rfl rfl (fa54_5 rfl) ?_
    refine zA rfl rfl (zL one3 rfl (Cells.get (Blk.cells (H.item (i := 1) rfl)) (i := 5) rfl)) ?_
    obtain ⟨x1583, e1584, hF⟩ := zF hF
    refine zA rfl rfl (zM (xO (a := p0.Frames) (b := 0) rfl rfl) (congrArg Value.bool e1584)) ?_
    refine zA rfl rfl (zY (v := .bool x1583) rfl rfl) ?_
    refine zA rfl rfl (zN (v := .bool x1583) rfl rfl) ?_
    refine yE (b := x1583) rfl rfl rfl (fun c1585 => ?_) (fun c1585 => ?_)
    ·have hF := zV c1585 hF
     refine zH rfl rfl ?_
     refine zH rfl rfl ?_
     refine zH rfl rfl ?_
     refine zH rfl rfl ?_
     refine zH rfl rfl ?_
     refine zH rfl rfl ?_
     refine zH rfl rfl ?_
     refine zH rfl rfl ?_
     refine zH rfl rfl ?_
     refine zA rfl rfl (zY (v := .bool true) rfl rfl) ?_
     have hR := Option.some.inj hF
     subst hR
     refine (zJ (zB (And.intro ?_ ?_)))
     ·repeat' (first | with_reducible exact zS | refine zZ rfl ?_ | refine zT rfl rfl ?_)
     exact ⟨(), (zQ rfl zU), H.pick [0, 1, 2] (by decide)⟩
    have hF := zW c1585 hF
    refine zA rfl rfl (wB rfl) ?_
    refine zA rfl rfl (zL one52 rfl (Cells.get (Blk.cells (H.item (i := 1) rfl)) (i := 6) rfl)) ?_
    obtain ⟨x1586, e1587, hF⟩ := zF hF
    obtain ⟨a1588, c1589, q1590⟩ := SlF.len ((H.item (i := 0) rfl))
    refine zA rfl rfl (zM (xA u52 q1590) (congrArg (Value.int .i64) e1587)) ?_
    refine zA rfl rfl (wI rfl) ?_
    refine zA rfl rfl (zL one3 rfl (Cells.get (Blk.cells (H.item (i := 2) rfl)) (i := 5) rfl)) ?_
    refine zA rfl rfl (wG rfl) ?_
    refine zA rfl rfl (zL one3 rfl (Cells.get (Blk.cells (H.item (i := 2) rfl)) (i := 6) rfl)) ?_
    have H1591 := H
    obtain ⟨x1592, e1593, hF⟩ := zI hF
    refine yA rfl rfl (zX en60 rfl) (F_event_within_w x1586 x9.least x9.most _ e1593 _ _ _ (H.enter [] [] (by decide) rfl)) ?_
    rintro _ w1594 ⟨rfl, G1595⟩
    have H := H1591.step (G1595.only : Only [] _ _)
    refine ⟨_, rfl, ?_⟩
    obtain ⟨x1596, e1597, hF⟩ := zF hF
    refine zA rfl rfl (zM (yS (p := x1592) rfl) (congrArg Value.bool e1597)) ?_
    refine zA rfl rfl (zN (v := .bool x1596) rfl rfl) ?_
    have hR := Option.some.inj hF
    subst hR
    refine (zJ (zB (And.intro ?_ ?_)))
    ·repeat' (first | with_reducible exact zS | refine zZ rfl ?_ | refine zT rfl rfl ?_)
    exact ⟨(), (zQ rfl zU), H.pick [0, 1, 2] (by decide)⟩
   have hF := zW c1582 hF
   refine zH rfl rfl ?_
   refine zH rfl rfl ?_
   refine zH rfl rfl ?_
   refine zA rfl rfl (zN (v := .bool false) rfl rfl) ?_
   refine zA rfl rfl (zN (v := .bool false) rfl rfl) ?_
   refine zA rfl rfl (zK (v := .bool false) rfl) ?_
   refine zA rfl rfl (wB rfl) ?_
   refine zA rfl rfl (zL one52 rfl (Cells.get (Blk.cells (H.item (i := 1) rfl)) (i := 6) rfl)) ?_
   obtain ⟨x1598, e1599, hF⟩ := zF hF
   obtain ⟨a1600, c1601, q1602⟩ := SlF.len ((H.item (i := 0) rfl))
   refine zA rfl rfl (zM (xA u52 q1602) (congrArg (Value.int .i64) e1599)) ?_
   refine zA rfl rfl (wI rfl) ?_
   refine zA rfl rfl (zL one3 rfl (Cells.get (Blk.cells (H.item (i := 2) rfl)) (i := 5) rfl)) ?_
   refine zA rfl rfl (wG rfl) ?_
   refine zA rfl rfl (zL one3 rfl (Cells.get (Blk.cells (H.item (i := 2) rfl)) (i := 6) rfl)) ?_
   have H1603 := H
   obtain ⟨x1604, e1605, hF⟩ := zI hF
   refine yA rfl rfl (zX en60 rfl) (F_event_within_w x1598 x9.least x9.most _ e1605 _ _ _ (H.enter [] [] (by decide) rfl)) ?_
   rintro _ w1606 ⟨rfl, G1607⟩
   have H := H1603.step (G1607.only : Only [] _ _)
   refine ⟨_, rfl, ?_⟩
   obtain ⟨x1608, e1609, hF⟩ := zF hF
   refine zA rfl rfl (zM (yS (p := x1604) rfl) (congrArg Value.bool e1609)) ?_
   refine zA rfl rfl (zN (v := .bool x1608) rfl rfl) ?_
   have hR := Option.some.inj hF
   subst hR
   refine (zJ (zB (And.intro ?_ ?_)))
   ·repeat' (first | with_reducible exact zS | refine zZ rfl ?_ | refine zT rfl rfl ?_)
   exact ⟨(), (zQ rfl zU), H.pick [0, 1, 2] (by decide)⟩
  have hF := zW c1468 hF
  refine zH rfl rfl ?_
  refine zH rfl rfl ?_
  refine zH rfl rfl ?_
  refine zA rfl rfl (zN (v := .bool false) rfl rfl) ?_
  refine zA rfl rfl (zN (v := .bool false) rfl rfl) ?_
  refine zA rfl rfl (zK (v := .bool false) rfl) ?_
  refine zA rfl rfl (fa211_2 rfl) ?_
  refine zA rfl rfl (zL one4 rfl (Cells.get (Blk.cells (H.item (i := 2) rfl)) (i := 2) rfl)) ?_
  obtain ⟨x1610, e1611, hF⟩ := zF hF
  refine zA rfl rfl (zM (yS (p := x9.op) rfl) (congrArg Value.bool e1611)) ?_
  refine yE (b := x1610) rfl rfl rfl (fun c1612 => ?_) (fun c1612 => ?_)
  ·have hF := zV c1612 hF
   refine zA rfl rfl (fa54_3 rfl) ?_
   refine zA rfl rfl (zL one3 rfl (Cells.get (Blk.cells (H.item (i := 1) rfl)) (i := 3) rfl)) ?_
   obtain ⟨x1613, e1614, hF⟩ := zF hF
   refine zA rfl rfl (zM (xO (a := p0.Op) (b := 0) rfl rfl) (congrArg Value.bool e1614)) ?_
   refine zA rfl rfl (zY (v := .bool x1613) rfl rfl) ?_
   refine zA rfl rfl (zN (v := .bool x1613) rfl rfl) ?_
   refine yE (b := x1613) rfl rfl rfl (fun c1615 => ?_) (fun c1615 => ?_)
   ·have hF := zV c1615 hF
    refine zH rfl rfl ?_
    refine zH rfl rfl ?_
    refine zH rfl rfl ?_
    refine zH rfl rfl ?_
    refine zH rfl rfl ?_
    refine zH rfl rfl ?_
    refine zH rfl rfl ?_
    refine zH rfl rfl ?_
    refine zA rfl rfl (zY (v := .bool true) rfl rfl) ?_
    refine zA rfl rfl (zK (v := .bool true) rfl) ?_
    refine zH rfl rfl ?_
    refine zH rfl rfl ?_
    refine zH rfl rfl ?_
    refine zH rfl rfl ?_
    refine zH rfl rfl ?_
    refine zH rfl rfl ?_
    refine zH rfl rfl ?_
    refine zH rfl rfl ?_
    refine zA rfl rfl (zY (v := .bool true) rfl rfl) ?_
    refine zA rfl rfl (zK (v := .bool true) rfl) ?_
    refine zH rfl rfl ?_
    refine zH rfl rfl ?_
    refine zH rfl rfl ?_
    refine zH rfl rfl ?_
    refine zH rfl rfl ?_
    refine zH rfl rfl ?_
    refine zH rfl rfl ?_
    refine zH rfl rfl ?_
    refine zH rfl rfl ?_
    refine zA rfl rfl (zY (v := .bool true) rfl rfl) ?_
    have hR := Option.some.inj hF
    subst hR
    refine (zJ (zB (And.intro ?_ ?_)))
    ·repeat' (first | with_reducible exact zS | refine zZ rfl ?_ | refine zT rfl rfl ?_)
    exact ⟨(), (zQ rfl zU), H.pick [0, 1, 2] (by decide)⟩
   have hF := zW c1615 hF
   refine zA rfl rfl (fa211_3 rfl) ?_
   refine zA rfl rfl (zL one4 rfl (Cells.get (Blk.cells (H.item (i := 2) rfl)) (i := 3) rfl)) ?_
   obtain ⟨x1616, e1617, hF⟩ := zF hF
   refine zA rfl rfl (zM (yS (p := x9.n) rfl) (congrArg Value.bool e1617)) ?_
   refine yE (b := x1616) rfl rfl rfl (fun c1618 => ?_) (fun c1618 => ?_)
   ·have hF := zV c1618 hF
    refine zA rfl rfl (fa54_4 rfl) ?_
    refine zA rfl rfl (zL one3 rfl (Cells.get (Blk.cells (H.item (i := 1) rfl)) (i := 4) rfl)) ?_
    obtain ⟨x1619, e1620, hF⟩ := zF hF
    refine zA rfl rfl (zM (xO (a := p0.N) (b := 0) rfl rfl) (congrArg Value.bool e1620)) ?_
    refine zA rfl rfl (zY (v := .bool x1619) rfl rfl) ?_
    refine zA rfl rfl (zN (v := .bool x1619) rfl rfl) ?_
    refine yE (b := x1619) rfl rfl rfl (fun c1621 => ?_) (fun c1621 => ?_)
    ·have hF := zV c1621 hF
     refine zH rfl rfl ?_
     refine zH rfl rfl ?_
     refine zH rfl rfl ?_
     refine zH rfl rfl ?_
     refine zH rfl rfl ?_
     refine zH rfl rfl ?_
     refine zH rfl rfl ?_
     refine zH rfl rfl ?_
     refine zA rfl rfl (zY (v := .bool true) rfl rfl) ?_
     refine zA rfl rfl (zK (v := .bool true) rfl) ?_
     refine zH rfl rfl ?_
     refine zH rfl rfl ?_
     refine zH rfl rfl ?_
     refine zH rfl rfl ?_
     refine zH rfl rfl ?_
     refine zH rfl rfl ?_
     refine zH rfl rfl ?_
     refine zH rfl rfl ?_
     refine zH rfl rfl ?_
     refine zA rfl rfl (zY (v := .bool true) rfl rfl) ?_
     have hR := Option.some.inj hF
     subst hR
     refine (zJ (zB (And.intro ?_ ?_)))
     ·repeat' (first | with_reducible exact zS | refine zZ rfl ?_ | refine zT rfl rfl ?_)
     exact ⟨(), (zQ rfl zU), H.pick [0, 1, 2] (by decide)⟩
    have hF := zW c1621 hF
    refine zA rfl rfl (fa211_4 rfl) ?_
    refine zA rfl rfl (zL one4 rfl (Cells.get (Blk.cells (H.item (i := 2) rfl)) (i := 4) rfl)) ?_
    obtain ⟨x1622, e1623, hF⟩ := zF hF
    refine zA rfl rfl (zM (yS (p := x9.frames) rfl) (congrArg Value.bool e1623)) ?_
    refine yE (b := x1622) rfl rfl rfl (fun c1624 => ?_) (fun c1624 => ?_)
    ·have hF := zV c1624 hF
     refine zA rfl rfl (fa54_5 rfl) ?_
     refine zA rfl rfl (zL one3 rfl (Cells.get (Blk.cells (H.item (i := 1) rfl)) (i := 5) rfl)) ?_
     obtain ⟨x1625, e1626, hF⟩ := zF hF
     refine zA rfl rfl (zM (xO (a := p0.Frames) (b := 0) rfl rfl) (congrArg Value.bool e1626)) ?_
     refine zA rfl rfl (zY (v := .bool x1625) rfl rfl) ?_
     refine zA rfl rfl (zN (v := .bool x1625) rfl rfl) ?_
     refine yE (b := x1625) rfl rfl rfl (fun c1627 => ?_) (fun c1627 => ?_)
     ·have hF := zV c1627 hF
      refine zH rfl rfl ?_
      refine zH rfl rfl ?_
      refine zH rfl rfl ?_
      refine zH rfl rfl ?_
      refine zH rfl rfl ?_
      refine zH rfl rfl ?_
      refine zH rfl rfl ?_
      refine zH rfl rfl ?_
      refine zH rfl rfl ?_
      refine zA rfl rfl (zY (v := .bool true) rfl rfl) ?_
      have hR := Option.some.inj hF
      subst hR
      refine (zJ (zB (And.intro ?_ ?_)))
      ·repeat' (first | with_reducible exact zS | refine zZ rfl ?_ | refine zT rfl rfl ?_)
      exact ⟨(), (zQ rfl zU), H.pick [0, 1, 2] (by decide)⟩
     have hF := zW c1627 hF
     refine zA rfl rfl (wB rfl) ?_
     refine zA rfl rfl (zL one52 rfl (Cells.get (Blk.cells (H.item (i := 1) rfl)) (i := 6) rfl)) ?_
     obtain ⟨x1628, e1629, hF⟩ := zF hF
     obtain ⟨a1630, c1631, q1632⟩ := SlF.len ((H.item (i := 0) rfl))
     refine zA rfl rfl (zM (xA u52 q1632) (congrArg (Value.int .i64) e1629)) ?_
     refine zA rfl rfl (wI rfl) ?_
     refine zA rfl rfl (zL one3 rfl (Cells.get (Blk.cells (H.item (i := 2) rfl)) (i := 5) rfl)) ?_
     refine zA rfl rfl (wG rfl) ?_
     refine zA rfl rfl (zL one3 rfl (Cells.get (Blk.cells (H.item (i := 2) rfl)) (i := 6) rfl)) ?_
     have H1633 := H
     obtain ⟨x1634, e1635, hF⟩ := zI hF
     refine yA rfl rfl (zX en60 rfl) (F_event_within_w x1628 x9.least x9.most _ e1635 _ _ _ (H.enter [] [] (by decide) rfl)) ?_
     rintro _ w1636 ⟨rfl, G1637⟩
     have H := H1633.step (G1637.only : Only [] _ _)
     refine ⟨_, rfl, ?_⟩
     obtain ⟨x1638, e1639, hF⟩ := zF hF
     refine zA rfl rfl (zM (yS (p := x1634) rfl) (congrArg Value.bool e1639)) ?_
     refine zA rfl rfl (zN (v := .bool x1638) rfl rfl) ?_
     have hR := Option.some.inj hF
     subst hR
     refine (zJ (zB (And.intro ?_ ?_)))
     ·repeat' (first | with_reducible exact zS | refine zZ rfl ?_ | refine zT rfl rfl ?_)
     exact ⟨(), (zQ rfl zU), H.pick [0, 1, 2] (by decide)⟩
    have hF := zW c1624 hF
    refine zH rfl rfl ?_
    refine zH rfl rfl ?_
    refine zH rfl rfl ?_
    refine zA rfl rfl (zN (v := .bool false) rfl rfl) ?_
    refine zA rfl rfl (zN (v := .bool false) rfl rfl) ?_
    refine zA rfl rfl (zK (v := .bool false) rfl) ?_
    refine zA rfl rfl (wB rfl) ?_
    refine zA rfl rfl (zL one52 rfl (Cells.get (Blk.cells (H.item (i := 1) rfl)) (i := 6) rfl)) ?_
    obtain ⟨x1640, e1641, hF⟩ := zF hF
    obtain ⟨a1642, c1643, q1644⟩ := SlF.len ((H.item (i := 0) rfl))
    refine zA rfl rfl (zM (xA u52 q1644) (congrArg (Value.int .i64) e1641)) ?_
    refine zA rfl rfl (wI rfl) ?_
    refine zA rfl rfl (zL one3 rfl (Cells.get (Blk.cells (H.item (i := 2) rfl)) (i := 5) rfl)) ?_
    refine zA rfl rfl (wG rfl) ?_
    refine zA rfl rfl (zL one3 rfl (Cells.get (Blk.cells (H.item (i := 2) rfl)) (i := 6) rfl)) ?_
    have H1645 := H
    obtain ⟨x1646, e1647, hF⟩ := zI hF
    refine yA rfl rfl (zX en60 rfl) (F_event_within_w x1640 x9.least x9.most _ e1647 _ _ _ (H.enter [] [] (by decide) rfl)) ?_
    rintro _ w1648 ⟨rfl, G1649⟩
    have H := H1645.step (G1649.only : Only [] _ _)
    refine ⟨_, rfl, ?_⟩
    obtain ⟨x1650, e1651, hF⟩ := zF hF
    refine zA rfl rfl (zM (yS (p := x1646) rfl) (congrArg Value.bool e1651)) ?_
    refine zA rfl rfl (zN (v := .bool x1650) rfl rfl) ?_
    have hR := Option.some.inj hF
    subst hR
    refine (zJ (zB (And.intro ?_ ?_)))
    ·repeat' (first | with_reducible exact zS | refine zZ rfl ?_ | refine zT rfl rfl ?_)
    exact ⟨(), (zQ rfl zU), H.pick [0, 1, 2] (by decide)⟩
   have hF := zW c1618 hF
   refine zH rfl rfl ?_
   refine zH rfl rfl ?_
   refine zH rfl rfl ?_
   refine zA rfl rfl (zN (v := .bool false) rfl rfl) ?_
   refine zA rfl rfl (zN (v := .bool false) rfl rfl) ?_
   refine zA rfl rfl (zK (v := .bool false) rfl) ?_
   refine zA rfl rfl (fa211_4 rfl) ?_
   refine zA rfl rfl (zL one4 rfl (Cells.get (Blk.cells (H.item (i := 2) rfl)) (i := 4) rfl)) ?_
   obtain ⟨x1652, e1653, hF⟩ := zF hF
   refine zA rfl rfl (zM (yS (p := x9.frames) rfl) (congrArg Value.bool e1653)) ?_
   refine yE (b := x1652) rfl rfl rfl (fun c1654 => ?_) (fun c1654 => ?_)
   ·have hF := zV c1654 hF
    refine zA rfl rfl (fa54_5 rfl) ?_
    refine zA rfl rfl (zL one3 rfl (Cells.get (Blk.cells (H.item (i := 1) rfl)) (i := 5) rfl)) ?_
    obtain ⟨x1655, e1656, hF⟩ := zF hF
    refine zA rfl rfl (zM (xO (a := p0.Frames) (b := 0) rfl rfl) (congrArg Value.bool e1656)) ?_
    refine zA rfl rfl (zY (v := .bool x1655) rfl rfl) ?_
    refine zA rfl rfl (zN (v := .bool x1655) rfl rfl) ?_
    refine yE (b := x1655) rfl rfl rfl (fun c1657 => ?_) (fun c1657 => ?_)
    ·have hF := zV c1657 hF
     refine zH rfl rfl ?_
     refine zH rfl rfl ?_
     refine zH rfl rfl ?_
     refine zH rfl rfl ?_
     refine zH rfl rfl ?_
     refine zH rfl rfl ?_
     refine zH rfl rfl ?_
     refine zH rfl rfl ?_
     refine zH rfl rfl ?_
     refine zA rfl rfl (zY (v := .bool true) rfl rfl) ?_
     have hR := Option.some.inj hF
     subst hR
     refine (zJ (zB (And.intro ?_ ?_)))
     ·repeat' (first | with_reducible exact zS | refine zZ rfl ?_ | refine zT rfl rfl ?_)
     exact ⟨(), (zQ rfl zU), H.pick [0, 1, 2] (by decide)⟩
    have hF := zW c1657 hF
    refine zA rfl rfl (wB rfl) ?_
    refine zA rfl rfl (zL one52 rfl (Cells.get (Blk.cells (H.item (i := 1) rfl)) (i := 6) rfl)) ?_
    obtain ⟨x1658, e1659, hF⟩ := zF hF
    obtain ⟨a1660, c1661, q1662⟩ := SlF.len ((H.item (i := 0) rfl))
    refine zA rfl rfl (zM (xA u52 q1662) (congrArg (Value.int .i64) e1659)) ?_
    refine zA rfl rfl (wI rfl) ?_
    refine zA rfl rfl (zL one3 rfl (Cells.get (Blk.cells (H.item (i := 2) rfl)) (i := 5) rfl)) ?_
    refine zA rfl rfl (wG rfl) ?_
    refine zA rfl rfl (zL one3 rfl (Cells.get (Blk.cells (H.item (i := 2) rfl)) (i := 6) rfl)) ?_
    have H1663 := H
    obtain ⟨x1664, e1665, hF⟩ := zI hF
    refine yA rfl rfl (zX en60 rfl) (F_event_within_w x1658 x9.least x9.most _ e1665 _ _ _ (H.enter [] [] (by decide) rfl)) ?_
    rintro _ w1666 ⟨rfl, G1667⟩
    have H := H1663.step (G1667.only : Only [] _ _)
    refine ⟨_, rfl, ?_⟩
    obtain ⟨x1668, e1669, hF⟩ := zF hF
    refine zA rfl rfl (zM (yS (p := x1664) rfl) (congrArg Value.bool e1669)) ?_
    refine zA rfl rfl (zN (v := .bool x1668) rfl rfl) ?_
    have hR := Option.some.inj hF
    subst hR
    refine (zJ (zB (And.intro ?_ ?_)))
    ·repeat' (first | with_reducible exact zS | refine zZ rfl ?_ | refine zT rfl rfl ?_)
    exact ⟨(), (zQ rfl zU), H.pick [0, 1, 2] (by decide)⟩
   have hF := zW c1654 hF
   refine zH rfl rfl ?_
   refine zH rfl rfl ?_
   refine zH rfl rfl ?_
   refine zA rfl rfl (zN (v := .bool false) rfl rfl) ?_
   refine zA rfl rfl (zN (v := .bool false) rfl rfl) ?_
   refine zA rfl rfl (zK (v := .bool false) rfl) ?_
   refine zA rfl rfl (wB rfl) ?_
   refine zA rfl rfl (zL one52 rfl (Cells.get (Blk.cells (H.item (i := 1) rfl)) (i := 6) rfl)) ?_
   obtain ⟨x1670, e1671, hF⟩ := zF hF
   obtain ⟨a1672, c1673, q1674⟩ := SlF.len ((H.item (i := 0) rfl))
   refine zA rfl rfl (zM (xA u52 q1674) (congrArg (Value.int .i64) e1671)) ?_
   refine zA rfl rfl (wI rfl) ?_
   refine zA rfl rfl (zL one3 rfl (Cells.get (Blk.cells (H.item (i := 2) rfl)) (i := 5) rfl)) ?_
   refine zA rfl rfl (wG rfl) ?_
   refine zA rfl rfl (zL one3 rfl (Cells.get (Blk.cells (H.item (i := 2) rfl)) (i := 6) rfl)) ?_
   have H1675 := H
   obtain ⟨x1676, e1677, hF⟩ := zI hF
   refine yA rfl rfl (zX en60 rfl) (F_event_within_w x1670 x9.least x9.most _ e1677 _ _ _ (H.enter [] [] (by decide) rfl)) ?_
   rintro _ w1678 ⟨rfl, G1679⟩
   have H := H1675.step (G1679.only : Only [] _ _)
   refine ⟨_, rfl, ?_⟩
   obtain ⟨x1680, e1681, hF⟩ := zF hF
   refine zA rfl rfl (zM (yS (p := x1676) rfl) (congrArg Value.bool e1681)) ?_
   refine zA rfl rfl (zN (v := .bool x1680) rfl rfl) ?_
   have hR := Option.some.inj hF
   subst hR
   refine (zJ (zB (And.intro ?_ ?_)))
   ·repeat' (first | with_reducible exact zS | refine zZ rfl ?_ | refine zT rfl rfl ?_)
   exact ⟨(), (zQ rfl zU), H.pick [0, 1, 2] (by decide)⟩
  have hF := zW c1612 hF
  refine zH rfl rfl ?_
  refine zH rfl rfl ?_
  refine zH rfl rfl ?_
  refine zA rfl rfl (zN (v := .bool false) rfl rfl) ?_
  refine zA rfl rfl (zN (v := .bool false) rfl rfl) ?_
  refine zA rfl rfl (zK (v := .bool false) rfl) ?_
  refine zA rfl rfl (fa211_3 rfl) ?_
  refine zA rfl rfl (zL one4 rfl (Cells.get (Blk.cells (H.item (i := 2) rfl)) (i := 3) rfl)) ?_
  obtain ⟨x1682, e1683, hF⟩ := zF hF
  refine zA rfl rfl (zM (yS (p := x9.n) rfl) (congrArg Value.bool e1683)) ?_
  refine yE (b := x1682) rfl rfl rfl (fun c1684 => ?_) (fun c1684 => ?_)
  ·have hF := zV c1684 hF
   refine zA rfl rfl (fa54_4 rfl) ?_
   refine zA rfl rfl (zL one3 rfl (Cells.get (Blk.cells (H.item (i := 1) rfl)) (i := 4) rfl)) ?_
   obtain ⟨x1685, e1686, hF⟩ := zF hF
   refine zA rfl rfl (zM (xO (a := p0.N) (b := 0) rfl rfl) (congrArg Value.bool e1686)) ?_
   refine zA rfl rfl (zY (v := .bool x1685) rfl rfl) ?_
   refine zA rfl rfl (zN (v := .bool x1685) rfl rfl) ?_
   refine yE (b := x1685) rfl rfl rfl (fun c1687 => ?_) (fun c1687 => ?_)
   ·have hF := zV c1687 hF
    refine zH rfl rfl ?_
    refine zH rfl rfl ?_
    refine zH rfl rfl ?_
    refine zH rfl rfl ?_
    refine zH rfl rfl ?_
    refine zH rfl rfl ?_
    refine zH rfl rfl ?_
    refine zH rfl rfl ?_
    refine zA rfl rfl (zY (v := .bool true) rfl rfl) ?_
    refine zA rfl rfl (zK (v := .bool true) rfl) ?_
    refine zH rfl rfl ?_
    refine zH rfl rfl ?_
    refine zH rfl rfl ?_
    refine zH rfl rfl ?_
    refine zH rfl rfl ?_
    refine zH rfl rfl ?_
    refine zH rfl rfl ?_
    refine zH rfl rfl ?_
    refine zH rfl rfl ?_
    refine zA rfl rfl (zY (v := .bool true) rfl rfl) ?_
    have hR := Option.some.inj hF
    subst hR
    refine (zJ (zB (And.intro ?_ ?_)))
    ·repeat' (first | with_reducible exact zS | refine zZ rfl ?_ | refine zT rfl rfl ?_)
    exact ⟨(), (zQ rfl zU), H.pick [0, 1, 2] (by decide)⟩
   have hF := zW c1687 hF
   refine zA rfl rfl (fa211_4 rfl) ?_
   refine zA rfl rfl (zL one4 rfl (Cells.get (Blk.cells (H.item (i := 2) rfl)) (i := 4) rfl)) ?_
   obtain ⟨x1688, e1689, hF⟩ := zF hF
   refine zA rfl rfl (zM (yS (p := x9.frames) rfl) (congrArg Value.bool e1689)) ?_
   refine yE (b := x1688) rfl rfl rfl (fun c1690 => ?_) (fun c1690 => ?_)
   ·have hF := zV c1690 hF
    refine zA rfl rfl (fa54_5 rfl) ?_
    refine zA rfl rfl (zL one3 rfl (Cells.get (Blk.cells (H.item (i := 1) rfl)) (i := 5) rfl)) ?_
    obtain ⟨x1691, e1692, hF⟩ := zF hF
    refine zA rfl rfl (zM (xO (a := p0.Frames) (b := 0) rfl rfl) (congrArg Value.bool e1692)) ?_
    refine zA rfl rfl (zY (v := .bool x1691) rfl rfl) ?_
    refine zA rfl rfl (zN (v := .bool x1691) rfl rfl) ?_
    refine yE (b := x1691) rfl rfl rfl (fun c1693 => ?_) (fun c1693 => ?_)
    ·have hF := zV c1693 hF
     refine zH rfl rfl ?_
     refine zH rfl rfl ?_
     refine zH rfl rfl ?_
     refine zH rfl rfl ?_
     refine zH rfl rfl ?_
     refine zH rfl rfl ?_
     refine zH rfl rfl ?_
     refine zH rfl rfl ?_
     refine zH rfl rfl ?_
     refine zA rfl rfl (zY (v := .bool true) rfl rfl) ?_
     have hR := Option.some.inj hF
     subst hR
     refine (zJ (zB (And.intro ?_ ?_)))
     ·repeat' (first | with_reducible exact zS | refine zZ rfl ?_ | refine zT rfl rfl ?_)
     exact ⟨(), (zQ rfl zU), H.pick [0, 1, 2] (by decide)⟩
    have hF := zW c1693 hF
    refine zA rfl rfl (wB rfl) ?_
    refine zA rfl rfl (zL one52 rfl (Cells.get (Blk.cells (H.item (i := 1) rfl)) (i := 6) rfl)) ?_
    obtain ⟨x1694, e1695, hF⟩ := zF hF
    obtain ⟨a1696, c1697, q1698⟩ := SlF.len ((H.item (i := 0) rfl))
    refine zA rfl rfl (zM (xA u52 q1698) (congrArg (Value.int .i64) e1695)) ?_
    refine zA rfl rfl (wI rfl) ?_
    refine zA rfl rfl (zL one3 rfl (Cells.get (Blk.cells (H.item (i := 2) rfl)) (i := 5) rfl)) ?_
    refine zA rfl rfl (wG rfl) ?_
    refine zA rfl rfl (zL one3 rfl (Cells.get (Blk.cells (H.item (i := 2) rfl)) (i := 6) rfl)) ?_
    have H1699 := H
    obtain ⟨x1700, e1701, hF⟩ := zI hF
    refine yA rfl rfl (zX en60 rfl) (F_event_within_w x1694 x9.least x9.most _ e1701 _ _ _ (H.enter [] [] (by decide) rfl)) ?_
    rintro _ w1702 ⟨rfl, G1703⟩
    have H := H1699.step (G1703.only : Only [] _ _)
    refine ⟨_, rfl, ?_⟩
    obtain ⟨x1704, e1705, hF⟩ := zF hF
    refine zA rfl rfl (zM (yS (p := x1700) rfl) (congrArg Value.bool e1705)) ?_
    refine zA rfl rfl (zN (v := .bool x1704) rfl rfl) ?_
    have hR := Option.some.inj hF
    subst hR
    refine (zJ (zB (And.intro ?_ ?_)))
    ·repeat' (first | with_reducible exact zS | refine zZ rfl ?_ | refine zT rfl rfl ?_)
    exact ⟨(), (zQ rfl zU), H.pick [0, 1, 2] (by decide)⟩
   have hF := zW c1690 hF
   refine zH rfl rfl ?_
   refine zH rfl rfl ?_
   refine zH rfl rfl ?_
   refine zA rfl rfl (zN (v := .bool false) rfl rfl) ?_
   refine zA rfl rfl (zN (v := .bool false) rfl rfl) ?_
   refine zA rfl rfl (zK (v := .bool false) rfl) ?_
   refine zA rfl rfl (wB rfl) ?_
   refine zA rfl rfl (zL one52 rfl (Cells.get (Blk.cells (H.item (i := 1) rfl)) (i := 6) rfl)) ?_
   obtain ⟨x1706, e1707, hF⟩ := zF hF
   obtain ⟨a1708, c1709, q1710⟩ := SlF.len ((H.item (i := 0) rfl))
   refine zA rfl rfl (zM (xA u52 q1710) (congrArg (Value.int .i64) e1707)) ?_
   refine zA rfl rfl (wI rfl) ?_
   refine zA rfl rfl (zL one3 rfl (Cells.get (Blk.cells (H.item (i := 2) rfl)) (i := 5) rfl)) ?_
   refine zA rfl rfl (wG rfl) ?_
   refine zA rfl rfl (zL one3 rfl (Cells.get (Blk.cells (H.item (i := 2) rfl)) (i := 6) rfl)) ?_
   have H1711 := H
   obtain ⟨x1712, e1713, hF⟩ := zI hF
   refine yA rfl rfl (zX en60 rfl) (F_event_within_w x1706 x9.least x9.most _ e1713 _ _ _ (H.enter [] [] (by decide) rfl)) ?_
   rintro _ w1714 ⟨rfl, G1715⟩
   have H := H1711.step (G1715.only : Only [] _ _)
   refine ⟨_, rfl, ?_⟩
   obtain ⟨x1716, e1717, hF⟩ := zF hF
   refine zA rfl rfl (zM (yS (p := x1712) rfl) (congrArg Value.bool e1717)) ?_
   refine zA rfl rfl (zN (v := .bool x1716) rfl rfl) ?_
   have hR := Option.some.inj hF
   subst hR
   refine (zJ (zB (And.intro ?_ ?_)))
   ·repeat' (first | with_reducible exact zS | refine zZ rfl ?_ | refine zT rfl rfl ?_)
   exact ⟨(), (zQ rfl zU), H.pick [0, 1, 2] (by decide)⟩
  have hF := zW c1684 hF
  refine zH rfl rfl ?_
  refine zH rfl rfl ?_
  refine zH rfl rfl ?_
  refine zA rfl rfl (zN (v := .bool false) rfl rfl) ?_
  refine zA rfl rfl (zN (v := .bool false) rfl rfl) ?_
  refine zA rfl rfl (zK (v := .bool false) rfl) ?_
  refine zA rfl rfl (fa211_4 rfl) ?_
  refine zA rfl rfl (zL one4 rfl (Cells.get (Blk.cells (H.item (i := 2) rfl)) (i := 4) rfl)) ?_
  obtain ⟨x1718, e1719, hF⟩ := zF hF
  refine zA rfl rfl (zM (yS (p := x9.frames) rfl) (congrArg Value.bool e1719)) ?_
  refine yE (b := x1718) rfl rfl rfl (fun c1720 => ?_) (fun c1720 => ?_)
  ·have hF := zV c1720 hF
   refine zA rfl rfl (fa54_5 rfl) ?_
   refine zA rfl rfl (zL one3 rfl (Cells.get (Blk.cells (H.item (i := 1) rfl)) (i := 5) rfl)) ?_
   obtain ⟨x1721, e1722, hF⟩ := zF hF
   refine zA rfl rfl (zM (xO (a := p0.Frames) (b := 0) rfl rfl) (congrArg Value.bool e1722)) ?_
   refine zA rfl rfl (zY (v := .bool x1721) rfl rfl) ?_
   refine zA rfl rfl (zN (v := .bool x1721) rfl rfl) ?_
   refine yE (b := x1721) rfl rfl rfl (fun c1723 => ?_) (fun c1723 => ?_)
   ·have hF := zV c1723 hF
    refine zH rfl rfl ?_
    refine zH rfl rfl ?_
    refine zH rfl rfl ?_
    refine zH rfl rfl ?_
    refine zH rfl rfl ?_
    refine zH rfl rfl ?_
    refine zH rfl rfl ?_
    refine zH rfl rfl ?_
    refine zH rfl rfl ?_
    refine zA rfl rfl (zY (v := .bool true) rfl rfl) ?_
    have hR := Option.some.inj hF
    subst hR
    refine (zJ (zB (And.intro ?_ ?_)))
    ·repeat' (first | with_reducible exact zS | refine zZ rfl ?_ | refine zT rfl rfl ?_)
    exact ⟨(), (zQ rfl zU), H.pick [0, 1, 2] (by decide)⟩
   have hF := zW c1723 hF
   refine zA rfl rfl (wB rfl) ?_
   refine zA rfl rfl (zL one52 rfl (Cells.get (Blk.cells (H.item (i := 1) rfl)) (i := 6) rfl)) ?_
   obtain ⟨x1724, e1725, hF⟩ := zF hF
   obtain ⟨a1726, c1727, q1728⟩ := SlF.len ((H.item (i := 0) rfl))
   refine zA rfl rfl (zM (xA u52 q1728) (congrArg (Value.int .i64) e1725)) ?_
   refine zA rfl rfl (wI rfl) ?_
   refine zA rfl rfl (zL one3 rfl (Cells.get (Blk.cells (H.item (i := 2) rfl)) (i := 5) rfl)) ?_
   refine zA rfl rfl (wG rfl) ?_
   refine zA rfl rfl (zL one3 rfl (Cells.get (Blk.cells (H.item (i := 2) rfl)) (i := 6) rfl)) ?_
   have H1729 := H
   obtain ⟨x1730, e1731, hF⟩ := zI hF
   refine yA rfl rfl (zX en60 rfl) (F_event_within_w x1724 x9.least x9.most _ e1731 _ _ _ (H.enter [] [] (by decide) rfl)) ?_
   rintro _ w1732 ⟨rfl, G1733⟩
   have H := H1729.step (G1733.only : Only [] _ _)
   refine ⟨_, rfl, ?_⟩
   obtain ⟨x1734, e1735, hF⟩ := zF hF
   refine zA rfl rfl (zM (yS (p := x1730) rfl) (congrArg Value.bool e1735)) ?_
   refine zA rfl rfl (zN (v := .bool x1734) rfl rfl) ?_
   have hR := Option.some.inj hF
   subst hR
   refine (zJ (zB (And.intro ?_ ?_)))
   ·repeat' (first | with_reducible exact zS | refine zZ rfl ?_ | refine zT rfl rfl ?_)
   exact ⟨(), (zQ rfl zU), H.pick [0, 1, 2] (by decide)⟩
  have hF := zW c1720 hF
  refine zH rfl rfl ?_
  refine zH rfl rfl ?_
  refine zH rfl rfl ?_
  refine zA rfl rfl (zN (v := .bool false) rfl rfl) ?_
  refine zA rfl rfl (zN (v := .bool false) rfl rfl) ?_
  refine zA rfl rfl (zK (v := .bool false) rfl) ?_
  refine zA rfl rfl (wB rfl) ?_
  refine zA rfl rfl (zL one52 rfl (Cells.get (Blk.cells (H.item (i := 1) rfl)) (i := 6) rfl)) ?_
  obtain ⟨x1736, e1737, hF⟩ := zF hF
  obtain ⟨a1738, c1739, q1740⟩ := SlF.len ((H.item (i := 0) rfl))
  refine zA rfl rfl (zM (xA u52 q1740) (congrArg (Value.int .i64) e1737)) ?_
  refine zA rfl rfl (wI rfl) ?_
  refine zA rfl rfl (zL one3 rfl (Cells.get (Blk.cells (H.item (i := 2) rfl)) (i := 5) rfl)) ?_
  refine zA rfl rfl (wG rfl) ?_
  refine zA rfl rfl (zL one3 rfl (Cells.get (Blk.cells (H.item (i := 2) rfl)) (i := 6) rfl)) ?_
  have H1741 := H
  obtain ⟨x1742, e1743, hF⟩ := zI hF
  refine yA rfl rfl (zX en60 rfl) (F_event_within_w x1736 x9.least x9.most _ e1743 _ _ _ (H.enter [] [] (by decide) rfl)) ?_
  rintro _ w1744 ⟨rfl, G1745⟩
  have H := H1741.step (G1745.only : Only [] _ _)
  refine ⟨_, rfl, ?_⟩
  obtain ⟨x1746, e1747, hF⟩ := zF hF
  refine zA rfl rfl (zM (yS (p := x1742) rfl) (congrArg Value.bool e1747)) ?_
  refine zA rfl rfl (zN (v := .bool x1746) rfl rfl) ?_
  have hR := Option.some.inj hF
  subst hR
  refine (zJ (zB (And.intro ?_ ?_)))
  ·repeat' (first | with_reducible exact zS | refine zZ rfl ?_ | refine zT rfl rfl ?_)
  exact ⟨(), (zQ rfl zU), H.pick [0, 1, 2] (by decide)⟩
 rintro _ ρ w1176 H
 have hF := hK1177
 refine yH (b := g1175) rfl (fun c1748 => ?_) (fun c1748 => ?_)
 ·have hF := zV c1748 hF
  refine zD fun K1749 hK1749 => ?_
  refine zC ?_
  refine zA rfl rfl (zG (v := .int .i64 2) rfl) ?_
  refine (zJ (zB (hK1749 _ _ ?_)))
  have hR := Option.some.inj hF
  subst hR
  refine (yG (yC (post1 (v1 := .int .i64 2) rfl rfl ?_)))
  exact ⟨rfl, H.pick [] (by decide)⟩
 have hF := zW c1748 hF
 refine (yI (zB (hK604 _ _ ?_)))
 refine zD fun K1845 hK1845 => ?_
 refine yM ?_
 obtain ⟨g1871, hF, hK1873⟩ := zI hF
 refine yQ [72, 73, 74, 75, 76, 77, 78, 79, 80, 81, 82, 83, 84, 85, 86, 87, 88, 89, 90] (fun (g : Unit) => [(72, .bool g1871)]) (fun g wl => Hd O w wl S [.fz (.sl rCond v1 p0.Kids), .blk b4 [.int .i64 p0.Kind, .string (bs p0.Name), .string (bs p0.Other), .int .i64 p0.Op, .int .i64 p0.N, .int .i64 p0.Frames, v1] 54, .blk b14 [.bool x9.name, .bool x9.other, .bool x9.op, .bool x9.n, .bool x9.frames, .int .i64 x9.least, .int .i64 x9.most] 211]) ?_ ?_
 ·skip
  refine zC ?_
  refine zA rfl rfl (fa211_0 rfl) ?_
  refine zA rfl rfl (zL one4 rfl (Cells.get (Blk.cells (H.item (i := 2) rfl)) (i := 0) rfl)) ?_
  refine yE (b := x9.name) rfl rfl rfl (fun c1874 => ?_) (fun c1874 => ?_)
  ·have hF := zV c1874 hF
   refine zA rfl rfl (fa54_1 rfl) ?_
   refine zA rfl rfl (zL one9 rfl (Cells.get (Blk.cells (H.item (i := 1) rfl)) (i := 1) rfl)) ?_
   have H1875 := H
   obtain ⟨x1876, e1877, hF⟩ := zI hF
   refine yA rfl rfl (zX en68 rfl) (F_event_isName_w p0.Name _ e1877 _ _ _ (H.enter [] [] (by decide) rfl)) ?_
   rintro _ w1878 ⟨rfl, G1879⟩
   have H := H1875.step (G1879.only : Only [] _ _)
   refine ⟨_, rfl, ?_⟩
   obtain ⟨x1880, e1881, hF⟩ := zF hF
   refine zA rfl rfl (zM (yS (p := x1876) rfl) (congrArg Value.bool e1881)) ?_
   refine zA rfl rfl (zY (v := .bool x1880) rfl rfl) ?_
   refine yE (b := x1880) rfl rfl rfl (fun c1882 => ?_) (fun c1882 => ?_)
   ·have hF := zV c1882 hF
    refine zH rfl rfl ?_
    refine zH rfl rfl ?_
    refine zH rfl rfl ?_
    refine zH rfl rfl ?_
    refine zH rfl rfl ?_
    refine zH rfl rfl ?_
    refine zH rfl rfl ?_
    refine zH rfl rfl ?_
    refine zA rfl rfl (zY (v := .bool true) rfl rfl) ?_
    refine zA rfl rfl (zG (v := .bool true) rfl) ?_
    have hR := Option.some.inj hF
    subst hR
    refine (zJ (zB (And.intro ?_ ?_)))
    ·repeat' (first | with_reducible exact zS | refine zZ rfl ?_ | refine zT rfl rfl ?_)
    exact ⟨(), (zQ rfl zU), H.pick [0, 1, 2] (by decide)⟩
   have hF := zW c1882 hF
   refine zA rfl rfl (fa211_1 rfl) ?_
   refine zA rfl rfl (zL one4 rfl (Cells.get (Blk.cells (H.item (i := 2) rfl)) (i := 1) rfl)) ?_
   refine yE (b := x9.other) rfl rfl rfl (fun c1883 => ?_) (fun c1883 => ?_)
   ·have hF := zV c1883 hF
    refine zA rfl rfl (fa54_2 rfl) ?_
    refine zA rfl rfl (zL one9 rfl (Cells.get (Blk.cells (H.item (i := 1) rfl)) (i := 2) rfl)) ?_
    have H1884 := H
    obtain ⟨x1885, e1886, hF⟩ := zI hF
    refine yA rfl rfl (zX en68 rfl) (F_event_isName_w p0.Other _ e1886 _ _ _ (H.enter [] [] (by decide) rfl)) ?_
    rintro _ w1887 ⟨rfl, G1888⟩
    have H := H1884.step (G1888.only : Only [] _ _)
    refine ⟨_, rfl, ?_⟩
    obtain ⟨x1889, e1890, hF⟩ := zF hF
    refine zA rfl rfl (zM (yS (p := x1885) rfl) (congrArg Value.bool e1890)) ?_
    refine zA rfl rfl (zY (v := .bool x1889) rfl rfl) ?_
    refine zA rfl rfl (zN (v := .bool x1889) rfl rfl) ?_
    refine zA rfl rfl (zG (v := .bool x1889) rfl) ?_
    have hR := Option.some.inj hF
    subst hR
    refine (zJ (zB (And.intro ?_ ?_)))
    ·repeat' (first | with_reducible exact zS | refine zZ rfl ?_ | refine zT rfl rfl ?_)
    exact ⟨(), (zQ rfl zU), H.pick [0, 1, 2] (by decide)⟩
   have hF := zW c1883 hF
   refine zH rfl rfl ?_
   refine zH rfl rfl ?_
   refine zH rfl rfl ?_
   refine zH rfl rfl ?_
   refine zA rfl rfl (zN (v := .bool false) rfl rfl) ?_
   refine zA rfl rfl (zN (v := .bool false) rfl rfl) ?_
   refine zA rfl rfl (zG (v := .bool false) rfl) ?_
   have hR := Option.some.inj hF
   subst hR
   refine (zJ (zB (And.intro ?_ ?_)))
   ·repeat' (first | with_reducible exact zS | refine zZ rfl ?_ | refine zT rfl rfl ?_)
   exact ⟨(), (zQ rfl zU), H.pick [0, 1, 2] (by decide)⟩
  have hF := zW c1874 hF
  refine zH rfl rfl ?_
  refine zH rfl rfl ?_
  refine zH rfl rfl ?_
  refine zH rfl rfl ?_
  refine zA rfl rfl (zN (v := .bool false) rfl rfl) ?_
  refine zA rfl rfl (zK (v := .bool false) rfl) ?_
  refine zA rfl rfl (fa211_1 rfl) ?_
  refine zA rfl rfl (zL one4 rfl (Cells.get (Blk.cells (H.item (i := 2) rfl)) (i := 1) rfl)) ?_
  refine yE (b := x9.other) rfl rfl rfl (fun c1891 => ?_) (fun c1891 => ?_)
  ·have hF := zV c1891 hF
   refine zA rfl rfl (fa54_2 rfl) ?_
   refine zA rfl rfl (zL one9 rfl (Cells.get (Blk.cells (H.item (i := 1) rfl)) (i := 2) rfl)) ?_
   have H1892 := H
   obtain ⟨x1893, e1894, hF⟩ := zI hF
   refine yA rfl rfl (zX en68 rfl) (F_event_isName_w p0.Other _ e1894 _ _ _ (H.enter [] [] (by decide) rfl)) ?_
   rintro _ w1895 ⟨rfl, G1896⟩
   have H := H1892.step (G1896.only : Only [] _ _)
   refine ⟨_, rfl, ?_⟩
   obtain ⟨x1897, e1898, hF⟩ := zF hF
   refine zA rfl rfl (zM (yS (p := x1893) rfl) (congrArg Value.bool e1898)) ?_
   refine zA rfl rfl (zY (v := .bool x1897) rfl rfl) ?_
   refine zA rfl rfl (zN (v := .bool x1897) rfl rfl) ?_
   refine zA rfl rfl (zG (v := .bool x1897) rfl) ?_
   have hR := Option.some.inj hF
   subst hR
   refine (zJ (zB (And.intro ?_ ?_)))
   ·repeat' (first | with_reducible exact zS | refine zZ rfl ?_ | refine zT rfl rfl ?_)
   exact ⟨(), (zQ rfl zU), H.pick [0, 1, 2] (by decide)⟩
  have hF := zW c1891 hF
  refine zH rfl rfl ?_
  refine zH rfl rfl ?_
  refine zH rfl rfl ?_
  refine zH rfl rfl ?_
  refine zA rfl rfl (zN (v := .bool false) rfl rfl) ?_
  refine zA rfl rfl (zN (v := .bool false) rfl rfl) ?_
  refine zA rfl rfl (zG (v := .bool false) rfl) ?_
  have hR := Option.some.inj hF
  subst hR
  refine (zJ (zB (And.intro ?_ ?_)))
  ·repeat' (first | with_reducible exact zS | refine zZ rfl ?_ | refine zT rfl rfl ?_)
  exact ⟨(), (zQ rfl zU), H.pick [0, 1, 2] (by decide)⟩
 rintro _ ρ w1872 H
 have hF := hK1873
 refine yH (b := g1871) rfl (fun c1899 => ?_) (fun c1899 => ?_)
 ·have hF := zV c1899 hF
  refine zD fun K1900 hK1900 => ?_
  refine zC ?_
  refine zA rfl rfl (zG (v := .int .i64 8) rfl) ?_
  refine (zJ (zB (hK1900 _ _ ?_)))
  have hR := Option.some.inj hF
  subst hR
  refine (yG (yJ (yC (post1 (v1 := .int .i64 8) rfl rfl ?_))))
  exact ⟨rfl, H.pick [] (by decide)⟩
 have hF := zW c1899 hF
 obtain ⟨g1909, hF, hK1911⟩ := zI hF
 refine yQ [91, 92, 93, 94, 95, 96, 97, 98, 99] (fun (g : Unit) => [(91, .bool g1909)]) (fun g wl => Hd O w wl S [.fz (.sl rCond v1 p0.Kids), .blk b4 [.int .i64 p0.Kind, .string (bs p0.Name), .string (bs p0.Other), .int .i64 p0.Op, .int .i64 p0.N, .int .i64 p0.Frames, v1] 54, .blk b14 [.bool x9.name, .bool x9.other, .bool x9.op, .bool x9.n, .bool x9.frames, .int .i64 x9.least, .int .i64 x9.most] 211]) ?_ ?_
 ·skip
  refine zC ?_
  refine zA rfl rfl (fa211_2 rfl) ?_
  refine zA rfl rfl (zL one4 rfl (Cells.get (Blk.cells (H.item (i := 2) rfl)) (i := 2) rfl)) ?_
  refine yE (b := x9.op) rfl rfl rfl (fun c1912 => ?_) (fun c1912 => ?_)
  ·have hF := zV c1912 hF
   refine zA rfl rfl (fa54_3 rfl) ?_
   refine zA rfl rfl (zL one3 rfl (Cells.get (Blk.cells (H.item (i := 1) rfl)) (i := 3) rfl)) ?_
   have H1913 := H
   obtain ⟨x1914, e1915, hF⟩ := zI hF
   refine yA rfl rfl (zX en60 rfl) (F_event_within_w p0.Op 1 6 _ e1915 _ _ _ (H.enter [] [] (by decide) rfl)) ?_
   rintro _ w1916 ⟨rfl, G1917⟩
   have H := H1913.step (G1917.only : Only [] _ _)
   refine ⟨_, rfl, ?_⟩
   obtain ⟨x1918, e1919, hF⟩ := zF hF
   refine zA rfl rfl (zM (yS (p := x1914) rfl) (congrArg Value.bool e1919)) ?_
   refine zA rfl rfl (zY (v := .bool x1918) rfl rfl) ?_
   refine zA rfl rfl (zG (v := .bool x1918) rfl) ?_
   have hR := Option.some.inj hF
   subst hR
   refine (zJ (zB (And.intro ?_ ?_)))
   ·repeat' (first | with_reducible exact zS | refine zZ rfl ?_ | refine zT rfl rfl ?_)
   exact ⟨(), (zQ rfl zU), H.pick [0, 1, 2] (by decide)⟩
  have hF := zW c1912 hF
  refine zH rfl rfl ?_
  refine zH rfl rfl ?_
  refine zH rfl rfl ?_
  refine zH rfl rfl ?_
  refine zA rfl rfl (zN (v := .bool false) rfl rfl) ?_
  refine zA rfl rfl (zG (v := .bool false) rfl) ?_
  have hR := Option.some.inj hF
  subst hR
  refine (zJ (zB (And.intro ?_ ?_)))
  ·repeat' (first | with_reducible exact zS | refine zZ rfl ?_ | refine zT rfl rfl ?_)
  exact ⟨(), (zQ rfl zU), H.pick [0, 1, 2] (by decide)⟩
 rintro _ ρ w1910 H
 have hF := hK1911
 refine yH (b := g1909) rfl (fun c1920 => ?_) (fun c1920 => ?_)
 ·have hF := zV c1920 hF
  refine zD fun K1921 hK1921 => ?_
  refine zC ?_
  refine zA rfl rfl (zG (v := .int .i64 7) rfl) ?_
  refine (zJ (zB (hK1921 _ _ ?_)))
  have hR := Option.some.inj hF
  subst hR
  refine (yG (yJ (yC (post1 (v1 := .int .i64 7) rfl rfl ?_))))
  exact ⟨rfl, H.pick [] (by decide)⟩
 have hF := zW c1920 hF
 obtain ⟨g1930, hF, hK1932⟩ := zI hF
 refine yQ [100, 101, 102, 103, 104, 105, 106, 107, 108] (fun (g : Unit) => [(100, .bool g1930)]) (fun g wl => Hd O w wl S [.fz (.sl rCond v1 p0.Kids), .blk b4 [.int .i64 p0.Kind, .string (bs p0.Name), .string (bs p0.Other), .int .i64 p0.Op, .int .i64 p0.N, .int .i64 p0.Frames, v1] 54, .blk b14 [.bool x9.name, .bool x9.other, .bool x9.op, .bool x9.n, .bool x9.frames, .int .i64 x9.least, .int .i64 x9.most] 211]) ?_ ?_
 ·skip
  refine zC ?_
  refine zA rfl rfl (fa211_4 rfl) ?_
  refine zA rfl rfl (zL one4 rfl (Cells.get (Blk.cells (H.item (i := 2) rfl)) (i := 4) rfl)) ?_
  refine yE (b := x9.frames) rfl rfl rfl (fun c1933 => ?_) (fun c1933 => ?_)
  ·have hF := zV c1933 hF
   refine zA rfl rfl (fa54_5 rfl) ?_
   refine zA rfl rfl (zL one3 rfl (Cells.get (Blk.cells (H.item (i := 1) rfl)) (i := 5) rfl)) ?_
   have H1934 := H
   obtain ⟨x1935, e1936, hF⟩ := zI hF
   refine yA rfl rfl (zX en60 rfl) (F_event_within_w p0.Frames 1 4096 _ e1936 _ _ _ (H.enter [] [] (by decide) rfl)) ?_
   rintro _ w1937 ⟨rfl, G1938⟩
   have H := H1934.step (G1938.only : Only [] _ _)
   refine ⟨_, rfl, ?_⟩
   obtain ⟨x1939, e1940, hF⟩ := zF hF
   refine zA rfl rfl (zM (yS (p := x1935) rfl) (congrArg Value.bool e1940)) ?_
   refine zA rfl rfl (zY (v := .bool x1939) rfl rfl) ?_
   refine zA rfl rfl (zG (v := .bool x1939) rfl) ?_
   have hR := Option.some.inj hF
   subst hR
   refine (zJ (zB (And.intro ?_ ?_)))
   ·repeat' (first | with_reducible exact zS | refine zZ rfl ?_ | refine zT rfl rfl ?_)
   exact ⟨(), (zQ rfl zU), H.pick [0, 1, 2] (by decide)⟩
  have hF := zW c1933 hF
  refine zH rfl rfl ?_
  refine zH rfl rfl ?_
  refine zH rfl rfl ?_
  refine zH rfl rfl ?_
  refine zA rfl rfl (zN (v := .bool false) rfl rfl) ?_
  refine zA rfl rfl (zG (v := .bool false) rfl) ?_
  have hR := Option.some.inj hF
  subst hR
  refine (zJ (zB (And.intro ?_ ?_)))
  ·repeat' (first | with_reducible exact zS | refine zZ rfl ?_ | refine zT rfl rfl ?_)
  exact ⟨(), (zQ rfl zU), H.pick [0, 1, 2] (by decide)⟩
 rintro _ ρ w1931 H
 have hF := hK1932
 refine yH (b := g1930) rfl (fun c1941 => ?_) (fun c1941 => ?_)
 ·have hF := zV c1941 hF
  refine zD fun K1942 hK1942 => ?_
  refine zC ?_
  refine zA rfl rfl (zG (v := .int .i64 9) rfl) ?_
  refine (zJ (zB (hK1942 _ _ ?_)))
  have hR := Option.some.inj hF
  subst hR
  refine (yG (yJ (yC (post1 (v1 := .int .i64 9) rfl rfl ?_))))
  exact ⟨rfl, H.pick [] (by decide)⟩
 have hF := zW c1941 hF
 obtain ⟨g1953, hF, hK1955⟩ := zI hF
 refine yQ [109, 110, 111, 112, 113, 114, 115, 116, 117, 118, 119, 120] (fun (g : Unit) => [(109, .bool g1953)]) (fun g wl => Hd O w wl S [.fz (.sl rCond v1 p0.Kids), .blk b4 [.int .i64 p0.Kind, .string (bs p0.Name), .string (bs p0.Other), .int .i64 p0.Op, .int .i64 p0.N, .int .i64 p0.Frames, v1] 54, .blk b14 [.bool x9.name, .bool x9.other, .bool x9.op, .bool x9.n, .bool x9.frames, .int .i64 x9.least, .int .i64 x9.most] 211]) ?_ ?_
 ·skip
  refine zC ?_
  refine zA rfl rfl (fa54_0 rfl) ?_
  refine zA rfl rfl (zL one3 rfl (Cells.get (Blk.cells (H.item (i := 1) rfl)) (i := 0) rfl)) ?_
  obtain ⟨x1956, e1957, hF⟩ := zF hF
  refine zA rfl rfl (zM (xC (a := p0.Kind) (b := 13) rfl rfl) (congrArg Value.bool e1957)) ?_
  refine yE (b := x1956) rfl rfl rfl (fun c1958 => ?_) (fun c1958 => ?_)
  ·have hF := zV c1958 hF
   refine zA rfl rfl (fa54_4 rfl) ?_
   refine zA rfl rfl (zL one3 rfl (Cells.get (Blk.cells (H.item (i := 1) rfl)) (i := 4) rfl)) ?_
   refine zA rfl rfl (fa54_5 rfl) ?_
   refine zA rfl rfl (zL one3 rfl (Cells.get (Blk.cells (H.item (i := 1) rfl)) (i := 5) rfl)) ?_
   have H1959 := H
   obtain ⟨x1960, e1961, hF⟩ := zI hF
   refine yA rfl rfl (zX en60 rfl) (F_event_within_w p0.N 1 p0.Frames _ e1961 _ _ _ (H.enter [] [] (by decide) rfl)) ?_
   rintro _ w1962 ⟨rfl, G1963⟩
   have H := H1959.step (G1963.only : Only [] _ _)
   refine ⟨_, rfl, ?_⟩
   obtain ⟨x1964, e1965, hF⟩ := zF hF
   refine zA rfl rfl (zM (yS (p := x1960) rfl) (congrArg Value.bool e1965)) ?_
   refine zA rfl rfl (zY (v := .bool x1964) rfl rfl) ?_
   refine zA rfl rfl (zG (v := .bool x1964) rfl) ?_
   have hR := Option.some.inj hF
   subst hR
   refine (zJ (zB (And.intro ?_ ?_)))
   ·repeat' (first | with_reducible exact zS | refine zZ rfl ?_ | refine zT rfl rfl ?_)
   exact ⟨(), (zQ rfl zU), H.pick [0, 1, 2] (by decide)⟩
  have hF := zW c1958 hF
  refine zH rfl rfl ?_
  refine zH rfl rfl ?_
  refine zH rfl rfl ?_
  refine zH rfl rfl ?_
  refine zH rfl rfl ?_
  refine zH rfl rfl ?_
  refine zA rfl rfl (zN (v := .bool false) rfl rfl) ?_
  refine zA rfl rfl (zG (v := .bool false) rfl) ?_
  have hR := Option.some.inj hF
  subst hR
  refine (zJ (zB (And.intro ?_ ?_)))
  ·repeat' (first | with_reducible exact zS | refine zZ rfl ?_ | refine zT rfl rfl ?_)
  exact ⟨(), (zQ rfl zU), H.pick [0, 1, 2] (by decide)⟩
 rintro _ ρ w1954 H
 have hF := hK1955
 refine yH (b := g1953) rfl (fun c1966 => ?_) (fun c1966 => ?_)
 ·have hF := zV c1966 hF
  refine zD fun K1967 hK1967 => ?_
  refine zC ?_
  refine zA rfl rfl (zG (v := .int .i64 9) rfl) ?_
  refine (zJ (zB (hK1967 _ _ ?_)))
  have hR := Option.some.inj hF
  subst hR
  refine (yG (yJ (yC (post1 (v1 := .int .i64 9) rfl rfl ?_))))
  exact ⟨rfl, H.pick [] (by decide)⟩
 have hF := zW c1966 hF
 obtain ⟨g1987, hF, hK1989⟩ := zI hF
 refine yQ [121, 122, 123, 124, 125, 126, 127, 128, 129, 130, 131, 132, 133, 134, 135, 136, 137, 138, 139] (fun (g : Unit) => [(121, .bool g1987)]) (fun g wl => Hd O w wl S []) ?_ ?_
 ·skip
  refine zC ?_
  refine zA rfl rfl (fa211_3 rfl) ?_
  refine zA rfl rfl (zL one4 rfl (Cells.get (Blk.cells (H.item (i := 2) rfl)) (i := 3) rfl)) ?_
  refine yE (b := x9.n) rfl rfl rfl (fun c1990 => ?_) (fun c1990 => ?_)
  ·have hF := zV c1990 hF
   refine zA rfl rfl (fa54_4 rfl) ?_
   refine zA rfl rfl (zL one3 rfl (Cells.get (Blk.cells (H.item (i := 1) rfl)) (i := 4) rfl)) ?_
   have H1991 := H
   obtain ⟨x1992, e1993, hF⟩ := zI hF
   refine yA rfl rfl (zX en60 rfl) (F_event_within_w p0.N (-1125899906842624) 1125899906842624 _ e1993 _ _ _ (H.enter [] [] (by decide) rfl)) ?_
   rintro _ w1994 ⟨rfl, G1995⟩
   have H := H1991.step (G1995.only : Only [] _ _)
   refine ⟨_, rfl, ?_⟩
   obtain ⟨x1996, e1997, hF⟩ := zF hF
   refine zA rfl rfl (zM (yS (p := x1992) rfl) (congrArg Value.bool e1997)) ?_
   refine zA rfl rfl (zY (v := .bool x1996) rfl rfl) ?_
   refine yE (b := x1996) rfl rfl rfl (fun c1998 => ?_) (fun c1998 => ?_)
   ·have hF := zV c1998 hF
    refine zH rfl rfl ?_
    refine zH rfl rfl ?_
    refine zH rfl rfl ?_
    refine zH rfl rfl ?_
    refine zH rfl rfl ?_
    refine zH rfl rfl ?_
    refine zH rfl rfl ?_
    refine zH rfl rfl ?_
    refine zA rfl rfl (zY (v := .bool true) rfl rfl) ?_
    refine zA rfl rfl (zG (v := .bool true) rfl) ?_
    have hR := Option.some.inj hF
    subst hR
    refine (zJ (zB (And.intro ?_ ?_)))
    ·repeat' (first | with_reducible exact zS | refine zZ rfl ?_ | refine zT rfl rfl ?_)
    exact ⟨(), (zQ rfl zU), H.pick [] (by decide)⟩
   have hF := zW c1998 hF
   refine zA rfl rfl (fa54_0 rfl) ?_
   refine zA rfl rfl (zL one3 rfl (Cells.get (Blk.cells (H.item (i := 1) rfl)) (i := 0) rfl)) ?_
   obtain ⟨x1999, e2000, hF⟩ := zF hF
   refine zA rfl rfl (zM (xC (a := p0.Kind) (b := 5) rfl rfl) (congrArg Value.bool e2000)) ?_
   refine yE (b := x1999) rfl rfl rfl (fun c2001 => ?_) (fun c2001 => ?_)
   ·have hF := zV c2001 hF
    refine zA rfl rfl (fa54_4 rfl) ?_
    refine zA rfl rfl (zL one3 rfl (Cells.get (Blk.cells (H.item (i := 1) rfl)) (i := 4) rfl)) ?_
    obtain ⟨x2002, e2003, hF⟩ := zF hF
    refine zA rfl rfl (zM (xZ (a := p0.N) (b := 0) rfl rfl) (congrArg Value.bool e2003)) ?_
    refine zA rfl rfl (zY (v := .bool x2002) rfl rfl) ?_
    refine zA rfl rfl (zN (v := .bool x2002) rfl rfl) ?_
    refine zA rfl rfl (zG (v := .bool x2002) rfl) ?_
    have hR := Option.some.inj hF
    subst hR
    refine (zJ (zB (And.intro ?_ ?_)))
    ·repeat' (first | with_reducible exact zS | refine zZ rfl ?_ | refine zT rfl rfl ?_)
    exact ⟨(), (zQ rfl zU), H.pick [] (by decide)⟩
   have hF := zW c2001 hF
   refine zH rfl rfl ?_
   refine zH rfl rfl ?_
   refine zH rfl rfl ?_
   refine zA rfl rfl (zN (v := .bool false) rfl rfl) ?_
   refine zA rfl rfl (zN (v := .bool false) rfl rfl) ?_
   refine zA rfl rfl (zG (v := .bool false) rfl) ?_
   have hR := Option.some.inj hF
   subst hR
   refine (zJ (zB (And.intro ?_ ?_)))
   ·repeat' (first | with_reducible exact zS | refine zZ rfl ?_ | refine zT rfl rfl ?_)
   exact ⟨(), (zQ rfl zU), H.pick [] (by decide)⟩
  have hF := zW c1990 hF
  refine zH rfl rfl ?_
  refine zH rfl rfl ?_
  refine zH rfl rfl ?_
  refine zH rfl rfl ?_
  refine zA rfl rfl (zN (v := .bool false) rfl rfl) ?_
  refine zA rfl rfl (zK (v := .bool false) rfl) ?_
  refine zA rfl rfl (fa54_0 rfl) ?_
  refine zA rfl rfl (zL one3 rfl (Cells.get (Blk.cells (H.item (i := 1) rfl)) (i := 0) rfl)) ?_
  obtain ⟨x2004, e2005, hF⟩ := zF hF
  refine zA rfl rfl (zM (xC (a := p0.Kind) (b := 5) rfl rfl) (congrArg Value.bool e2005)) ?_
  refine yE (b := x2004) rfl rfl rfl (fun c2006 => ?_) (fun c2006 => ?_)
  ·have hF := zV c2006 hF
   refine zA rfl rfl (fa54_4 rfl) ?_
   refine zA rfl rfl (zL one3 rfl (Cells.get (Blk.cells (H.item (i := 1) rfl)) (i := 4) rfl)) ?_
   obtain ⟨x2007, e2008, hF⟩ := zF hF
   refine zA rfl rfl (zM (xZ (a := p0.N) (b := 0) rfl rfl) (congrArg Value.bool e2008)) ?_
   refine zA rfl rfl (zY (v := .bool x2007) rfl rfl) ?_
   refine zA rfl rfl (zN (v := .bool x2007) rfl rfl) ?_
   refine zA rfl rfl (zG (v := .bool x2007) rfl) ?_
   have hR := Option.some.inj hF
   subst hR
   refine (zJ (zB (And.intro ?_ ?_)))
   ·repeat' (first | with_reducible exact zS | refine zZ rfl ?_ | refine zT rfl rfl ?_)
   exact ⟨(), (zQ rfl zU), H.pick [] (by decide)⟩
  have hF := zW c2006 hF
  refine zH rfl rfl ?_
  refine zH rfl rfl ?_
  refine zH rfl rfl ?_
  refine zA rfl rfl (zN (v := .bool false) rfl rfl) ?_
  refine zA rfl rfl (zN (v := .bool false) rfl rfl) ?_
  refine zA rfl rfl (zG (v := .bool false) rfl) ?_
  have hR := Option.some.inj hF
  subst hR
  refine (zJ (zB (And.intro ?_ ?_)))
  ·repeat' (first | with_reducible exact zS | refine zZ rfl ?_ | refine zT rfl rfl ?_)
  exact ⟨(), (zQ rfl zU), H.pick [] (by decide)⟩
 rintro _ ρ w1988 H
 have hF := hK1989
 refine yH (b := g1987) rfl (fun c2009 => ?_) (fun c2009 => ?_)
 ·have hF := zV c2009 hF
  refine zD fun K2010 hK2010 => ?_
  refine zC ?_
  refine zA rfl rfl (zG (v := .int .i64 9) rfl) ?_
  refine (zJ (zB (hK2010 _ _ ?_)))
  have hR := Option.some.inj hF
  subst hR
  refine (yG (yJ (yC (post1 (v1 := .int .i64 9) rfl rfl ?_))))
  exact ⟨rfl, H.pick [] (by decide)⟩
 have hF := zW c2009 hF
 refine (yI (yX (zB (hK1845 _ _ ?_))))
 refine zD fun K2011 hK2011 => ?_
 refine zC ?_
 refine zA rfl rfl (zG (v := .int .i64 0) rfl) ?_
 refine (zJ (zB (hK2011 _ _ ?_)))
 have hR := Option.some.inj hF
 subst hR
 refine (yG (post1 (v1 := .int .i64 0) rfl rfl ?_))
 exact ⟨rfl, H.pick [] (by decide)⟩
end Go.Proofs.YtnajnkghilemhaaGreatDoor.L
