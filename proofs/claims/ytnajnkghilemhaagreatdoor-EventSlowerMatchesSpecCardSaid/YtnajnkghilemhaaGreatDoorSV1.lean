/- Walks: what each function computes, for every argument; no condition but those that stand in the statements. -/
import Derived.Test.YtnajnkghilemhaaGreatDoorSV0
namespace Go.Proofs.YtnajnkghilemhaaGreatDoor.L
open Go.RowKit Go.OB Go.Lf
set_option maxHeartbeats 4000000 in
set_option maxRecDepth 100000 in
theorem F_event_fieldsOf_w (p0 : Int) (r : EventFields × Bool) (hF : F_event_fieldsOf p0 = some r) (O S : List Nat) (w : World) (H : Hd O w w S []) :
  Calls Tryz.prog 157 ([.int .i64 p0] : List Value).toArray w fun e w' => e = .returned (.tuple #[.agg [.bool r.1.name, .bool r.1.other, .bool r.1.op, .bool r.1.n, .bool r.1.frames, .int .i64 r.1.least, .int .i64 r.1.most].toArray, .bool r.2]) ∧ Hd O w w' S [] := by
 unfold F_event_fieldsOf at hF
 refine yC 41 Tryz.func157 rfl rfl rfl ?_
 refine zC fun K1 hK1 => ?_
 refine zB ?_
 refine yT rfl rfl (xG zero211 H) ?_
 rintro _ w4 ⟨b2, rfl, H⟩
 refine zI (.bool false) ?_
 refine (zF (zA (hK1 _ _ ?_)))
 refine zC fun K96 hK96 => ?_
 refine zC fun K97 hK97 => ?_
 refine zB ?_
 refine zN (.int .i64 p0) ?_
 refine (zF (zA (hK97 _ _ ?_)))
 refine yF ?_
 obtain ⟨g104, hF, hK106⟩ := zD hF
 refine yO [5, 6, 7] (fun (g : Unit) => [(5, .bool g104)]) (fun g wl => Hd O w wl S [.blk b2 [.bool false, .bool false, .bool false, .bool false, .bool false, .int .i64 0, .int .i64 0] 211]) ?_ ?_
 ·skip
  refine zC fun K107 hK107 => ?_
  refine zB ?_
  obtain ⟨x108, e109, hF⟩ := zG hF
  refine zH (zV (xH (a := p0) (b := 1) rfl rfl) e109) ?_
  refine zI (.bool x108) ?_
  refine (zF (zA (hK107 _ _ ?_)))
  refine zZ (b := x108) rfl (fun c110 => ?_) (fun c110 => ?_)
  ·have hF := zQ c110 hF
   obtain rfl := someI hF
   exact (yA (zA (meet ⟨(), (zL rfl zO), H.pick [0] (by decide)⟩)))
  have hF := zS c110 hF
  refine zB ?_
  obtain ⟨x111, e112, hF⟩ := zG hF
  refine zH (zV (xH (a := p0) (b := 2) rfl rfl) e112) ?_
  refine zI (.bool x111) ?_
  obtain rfl := someI hF
  exact (zF (zA (meet ⟨(), (zL rfl zO), H.pick [0] (by decide)⟩)))
 rintro _ ρ w105 H
 have hF := hK106
 refine zZ (b := g104) rfl (fun c113 => ?_) (fun c113 => ?_)
 ·have hF := zQ c113 hF
  refine zC fun K114 hK114 => ?_
  refine zB ?_
  refine zH (xN (cs := [.bool false, .bool false, .bool false, .bool false, .bool false, .int .i64 0, .int .i64 0]) bz211) ?_
  refine yS rfl (yI (vs := [.bool false, .bool false, .bool false, .bool false, .bool false, .int .i64 0, .int .i64 0]) H 0 rfl sz211 rfl rfl rfl ⟨rfl, rfl, rfl, rfl, rfl, rfl, rfl, trivial⟩ rfl) ?_
  rintro w115 H
  refine zI (.bool true) ?_
  refine (zF (zA (hK114 _ _ ?_)))
  obtain rfl := someI hF
  refine (yB (yE (zX (postc1 (v1 := .bool true) rfl rfl (yD agg211 sz211 rfl (Blk.cells (H.item (i := 0) rfl))) rfl ?_))))
  exact ⟨rfl, H.pick [] (by decide)⟩
 have hF := zS c113 hF
 refine zC fun K116 hK116 => ?_
 refine zB ?_
 obtain ⟨x117, e118, hF⟩ := zG hF
 refine zH (zV (xH (a := p0) (b := 3) rfl rfl) e118) ?_
 refine zI (.bool x117) ?_
 refine (zF (zA (hK116 _ _ ?_)))
 refine zZ (b := x117) rfl (fun c119 => ?_) (fun c119 => ?_)
 ·have hF := zQ c119 hF
  refine zC fun K120 hK120 => ?_
  refine zB ?_
  refine zH (xN (cs := [.bool true, .bool false, .bool true, .bool true, .bool false, .int .i64 0, .int .i64 0]) (bt211_0_2_3 _ _ _)) ?_
  refine yS rfl (yI (vs := [.bool true, .bool false, .bool true, .bool true, .bool false, .int .i64 0, .int .i64 0]) H 0 rfl sz211 rfl rfl rfl ⟨rfl, rfl, rfl, rfl, rfl, rfl, rfl, trivial⟩ rfl) ?_
  rintro w121 H
  refine zI (.bool true) ?_
  refine (zF (zA (hK120 _ _ ?_)))
  obtain rfl := someI hF
  refine (yB (yE (zX (postc1 (v1 := .bool true) rfl rfl (yD agg211 sz211 rfl (Blk.cells (H.item (i := 0) rfl))) rfl ?_))))
  exact ⟨rfl, H.pick [] (by decide)⟩
 have hF := zS c119 hF
 refine zC fun K122 hK122 => ?_
 refine zB ?_
 obtain ⟨x123, e124, hF⟩ := zG hF
 refine zH (zV (xH (a := p0) (b := 4) rfl rfl) e124) ?_
 refine zI (.bool x123) ?_
 refine (zF (zA (hK122 _ _ ?_)))
 refine zZ (b := x123) rfl (fun c125 => ?_) (fun c125 => ?_)
 ·have hF := zQ c125 hF
  refine zC fun K126 hK126 => ?_
  refine zB ?_
  refine zH (xN (cs := [.bool true, .bool true, .bool true, .bool false, .bool false, .int .i64 0, .int .i64 0]) (bt211_0_1_2 _ _ _)) ?_
  refine yS rfl (yI (vs := [.bool true, .bool true, .bool true, .bool false, .bool false, .int .i64 0, .int .i64 0]) H 0 rfl sz211 rfl rfl rfl ⟨rfl, rfl, rfl, rfl, rfl, rfl, rfl, trivial⟩ rfl) ?_
  rintro w127 H
  refine zI (.bool true) ?_
  refine (zF (zA (hK126 _ _ ?_)))
  obtain rfl := someI hF
  refine (yB (yE (zX (postc1 (v1 := .bool true) rfl rfl (yD agg211 sz211 rfl (Blk.cells (H.item (i := 0) rfl))) rfl ?_))))
  exact ⟨rfl, H.pick [] (by decide)⟩
 have hF := zS c125 hF
 refine zC fun K128 hK128 => ?_
 refine zB ?_
 obtain ⟨x129, e130, hF⟩ := zG hF
 refine zH (zV (xH (a := p0) (b := 5) rfl rfl) e130) ?_
 refine zI (.bool x129) ?_
 refine (zF (zA (hK128 _ _ ?_)))
 refine zZ (b := x129) rfl (fun c131 => ?_) (fun c131 => ?_)
 ·have hF := zQ c131 hF
  refine zC fun K132 hK132 => ?_
  refine zB ?_
  refine zH (xN (cs := [.bool true, .bool false, .bool false, .bool true, .bool true, .int .i64 0, .int .i64 0]) (bt211_0_3_4 _ _ _)) ?_
  refine yS rfl (yI (vs := [.bool true, .bool false, .bool false, .bool true, .bool true, .int .i64 0, .int .i64 0]) H 0 rfl sz211 rfl rfl rfl ⟨rfl, rfl, rfl, rfl, rfl, rfl, rfl, trivial⟩ rfl) ?_
  rintro w133 H
  refine zI (.bool true) ?_
  refine (zF (zA (hK132 _ _ ?_)))
  obtain rfl := someI hF
  refine (yB (yE (zX (postc1 (v1 := .bool true) rfl rfl (yD agg211 sz211 rfl (Blk.cells (H.item (i := 0) rfl))) rfl ?_))))
  exact ⟨rfl, H.pick [] (by decide)⟩
 have hF := zS c131 hF
 obtain ⟨g140, hF, hK142⟩ := zD hF
 refine yO [18, 19, 20] (fun (g : Unit) => [(18, .bool g140)]) (fun g wl => Hd O w wl S [.blk b2 [.bool false, .bool false, .bool false, .bool false, .bool false, .int .i64 0, .int .i64 0] 211]) ?_ ?_
 ·skip
  refine zC fun K143 hK143 => ?_
  refine zB ?_
  obtain ⟨x144, e145, hF⟩ := zG hF
  refine zH (zV (xH (a := p0) (b := 6) rfl rfl) e145) ?_
  refine zI (.bool x144) ?_
  refine (zF (zA (hK143 _ _ ?_)))
  refine zZ (b := x144) rfl (fun c146 => ?_) (fun c146 => ?_)
  ·have hF := zQ c146 hF
   obtain rfl := someI hF
   exact (yA (zA (meet ⟨(), (zL rfl zO), H.pick [0] (by decide)⟩)))
  have hF := zS c146 hF
  refine zB ?_
  obtain ⟨x147, e148, hF⟩ := zG hF
  refine zH (zV (xH (a := p0) (b := 7) rfl rfl) e148) ?_
  refine zI (.bool x147) ?_
  obtain rfl := someI hF
  exact (zF (zA (meet ⟨(), (zL rfl zO), H.pick [0] (by decide)⟩)))
 rintro _ ρ w141 H
 have hF := hK142
 refine zZ (b := g140) rfl (fun c149 => ?_) (fun c149 => ?_)
 ·have hF := zQ c149 hF
  refine zC fun K150 hK150 => ?_
  refine zB ?_
  refine zH (xN (cs := [.bool true, .bool false, .bool false, .bool false, .bool false, .int .i64 0, .int .i64 0]) (bt211_0 _)) ?_
  refine yS rfl (yI (vs := [.bool true, .bool false, .bool false, .bool false, .bool false, .int .i64 0, .int .i64 0]) H 0 rfl sz211 rfl rfl rfl ⟨rfl, rfl, rfl, rfl, rfl, rfl, rfl, trivial⟩ rfl) ?_
  rintro w151 H
  refine zI (.bool true) ?_
  refine (zF (zA (hK150 _ _ ?_)))
  obtain rfl := someI hF
  refine (yB (yE (zX (postc1 (v1 := .bool true) rfl rfl (yD agg211 sz211 rfl (Blk.cells (H.item (i := 0) rfl))) rfl ?_))))
  exact ⟨rfl, H.pick [] (by decide)⟩
 have hF := zS c149 hF
 obtain ⟨g158, hF, hK160⟩ := zD hF
 refine yO [22, 23, 24] (fun (g : Unit) => [(22, .bool g158)]) (fun g wl => Hd O w wl S [.blk b2 [.bool false, .bool false, .bool false, .bool false, .bool false, .int .i64 0, .int .i64 0] 211]) ?_ ?_
 ·skip
  refine zC fun K161 hK161 => ?_
  refine zB ?_
  obtain ⟨x162, e163, hF⟩ := zG hF
  refine zH (zV (xH (a := p0) (b := 8) rfl rfl) e163) ?_
  refine zI (.bool x162) ?_
  refine (zF (zA (hK161 _ _ ?_)))
  refine zZ (b := x162) rfl (fun c164 => ?_) (fun c164 => ?_)
  ·have hF := zQ c164 hF
   obtain rfl := someI hF
   exact (yA (zA (meet ⟨(), (zL rfl zO), H.pick [0] (by decide)⟩)))
  have hF := zS c164 hF
  refine zB ?_
  obtain ⟨x165, e166, hF⟩ := zG hF
  refine zH (zV (xH (a := p0) (b := 15) rfl rfl) e166) ?_
  refine zI (.bool x165) ?_
  obtain rfl := someI hF
  exact (zF (zA (meet ⟨(), (zL rfl zO), H.pick [0] (by decide)⟩)))
 rintro _ ρ w159 H
 have hF := hK160
 refine zZ (b := g158) rfl (fun c167 => ?_) (fun c167 => ?_)
 ·have hF := zQ c167 hF
  refine zC fun K168 hK168 => ?_
  refine zB ?_
  refine zH (xN (cs := [.bool false, .bool false, .bool false, .bool false, .bool false, .int .i64 1, .int .i64 1]) (bt211_5_6 _ _)) ?_
  refine yS rfl (yI (vs := [.bool false, .bool false, .bool false, .bool false, .bool false, .int .i64 1, .int .i64 1]) H 0 rfl sz211 rfl rfl rfl ⟨rfl, rfl, rfl, rfl, rfl, rfl, rfl, trivial⟩ rfl) ?_
  rintro w169 H
  refine zI (.bool true) ?_
  refine (zF (zA (hK168 _ _ ?_)))
  obtain rfl := someI hF
  refine (yB (yE (zX (postc1 (v1 := .bool true) rfl rfl (yD agg211 sz211 rfl (Blk.cells (H.item (i := 0) rfl))) rfl ?_))))
  exact ⟨rfl, H.pick [] (by decide)⟩
 have hF := zS c167 hF
 obtain ⟨g176, hF, hK178⟩ := zD hF
 refine yO [26, 27, 28] (fun (g : Unit) => [(26, .bool g176)]) (fun g wl => Hd O w wl S [.blk b2 [.bool false, .bool false, .bool false, .bool false, .bool false, .int .i64 0, .int .i64 0] 211]) ?_ ?_
 ·skip
  refine zC fun K179 hK179 => ?_
  refine zB ?_
  obtain ⟨x180, e181, hF⟩ := zG hF
  refine zH (zV (xH (a := p0) (b := 9) rfl rfl) e181) ?_
  refine zI (.bool x180) ?_
  refine (zF (zA (hK179 _ _ ?_)))
  refine zZ (b := x180) rfl (fun c182 => ?_) (fun c182 => ?_)
  ·have hF := zQ c182 hF
   obtain rfl := someI hF
   exact (yA (zA (meet ⟨(), (zL rfl zO), H.pick [0] (by decide)⟩)))
  have hF := zS c182 hF
  refine zB ?_
  obtain ⟨x183, e184, hF⟩ := zG hF
  refine zH (zV (xH (a := p0) (b := 10) rfl rfl) e184) ?_
  refine zI (.bool x183) ?_
  obtain rfl := someI hF
  exact (zF (zA (meet ⟨(), (zL rfl zO), H.pick [0] (by decide)⟩)))
 rintro _ ρ w177 H
 have hF := hK178
 refine zZ (b := g176) rfl (fun c185 => ?_) (fun c185 => ?_)
 ·have hF := zQ c185 hF
  refine zC fun K186 hK186 => ?_
  refine zB ?_
  refine zH (xN (cs := [.bool false, .bool false, .bool false, .bool false, .bool false, .int .i64 2, .int .i64 200]) (bt211_5_6 _ _)) ?_
  refine yS rfl (yI (vs := [.bool false, .bool false, .bool false, .bool false, .bool false, .int .i64 2, .int .i64 200]) H 0 rfl sz211 rfl rfl rfl ⟨rfl, rfl, rfl, rfl, rfl, rfl, rfl, trivial⟩ rfl) ?_
  rintro w187 H
  refine zI (.bool true) ?_
  refine (zF (zA (hK186 _ _ ?_)))
  obtain rfl := someI hF
  refine (yB (yE (zX (postc1 (v1 := .bool true) rfl rfl (yD agg211 sz211 rfl (Blk.cells (H.item (i := 0) rfl))) rfl ?_))))
  exact ⟨rfl, H.pick [] (by decide)⟩
 have hF := zS c185 hF
 obtain ⟨g194, hF, hK196⟩ := zD hF
 refine yO [30, 31, 32] (fun (g : Unit) => [(30, .bool g194)]) (fun g wl => Hd O w wl S [.blk b2 [.bool false, .bool false, .bool false, .bool false, .bool false, .int .i64 0, .int .i64 0] 211]) ?_ ?_
 ·skip
  refine zC fun K197 hK197 => ?_
  refine zB ?_
  obtain ⟨x198, e199, hF⟩ := zG hF
  refine zH (zV (xH (a := p0) (b := 11) rfl rfl) e199) ?_
  refine zI (.bool x198) ?_
  refine (zF (zA (hK197 _ _ ?_)))
  refine zZ (b := x198) rfl (fun c200 => ?_) (fun c200 => ?_)
  ·have hF := zQ c200 hF
   obtain rfl := someI hF
   exact (yA (zA (meet ⟨(), (zL rfl zO), H.pick [0] (by decide)⟩)))
  have hF := zS c200 hF
  refine zB ?_
  obtain ⟨x201, e202, hF⟩ := zG hF
  refine zH (zV (xH (a := p0) (b := 12) rfl rfl) e202) ?_
  refine zI (.bool x201) ?_
  obtain rfl := someI hF
  exact (zF (zA (meet ⟨(), (zL rfl zO), H.pick [0] (by decide)⟩)))
 rintro _ ρ w195 H
 have hF := hK196
 refine zZ (b := g194) rfl (fun c203 => ?_) (fun c203 => ?_)
 ·have hF := zQ c203 hF
  refine zC fun K204 hK204 => ?_
  refine zB ?_
  refine zH (xN (cs := [.bool false, .bool false, .bool false, .bool false, .bool true, .int .i64 1, .int .i64 1]) (bt211_4_5_6 _ _ _)) ?_
  refine yS rfl (yI (vs := [.bool false, .bool false, .bool false, .bool false, .bool true, .int .i64 1, .int .i64 1]) H 0 rfl sz211 rfl rfl rfl ⟨rfl, rfl, rfl, rfl, rfl, rfl, rfl, trivial⟩ rfl) ?_
  rintro w205 H
  refine zI (.bool true) ?_
  refine (zF (zA (hK204 _ _ ?_)))
  obtain rfl := someI hF
  refine (yB (yE (zX (postc1 (v1 := .bool true) rfl rfl (yD agg211 sz211 rfl (Blk.cells (H.item (i := 0) rfl))) rfl ?_))))
  exact ⟨rfl, H.pick [] (by decide)⟩
 have hF := zS c203 hF
 refine zC fun K206 hK206 => ?_
 refine zB ?_
 obtain ⟨x207, e208, hF⟩ := zG hF
 refine zH (zV (xH (a := p0) (b := 13) rfl rfl) e208) ?_
 refine zI (.bool x207) ?_
 refine (zF (zA (hK206 _ _ ?_)))
 refine zZ (b := x207) rfl (fun c209 => ?_) (fun c209 => ?_)
 ·have hF := zQ c209 hF
  refine zC fun K210 hK210 => ?_
  refine zB ?_
  refine zH (xN (cs := [.bool false, .bool false, .bool false, .bool true, .bool true, .int .i64 1, .int .i64 1]) (bt211_3_4_5_6 _ _ _ _)) ?_
  refine yS rfl (yI (vs := [.bool false, .bool false, .bool false, .bool true, .bool true, .int .i64 1, .int .i64 1]) H 0 rfl sz211 rfl rfl rfl ⟨rfl, rfl, rfl, rfl, rfl, rfl, rfl, trivial⟩ rfl) ?_
  rintro w211 H
  refine zI (.bool true) ?_
  refine (zF (zA (hK210 _ _ ?_)))
  obtain rfl := someI hF
  refine (yB (yE (zX (postc1 (v1 := .bool true) rfl rfl (yD agg211 sz211 rfl (Blk.cells (H.item (i := 0) rfl))) rfl ?_))))
  exact ⟨rfl, H.pick [] (by decide)⟩
 have hF := zS c209 hF
 refine zC fun K212 hK212 => ?_
 refine zB ?_
 obtain ⟨x213, e214, hF⟩ := zG hF
 refine zH (zV (xH (a := p0) (b := 14) rfl rfl) e214) ?_
 refine zI (.bool x213) ?_
 refine (zF (zA (hK212 _ _ ?_)))
 refine zZ (b := x213) rfl (fun c215 => ?_) (fun c215 => ?_)
 ·have hF := zQ c215 hF
  refine zC fun K216 hK216 => ?_
  refine zB ?_
  refine zH (xN (cs := [.bool false, .bool false, .bool false, .bool false, .bool false, .int .i64 2, .int .i64 2]) (bt211_5_6 _ _)) ?_
  refine yS rfl (yI (vs := [.bool false, .bool false, .bool false, .bool false, .bool false, .int .i64 2, .int .i64 2]) H 0 rfl sz211 rfl rfl rfl ⟨rfl, rfl, rfl, rfl, rfl, rfl, rfl, trivial⟩ rfl) ?_
  rintro w217 H
  refine zI (.bool true) ?_
  refine (zF (zA (hK216 _ _ ?_)))
  obtain rfl := someI hF
  refine (yB (yE (zX (postc1 (v1 := .bool true) rfl rfl (yD agg211 sz211 rfl (Blk.cells (H.item (i := 0) rfl))) rfl ?_))))
  exact ⟨rfl, H.pick [] (by decide)⟩
 have hF := zS c215 hF
 refine (yA (yU (zA (hK96 _ _ ?_))))
 refine zC fun K218 hK218 => ?_
 refine zB ?_
 refine zH (xN (cs := [.bool false, .bool false, .bool false, .bool false, .bool false, .int .i64 0, .int .i64 0]) bz211) ?_
 refine yS rfl (yI (vs := [.bool false, .bool false, .bool false, .bool false, .bool false, .int .i64 0, .int .i64 0]) H 0 rfl sz211 rfl rfl rfl ⟨rfl, rfl, rfl, rfl, rfl, rfl, rfl, trivial⟩ rfl) ?_
 rintro w219 H
 refine zI (.bool false) ?_
 refine (zF (zA (hK218 _ _ ?_)))
 obtain rfl := someI hF
 refine (yB (postc1 (v1 := .bool false) rfl rfl (yD agg211 sz211 rfl (Blk.cells (H.item (i := 0) rfl))) rfl ?_))
 exact ⟨rfl, H.pick [] (by decide)⟩
set_option maxHeartbeats 4000000 in
set_option maxRecDepth 100000 in
theorem F_event_checkOne_w (p0 : Cond) (v1 : Value) (r : Int) (hF : F_event_checkOne p0 = some r) (O S : List Nat) (w : World) (H : Hd O w w S [.fz (.sl rCond v1 p0.Kids)]) :
  Calls Tryz.prog 109 ([.agg [.int .i64 p0.Kind, .string (bs p0.Name), .string (bs p0.Other), .int .i64 p0.Op, .int .i64 p0.N, .int .i64 p0.Frames, v1].toArray] : List Value).toArray w fun e w' => e = .returned (.int .i64 r) ∧ Hd O w w' S [] := by
 unfold F_event_checkOne at hF
 refine yC 140 Tryz.func109 rfl rfl rfl ?_
 refine zC fun K3 hK3 => ?_
 refine zB ?_
 refine yT rfl rfl (wL (cs := [.int .i64 p0.Kind, .string (bs p0.Name), .string (bs p0.Other), .int .i64 p0.Op, .int .i64 p0.N, .int .i64 p0.Frames, v1]) rfl H) ?_
 rintro _ w6 ⟨b4, rfl, H⟩
 refine zI (.int .i64 0) ?_
 refine (zF (zA (hK3 _ _ ?_)))
 refine zC fun K7 hK7 => ?_
 refine zB ?_
 refine zH (fa54_0 rfl) ?_
 refine zH (zM one3 rfl (Cells.get (Blk.cells (H.item (i := 1) rfl)) (i := 0) rfl)) ?_
 have H8 := H
 obtain ⟨⟨x9, x10⟩, e11, hF⟩ := zD hF
 refine zW rfl rfl (zT en157 rfl) (F_event_fieldsOf_w p0.Kind _ e11 _ _ _ (H.enter [] [] (by decide) rfl)) ?_
 rintro _ w12 ⟨rfl, G13⟩
 have H := H8.step (G13.only : Only [] _ _)
 refine ⟨_, rfl, ?_⟩
 refine zN (.tuple #[.agg [.bool x9.name, .bool x9.other, .bool x9.op, .bool x9.n, .bool x9.frames, .int .i64 x9.least, .int .i64 x9.most].toArray, .bool x10]) ?_
 refine zH (wG (v := .agg [.bool x9.name, .bool x9.other, .bool x9.op, .bool x9.n, .bool x9.frames, .int .i64 x9.least, .int .i64 x9.most].toArray) rfl rfl) ?_
 refine zH (wG (v := .bool x10) rfl rfl) ?_
 refine yT rfl rfl (xG zero211 H) ?_
 rintro _ w16 ⟨b14, rfl, H⟩
 refine yS rfl (yI (vs := [.bool x9.name, .bool x9.other, .bool x9.op, .bool x9.n, .bool x9.frames, .int .i64 x9.least, .int .i64 x9.most]) H 2 rfl sz211 rfl rfl rfl ⟨rfl, rfl, rfl, rfl, rfl, rfl, rfl, trivial⟩ rfl) ?_
 rintro w17 H
 refine zI (.bool x10) ?_
 refine (zF (zA (hK7 _ _ ?_)))
 refine zC fun K23 hK23 => ?_
 refine zC fun K24 hK24 => ?_
 refine zB ?_
 refine zN (.bool x10) ?_
 obtain ⟨x25, e26, hF⟩ := zG hF
 refine zH (zV (wO (p := x10) rfl) e26) ?_
 refine (zF (zA (hK24 _ _ ?_)))
 refine zZ (b := x25) rfl (fun c27 => ?_) (fun c27 => ?_)
 ·have hF := zQ c27 hF
  refine zC fun K28 hK28 => ?_
  refine zB ?_
  refine zI (.int .i64 7) ?_
  refine (zF (zA (hK28 _ _ ?_)))
  obtain rfl := someI hF
  refine (yB (zX (post1 (v1 := .int .i64 7) rfl rfl ?_)))
  exact ⟨rfl, H.pick [] (by decide)⟩
 have hF := zS c27 hF
 refine (yA (zA (hK23 _ _ ?_)))
 refine zC fun K91 hK91 => ?_
 obtain ⟨g149, hF, hK151⟩ := zD hF
 refine yO [13, 14, 15, 16, 17, 18, 19, 20, 21, 22, 23, 24, 25, 26, 27, 28, 29, 30, 31, 32, 33, 34, 35, 36, 37, 38, 39, 40, 41, 42, 43, 44, 45, 46, 47, 48, 49, 50, 51, 52, 53, 54, 55, 56, 57, 58, 59, 60, 61, 62, 63, 64, 65, 66, 67, 68, 69, 70, 71] (fun (g : Unit) => [(71, .bool g149)]) (fun g wl => Hd O w wl S [.fz (.sl rCond v1 p0.Kids), .blk b4 [.int .i64 p0.Kind, .string (bs p0.Name), .string (bs p0.Other), .int .i64 p0.Op, .int .i64 p0.N, .int .i64 p0.Frames, v1] 54, .blk b14 [.bool x9.name, .bool x9.other, .bool x9.op, .bool x9.n, .bool x9.frames, .int .i64 x9.least, .int .i64 x9.most] 211]) ?_ ?_
 ·skip
  refine zB ?_
  refine zH (fa211_0 rfl) ?_
  refine zH (zM one4 rfl (Cells.get (Blk.cells (H.item (i := 2) rfl)) (i := 0) rfl)) ?_
  obtain ⟨x152, e153, hF⟩ := zG hF
  refine zH (zV (wO (p := x9.name) rfl) e153) ?_
  obtain ⟨j154, hF, hK155⟩ := zD hF
  refine RL_cutS 5 [16, 17, 18, 19, 20] [(20, .bool j154)] (fun wl => Hd O w wl S [.fz (.sl rCond v1 p0.Kids), .blk b4 [.int .i64 p0.Kind, .string (bs p0.Name), .string (bs p0.Other), .int .i64 p0.Op, .int .i64 p0.N, .int .i64 p0.Frames, v1] 54, .blk b14 [.bool x9.name, .bool x9.other, .bool x9.op, .bool x9.n, .bool x9.frames, .int .i64 x9.least, .int .i64 x9.most] 211]) ?_ ?_
  ·skip
   refine yQ (b := x152) rfl rfl rfl (fun c157 => ?_) (fun c157 => ?_)
   ·have hF := zQ c157 hF
    refine zH (fa54_1 rfl) ?_
    refine zH (zM one9 rfl (Cells.get (Blk.cells (H.item (i := 1) rfl)) (i := 1) rfl)) ?_
    obtain ⟨x158, e159, hF⟩ := zG hF
    refine zH (zV (Do_neqs (s1 := p0.Name) (s2 := []) rfl rfl) e159) ?_
    refine zH (yP (v := .bool x158) rfl rfl) ?_
    obtain rfl := someI hF
    exact zF (zA (meet ⟨(zL rfl zO), H.pick [0, 1, 2] (by decide)⟩))
   have hF := zS c157 hF
   refine yG ?_
   refine yG ?_
   refine yG ?_
   refine zH (yJ (v := .bool false) rfl rfl) ?_
   obtain rfl := someI hF
   exact zF (zA (meet ⟨(zL rfl zO), H.pick [0, 1, 2] (by decide)⟩))
  rintro ρ w156 H
  have hF := hK155
  obtain ⟨j160, hF, hK161⟩ := zD hF
  refine RL_cutS 10 [21, 22, 23, 24, 25, 26, 27, 28, 29, 30] [(30, .bool j160)] (fun wl => Hd O w wl S [.fz (.sl rCond v1 p0.Kids), .blk b4 [.int .i64 p0.Kind, .string (bs p0.Name), .string (bs p0.Other), .int .i64 p0.Op, .int .i64 p0.N, .int .i64 p0.Frames, v1] 54, .blk b14 [.bool x9.name, .bool x9.other, .bool x9.op, .bool x9.n, .bool x9.frames, .int .i64 x9.least, .int .i64 x9.most] 211]) ?_ ?_
  ·skip
   refine yQ (b := j154) rfl rfl rfl (fun c163 => ?_) (fun c163 => ?_)
   ·have hF := zQ c163 hF
    refine yG ?_
    refine yG ?_
    refine yG ?_
    refine yG ?_
    refine yG ?_
    refine yG ?_
    refine yG ?_
    refine yG ?_
    refine zH (yP (v := .bool true) rfl rfl) ?_
    obtain rfl := someI hF
    exact zF (zA (meet ⟨(zL rfl zO), H.pick [0, 1, 2] (by decide)⟩))
   have hF := zS c163 hF
   refine zH (fa211_1 rfl) ?_
   refine zH (zM one4 rfl (Cells.get (Blk.cells (H.item (i := 2) rfl)) (i := 1) rfl)) ?_
   obtain ⟨x164, e165, hF⟩ := zG hF
   refine zH (zV (wO (p := x9.other) rfl) e165) ?_
   refine yQ (b := x164) rfl rfl rfl (fun c166 => ?_) (fun c166 => ?_)
   ·have hF := zQ c166 hF
    refine zH (fa54_2 rfl) ?_
    refine zH (zM one9 rfl (Cells.get (Blk.cells (H.item (i := 1) rfl)) (i := 2) rfl)) ?_
    obtain ⟨x167, e168, hF⟩ := zG hF
    refine zH (zV (Do_neqs (s1 := p0.Other) (s2 := []) rfl rfl) e168) ?_
    refine zH (yP (v := .bool x167) rfl rfl) ?_
    refine zH (yJ (v := .bool x167) rfl rfl) ?_
    obtain rfl := someI hF
    exact zF (zA (meet ⟨(zL rfl zO), H.pick [0, 1, 2] (by decide)⟩))
   have hF := zS c166 hF
   refine yG ?_
   refine yG ?_
   refine yG ?_
   refine zH (yJ (v := .bool false) rfl rfl) ?_
   refine zH (yJ (v := .bool false) rfl rfl) ?_
   obtain rfl := someI hF
   exact zF (zA (meet ⟨(zL rfl zO), H.pick [0, 1, 2] (by decide)⟩))
  rintro ρ w162 H
  have hF := hK161
  obtain ⟨j169, hF, hK170⟩ := zD hF
  refine RL_cutS 10 [31, 32, 33, 34, 35, 36, 37, 38, 39, 40] [(40, .bool j169)] (fun wl => Hd O w wl S [.fz (.sl rCond v1 p0.Kids), .blk b4 [.int .i64 p0.Kind, .string (bs p0.Name), .string (bs p0.Other), .int .i64 p0.Op, .int .i64 p0.N, .int .i64 p0.Frames, v1] 54, .blk b14 [.bool x9.name, .bool x9.other, .bool x9.op, .bool x9.n, .bool x9.frames, .int .i64 x9.least, .int .i64 x9.most] 211]) ?_ ?_
  ·skip
   refine yQ (b := j160) rfl rfl rfl (fun c172 => ?_) (fun c172 => ?_)
   ·have hF := zQ c172 hF
    refine yG ?_
    refine yG ?_
    refine yG ?_
    refine yG ?_
    refine yG ?_
    refine yG ?_
    refine yG ?_
    refine yG ?_
    refine zH (yP (v := .bool true) rfl rfl) ?_
    obtain rfl := someI hF
    exact zF (zA (meet ⟨(zL rfl zO), H.pick [0, 1, 2] (by decide)⟩))
   have hF := zS c172 hF
   refine zH (fa211_2 rfl) ?_
   refine zH (zM one4 rfl (Cells.get (Blk.cells (H.item (i := 2) rfl)) (i := 2) rfl)) ?_
   obtain ⟨x173, e174, hF⟩ := zG hF
   refine zH (zV (wO (p := x9.op) rfl) e174) ?_
   refine yQ (b := x173) rfl rfl rfl (fun c175 => ?_) (fun c175 => ?_)
   ·have hF := zQ c175 hF
    refine zH (fa54_3 rfl) ?_
    refine zH (zM one3 rfl (Cells.get (Blk.cells (H.item (i := 1) rfl)) (i := 3) rfl)) ?_
    obtain ⟨x176, e177, hF⟩ := zG hF
    refine zH (zV (Do_neq (a := p0.Op) (b := 0) rfl rfl) e177) ?_
    refine zH (yP (v := .bool x176) rfl rfl) ?_
    refine zH (yJ (v := .bool x176) rfl rfl) ?_
    obtain rfl := someI hF
    exact zF (zA (meet ⟨(zL rfl zO), H.pick [0, 1, 2] (by decide)⟩))
   have hF := zS c175 hF
   refine yG ?_
   refine yG ?_
   refine yG ?_
   refine zH (yJ (v := .bool false) rfl rfl) ?_
   refine zH (yJ (v := .bool false) rfl rfl) ?_
   obtain rfl := someI hF
   exact zF (zA (meet ⟨(zL rfl zO), H.pick [0, 1, 2] (by decide)⟩))
  rintro ρ w171 H
  have hF := hK170
  obtain ⟨j178, hF, hK179⟩ := zD hF
  refine RL_cutS 10 [41, 42, 43, 44, 45, 46, 47, 48, 49, 50] [(50, .bool j178)] (fun wl => Hd O w wl S [.fz (.sl rCond v1 p0.Kids), .blk b4 [.int .i64 p0.Kind, .string (bs p0.Name), .string (bs p0.Other), .int .i64 p0.Op, .int .i64 p0.N, .int .i64 p0.Frames, v1] 54, .blk b14 [.bool x9.name, .bool x9.other, .bool x9.op, .bool x9.n, .bool x9.frames, .int .i64 x9.least, .int .i64 x9.most] 211]) ?_ ?_
  ·skip
   refine yQ (b := j169) rfl rfl rfl (fun c181 => ?_) (fun c181 => ?_)
   ·have hF := zQ c181 hF
    refine yG ?_
    refine yG ?_
    refine yG ?_
    refine yG ?_
    refine yG ?_
    refine yG ?_
    refine yG ?_
    refine yG ?_
    refine zH (yP (v := .bool true) rfl rfl) ?_
    obtain rfl := someI hF
    exact zF (zA (meet ⟨(zL rfl zO), H.pick [0, 1, 2] (by decide)⟩))
   have hF := zS c181 hF
   refine zH (fa211_3 rfl) ?_
   refine zH (zM one4 rfl (Cells.get (Blk.cells (H.item (i := 2) rfl)) (i := 3) rfl)) ?_
   obtain ⟨x182, e183, hF⟩ := zG hF
   refine zH (zV (wO (p := x9.n) rfl) e183) ?_
   refine yQ (b := x182) rfl rfl rfl (fun c184 => ?_) (fun c184 => ?_)
   ·have hF := zQ c184 hF
    refine zH (fa54_4 rfl) ?_
    refine zH (zM one3 rfl (Cells.get (Blk.cells (H.item (i := 1) rfl)) (i := 4) rfl)) ?_
    obtain ⟨x185, e186, hF⟩ := zG hF
    refine zH (zV (Do_neq (a := p0.N) (b := 0) rfl rfl) e186) ?_
    refine zH (yP (v := .bool x185) rfl rfl) ?_
    refine zH (yJ (v := .bool x185) rfl rfl) ?_
    obtain rfl := someI hF
    exact zF (zA (meet ⟨(zL rfl zO), H.pick [0, 1, 2] (by decide)⟩))
   have hF := zS c184 hF
   refine yG ?_
   refine yG ?_
   refine yG ?_
   refine zH (yJ (v := .bool false) rfl rfl) ?_
   refine zH (yJ (v := .bool false) rfl rfl) ?_
   obtain rfl := someI hF
   exact zF (zA (meet ⟨(zL rfl zO), H.pick [0, 1, 2] (by decide)⟩))
  rintro ρ w180 H
  have hF := hK179
  obtain ⟨j187, hF, hK188⟩ := zD hF
  refine RL_cutS 10 [51, 52, 53, 54, 55, 56, 57, 58, 59, 60] [(60, .bool j187)] (fun wl => Hd O w wl S [.fz (.sl rCond v1 p0.Kids), .blk b4 [.int .i64 p0.Kind, .string (bs p0.Name), .string (bs p0.Other), .int .i64 p0.Op, .int .i64 p0.N, .int .i64 p0.Frames, v1] 54, .blk b14 [.bool x9.name, .bool x9.other, .bool x9.op, .bool x9.n, .bool x9.frames, .int .i64 x9.least, .int .i64 x9.most] 211]) ?_ ?_
  ·skip
   refine yQ (b := j178) rfl rfl rfl (fun c190 => ?_) (fun c190 => ?_)
   ·have hF := zQ c190 hF
    refine yG ?_
    refine yG ?_
    refine yG ?_
    refine yG ?_
    refine yG ?_
    refine yG ?_
    refine yG ?_
    refine yG ?_
    refine zH (yP (v := .bool true) rfl rfl) ?_
    obtain rfl := someI hF
    exact zF (zA (meet ⟨(zL rfl zO), H.pick [0, 1, 2] (by decide)⟩))
   have hF := zS c190 hF
   refine zH (fa211_4 rfl) ?_
   refine zH (zM one4 rfl (Cells.get (Blk.cells (H.item (i := 2) rfl)) (i := 4) rfl)) ?_
   obtain ⟨x191, e192, hF⟩ := zG hF
   refine zH (zV (wO (p := x9.frames) rfl) e192) ?_
   refine yQ (b := x191) rfl rfl rfl (fun c193 => ?_) (fun c193 => ?_)
   ·have hF := zQ c193 hF
    refine zH (fa54_5 rfl) ?_
    refine zH (zM one3 rfl (Cells.get (Blk.cells (H.item (i := 1) rfl)) (i := 5) rfl)) ?_
    obtain ⟨x194, e195, hF⟩ := zG hF
    refine zH (zV (Do_neq (a := p0.Frames) (b := 0) rfl rfl) e195) ?_
    refine zH (yP (v := .bool x194) rfl rfl) ?_
    refine zH (yJ (v := .bool x194) rfl rfl) ?_
    obtain rfl := someI hF
    exact zF (zA (meet ⟨(zL rfl zO), H.pick [0, 1, 2] (by decide)⟩))
   have hF := zS c193 hF
   refine yG ?_
   refine yG ?_
   refine yG ?_
   refine zH (yJ (v := .bool false) rfl rfl) ?_
   refine zH (yJ (v := .bool false) rfl rfl) ?_
   obtain rfl := someI hF
   exact zF (zA (meet ⟨(zL rfl zO), H.pick [0, 1, 2] (by decide)⟩))
  rintro ρ w189 H
  have hF := hK188
  refine yQ (b := j187) rfl rfl rfl (fun c196 => ?_) (fun c196 => ?_)
  ·have hF := zQ c196 hF
   refine yG ?_
   refine yG ?_
   refine yG ?_
   refine yG ?_
   refine yG ?_
   refine yG ?_
   refine yG ?_
   refine yG ?_
   refine yG ?_
   refine zH (yP (v := .bool true) rfl rfl) ?_
   obtain rfl := someI hF
   exact (zF (zA (meet ⟨(), (zL rfl zO), H.pick [0, 1, 2] (by decide)⟩)))
  have hF := zS c196 hF
  refine zH (fa54_6 rfl) ?_
  refine zH (zM one52 rfl (Cells.get (Blk.cells (H.item (i := 1) rfl)) (i := 6) rfl)) ?_
  obtain ⟨x197, e198, hF⟩ := zG hF
  obtain ⟨a199, c200, q201⟩ := SlF.len ((H.item (i := 0) rfl))
  refine zH (yL (xW u52 q201) (congrArg (Value.int .i64) e198)) ?_
  refine zH (fa211_5 rfl) ?_
  refine zH (zM one3 rfl (Cells.get (Blk.cells (H.item (i := 2) rfl)) (i := 5) rfl)) ?_
  refine zH (fa211_6 rfl) ?_
  refine zH (zM one3 rfl (Cells.get (Blk.cells (H.item (i := 2) rfl)) (i := 6) rfl)) ?_
  have H202 := H
  obtain ⟨x203, e204, hF⟩ := zD hF
  refine zW rfl rfl (zT en60 rfl) (F_event_within_w x197 x9.least x9.most _ e204 _ _ _ (H.enter [] [] (by decide) rfl)) ?_
  rintro _ w205 ⟨rfl, G206⟩
  have H := H202.step (G206.only : Only [] _ _)
  refine ⟨_, rfl, ?_⟩
  obtain ⟨x207, e208, hF⟩ := zG hF
  refine zH (zV (wO (p := x203) rfl) e208) ?_
  refine zH (yJ (v := .bool x207) rfl rfl) ?_
  obtain rfl := someI hF
  exact (zF (zA (meet ⟨(), (zL rfl zO), H.pick [0, 1, 2] (by decide)⟩)))
 rintro _ ρ w150 H
 have hF := hK151
 refine zZ (b := g149) rfl (fun c209 => ?_) (fun c209 => ?_)
 ·have hF := zQ c209 hF
  refine zC fun K210 hK210 => ?_
  refine zB ?_
  refine zI (.int .i64 2) ?_
  refine (zF (zA (hK210 _ _ ?_)))
  obtain rfl := someI hF
  refine (yB (zX (post1 (v1 := .int .i64 2) rfl rfl ?_)))
  exact ⟨rfl, H.pick [] (by decide)⟩
 have hF := zS c209 hF
 refine (yA (zA (hK91 _ _ ?_)))
 refine zC fun K299 hK299 => ?_
 refine yF ?_
 obtain ⟨g320, hF, hK322⟩ := zD hF
 refine yO [72, 73, 74, 75, 76, 77, 78, 79, 80, 81, 82, 83, 84, 85, 86, 87, 88, 89, 90] (fun (g : Unit) => [(72, .bool g320)]) (fun g wl => Hd O w wl S [.fz (.sl rCond v1 p0.Kids), .blk b4 [.int .i64 p0.Kind, .string (bs p0.Name), .string (bs p0.Other), .int .i64 p0.Op, .int .i64 p0.N, .int .i64 p0.Frames, v1] 54, .blk b14 [.bool x9.name, .bool x9.other, .bool x9.op, .bool x9.n, .bool x9.frames, .int .i64 x9.least, .int .i64 x9.most] 211]) ?_ ?_
 ·skip
  refine zB ?_
  refine zH (fa211_0 rfl) ?_
  refine zH (zM one4 rfl (Cells.get (Blk.cells (H.item (i := 2) rfl)) (i := 0) rfl)) ?_
  obtain ⟨j323, hF, hK324⟩ := zD hF
  refine RL_cutS 6 [75, 76, 77, 78, 79, 80] [(80, .bool j323)] (fun wl => Hd O w wl S [.fz (.sl rCond v1 p0.Kids), .blk b4 [.int .i64 p0.Kind, .string (bs p0.Name), .string (bs p0.Other), .int .i64 p0.Op, .int .i64 p0.N, .int .i64 p0.Frames, v1] 54, .blk b14 [.bool x9.name, .bool x9.other, .bool x9.op, .bool x9.n, .bool x9.frames, .int .i64 x9.least, .int .i64 x9.most] 211]) ?_ ?_
  ·skip
   refine yQ (b := x9.name) rfl rfl rfl (fun c326 => ?_) (fun c326 => ?_)
   ·have hF := zQ c326 hF
    refine zH (fa54_1 rfl) ?_
    refine zH (zM one9 rfl (Cells.get (Blk.cells (H.item (i := 1) rfl)) (i := 1) rfl)) ?_
    have H327 := H
    obtain ⟨x328, e329, hF⟩ := zD hF
    refine zW rfl rfl (zT en68 rfl) (F_event_isName_w p0.Name _ e329 _ _ _ (H.enter [] [] (by decide) rfl)) ?_
    rintro _ w330 ⟨rfl, G331⟩
    have H := H327.step (G331.only : Only [] _ _)
    refine ⟨_, rfl, ?_⟩
    obtain ⟨x332, e333, hF⟩ := zG hF
    refine zH (zV (wO (p := x328) rfl) e333) ?_
    refine zH (yP (v := .bool x332) rfl rfl) ?_
    obtain rfl := someI hF
    exact zF (zA (meet ⟨(zL rfl zO), H.pick [0, 1, 2] (by decide)⟩))
   have hF := zS c326 hF
   refine yG ?_
   refine yG ?_
   refine yG ?_
   refine yG ?_
   refine zH (yJ (v := .bool false) rfl rfl) ?_
   obtain rfl := someI hF
   exact zF (zA (meet ⟨(zL rfl zO), H.pick [0, 1, 2] (by decide)⟩))
  rintro ρ w325 H
  have hF := hK324
  refine yQ (b := j323) rfl rfl rfl (fun c334 => ?_) (fun c334 => ?_)
  ·have hF := zQ c334 hF
   refine yG ?_
   refine yG ?_
   refine yG ?_
   refine yG ?_
   refine yG ?_
   refine yG ?_
   refine yG ?_
   refine yG ?_
   refine zH (yP (v := .bool true) rfl rfl) ?_
   refine zI (.bool true) ?_
   obtain rfl := someI hF
   exact (zF (zA (meet ⟨(), (zL rfl zO), H.pick [0, 1, 2] (by decide)⟩)))
  have hF := zS c334 hF
  refine zH (fa211_1 rfl) ?_
  refine zH (zM one4 rfl (Cells.get (Blk.cells (H.item (i := 2) rfl)) (i := 1) rfl)) ?_
  refine yQ (b := x9.other) rfl rfl rfl (fun c335 => ?_) (fun c335 => ?_)
  ·have hF := zQ c335 hF
   refine zH (fa54_2 rfl) ?_
   refine zH (zM one9 rfl (Cells.get (Blk.cells (H.item (i := 1) rfl)) (i := 2) rfl)) ?_
   have H336 := H
   obtain ⟨x337, e338, hF⟩ := zD hF
   refine zW rfl rfl (zT en68 rfl) (F_event_isName_w p0.Other _ e338 _ _ _ (H.enter [] [] (by decide) rfl)) ?_
   rintro _ w339 ⟨rfl, G340⟩
   have H := H336.step (G340.only : Only [] _ _)
   refine ⟨_, rfl, ?_⟩
   obtain ⟨x341, e342, hF⟩ := zG hF
   refine zH (zV (wO (p := x337) rfl) e342) ?_
   refine zH (yP (v := .bool x341) rfl rfl) ?_
   refine zH (yJ (v := .bool x341) rfl rfl) ?_
   refine zI (.bool x341) ?_
   obtain rfl := someI hF
   exact (zF (zA (meet ⟨(), (zL rfl zO), H.pick [0, 1, 2] (by decide)⟩)))
  have hF := zS c335 hF
  refine yG ?_
  refine yG ?_
  refine yG ?_
  refine yG ?_
  refine zH (yJ (v := .bool false) rfl rfl) ?_
  refine zH (yJ (v := .bool false) rfl rfl) ?_
  refine zI (.bool false) ?_
  obtain rfl := someI hF
  exact (zF (zA (meet ⟨(), (zL rfl zO), H.pick [0, 1, 2] (by decide)⟩)))
 rintro _ ρ w321 H
 have hF := hK322
 refine zZ (b := g320) rfl (fun c343 => ?_) (fun c343 => ?_)
 ·have hF := zQ c343 hF
  refine zC fun K344 hK344 => ?_
  refine zB ?_
  refine zI (.int .i64 8) ?_
  refine (zF (zA (hK344 _ _ ?_)))
  obtain rfl := someI hF
  refine (yB (yE (zX (post1 (v1 := .int .i64 8) rfl rfl ?_))))
  exact ⟨rfl, H.pick [] (by decide)⟩
 have hF := zS c343 hF
 obtain ⟨g353, hF, hK355⟩ := zD hF
 refine yO [91, 92, 93, 94, 95, 96, 97, 98, 99] (fun (g : Unit) => [(91, .bool g353)]) (fun g wl => Hd O w wl S [.fz (.sl rCond v1 p0.Kids), .blk b4 [.int .i64 p0.Kind, .string (bs p0.Name), .string (bs p0.Other), .int .i64 p0.Op, .int .i64 p0.N, .int .i64 p0.Frames, v1] 54, .blk b14 [.bool x9.name, .bool x9.other, .bool x9.op, .bool x9.n, .bool x9.frames, .int .i64 x9.least, .int .i64 x9.most] 211]) ?_ ?_
 ·skip
  refine zB ?_
  refine zH (fa211_2 rfl) ?_
  refine zH (zM one4 rfl (Cells.get (Blk.cells (H.item (i := 2) rfl)) (i := 2) rfl)) ?_
  refine yQ (b := x9.op) rfl rfl rfl (fun c356 => ?_) (fun c356 => ?_)
  ·have hF := zQ c356 hF
   refine zH (fa54_3 rfl) ?_
   refine zH (zM one3 rfl (Cells.get (Blk.cells (H.item (i := 1) rfl)) (i := 3) rfl)) ?_
   have H357 := H
   obtain ⟨x358, e359, hF⟩ := zD hF
   refine zW rfl rfl (zT en60 rfl) (F_event_within_w p0.Op 1 6 _ e359 _ _ _ (H.enter [] [] (by decide) rfl)) ?_
   rintro _ w360 ⟨rfl, G361⟩
   have H := H357.step (G361.only : Only [] _ _)
   refine ⟨_, rfl, ?_⟩
   obtain ⟨x362, e363, hF⟩ := zG hF
   refine zH (zV (wO (p := x358) rfl) e363) ?_
   refine zH (yP (v := .bool x362) rfl rfl) ?_
   refine zI (.bool x362) ?_
   obtain rfl := someI hF
   exact (zF (zA (meet ⟨(), (zL rfl zO), H.pick [0, 1, 2] (by decide)⟩)))
  have hF := zS c356 hF
  refine yG ?_
  refine yG ?_
  refine yG ?_
  refine yG ?_
  refine zH (yJ (v := .bool false) rfl rfl) ?_
  refine zI (.bool false) ?_
  obtain rfl := someI hF
  exact (zF (zA (meet ⟨(), (zL rfl zO), H.pick [0, 1, 2] (by decide)⟩)))
 rintro _ ρ w354 H
 have hF := hK355
 refine zZ (b := g353) rfl (fun c364 => ?_) (fun c364 => ?_)
 ·have hF := zQ c364 hF
  refine zC fun K365 hK365 => ?_
  refine zB ?_
  refine zI (.int .i64 7) ?_
  refine (zF (zA (hK365 _ _ ?_)))
  obtain rfl := someI hF
  refine (yB (yE (zX (post1 (v1 := .int .i64 7) rfl rfl ?_))))
  exact ⟨rfl, H.pick [] (by decide)⟩
 have hF := zS c364 hF
 obtain ⟨g374, hF, hK376⟩ := zD hF
 refine yO [100, 101, 102, 103, 104, 105, 106, 107, 108] (fun (g : Unit) => [(100, .bool g374)]) (fun g wl => Hd O w wl S [.fz (.sl rCond v1 p0.Kids), .blk b4 [.int .i64 p0.Kind, .string (bs p0.Name), .string (bs p0.Other), .int .i64 p0.Op, .int .i64 p0.N, .int .i64 p0.Frames, v1] 54, .blk b14 [.bool x9.name, .bool x9.other, .bool x9.op, .bool x9.n, .bool x9.frames, .int .i64 x9.least, .int .i64 x9.most] 211]) ?_ ?_
 ·skip
  refine zB ?_
  refine zH (fa211_4 rfl) ?_
  refine zH (zM one4 rfl (Cells.get (Blk.cells (H.item (i := 2) rfl)) (i := 4) rfl)) ?_
  refine yQ (b := x9.frames) rfl rfl rfl (fun c377 => ?_) (fun c377 => ?_)
  ·have hF := zQ c377 hF
   refine zH (fa54_5 rfl) ?_
   refine zH (zM one3 rfl (Cells.get (Blk.cells (H.item (i := 1) rfl)) (i := 5) rfl)) ?_
   have H378 := H
   obtain ⟨x379, e380, hF⟩ := zD hF
   refine zW rfl rfl (zT en60 rfl) (F_event_within_w p0.Frames 1 4096 _ e380 _ _ _ (H.enter [] [] (by decide) rfl)) ?_
   rintro _ w381 ⟨rfl, G382⟩
   have H := H378.step (G382.only : Only [] _ _)
   refine ⟨_, rfl, ?_⟩
   obtain ⟨x383, e384, hF⟩ := zG hF
   refine zH (zV (wO (p := x379) rfl) e384) ?_
   refine zH (yP (v := .bool x383) rfl rfl) ?_
   refine zI (.bool x383) ?_
   obtain rfl := someI hF
   exact (zF (zA (meet ⟨(), (zL rfl zO), H.pick [0, 1, 2] (by decide)⟩)))
  have hF := zS c377 hF
  refine yG ?_
  refine yG ?_
  refine yG ?_
  refine yG ?_
  refine zH (yJ (v := .bool false) rfl rfl) ?_
  refine zI (.bool false) ?_
  obtain rfl := someI hF
  exact (zF (zA (meet ⟨(), (zL rfl zO), H.pick [0, 1, 2] (by decide)⟩)))
 rintro _ ρ w375 H
 have hF := hK376
 refine zZ (b := g374) rfl (fun c385 => ?_) (fun c385 => ?_)
 ·have hF := zQ c385 hF
  refine zC fun K386 hK386 => ?_
  refine zB ?_
  refine zI (.int .i64 9) ?_
  refine (zF (zA (hK386 _ _ ?_)))
  obtain rfl := someI hF
  refine (yB (yE (zX (post1 (v1 := .int .i64 9) rfl rfl ?_))))
  exact ⟨rfl, H.pick [] (by decide)⟩
 have hF := zS c385 hF
 obtain ⟨g397, hF, hK399⟩ := zD hF
 refine yO [109, 110, 111, 112, 113, 114, 115, 116, 117, 118, 119, 120] (fun (g : Unit) => [(109, .bool g397)]) (fun g wl => Hd O w wl S [.fz (.sl rCond v1 p0.Kids), .blk b4 [.int .i64 p0.Kind, .string (bs p0.Name), .string (bs p0.Other), .int .i64 p0.Op, .int .i64 p0.N, .int .i64 p0.Frames, v1] 54, .blk b14 [.bool x9.name, .bool x9.other, .bool x9.op, .bool x9.n, .bool x9.frames, .int .i64 x9.least, .int .i64 x9.most] 211]) ?_ ?_
 ·skip
  refine zB ?_
  refine zH (fa54_0 rfl) ?_
  refine zH (zM one3 rfl (Cells.get (Blk.cells (H.item (i := 1) rfl)) (i := 0) rfl)) ?_
  obtain ⟨x400, e401, hF⟩ := zG hF
  refine zH (zV (xH (a := p0.Kind) (b := 13) rfl rfl) e401) ?_
  refine yQ (b := x400) rfl rfl rfl (fun c402 => ?_) (fun c402 => ?_)
  ·have hF := zQ c402 hF
   refine zH (fa54_4 rfl) ?_
   refine zH (zM one3 rfl (Cells.get (Blk.cells (H.item (i := 1) rfl)) (i := 4) rfl)) ?_
   refine zH (fa54_5 rfl) ?_
   refine zH (zM one3 rfl (Cells.get (Blk.cells (H.item (i := 1) rfl)) (i := 5) rfl)) ?_
   have H403 := H
   obtain ⟨x404, e405, hF⟩ := zD hF
   refine zW rfl rfl (zT en60 rfl) (F_event_within_w p0.N 1 p0.Frames _ e405 _ _ _ (H.enter [] [] (by decide) rfl)) ?_
   rintro _ w406 ⟨rfl, G407⟩
   have H := H403.step (G407.only : Only [] _ _)
   refine ⟨_, rfl, ?_⟩
   obtain ⟨x408, e409, hF⟩ := zG hF
   refine zH (zV (wO (p := x404) rfl) e409) ?_
   refine zH (yP (v := .bool x408) rfl rfl) ?_
   refine zI (.bool x408) ?_
   obtain rfl := someI hF
   exact (zF (zA (meet ⟨(), (zL rfl zO), H.pick [0, 1, 2] (by decide)⟩)))
  have hF := zS c402 hF
  refine yG ?_
  refine yG ?_
  refine yG ?_
  refine yG ?_
  refine yG ?_
  refine yG ?_
  refine zH (yJ (v := .bool false) rfl rfl) ?_
  refine zI (.bool false) ?_
  obtain rfl := someI hF
  exact (zF (zA (meet ⟨(), (zL rfl zO), H.pick [0, 1, 2] (by decide)⟩)))
 rintro _ ρ w398 H
 have hF := hK399
 refine zZ (b := g397) rfl (fun c410 => ?_) (fun c410 => ?_)
 ·have hF := zQ c410 hF
  refine zC fun K411 hK411 => ?_
  refine zB ?_
  refine zI (.int .i64 9) ?_
  refine (zF (zA (hK411 _ _ ?_)))
  obtain rfl := someI hF
  refine (yB (yE (zX (post1 (v1 := .int .i64 9) rfl rfl ?_))))
  exact ⟨rfl, H.pick [] (by decide)⟩
 have hF := zS c410 hF
 obtain ⟨g429, hF, hK431⟩ := zD hF
 refine yO [121, 122, 123, 124, 125, 126, 127, 128, 129, 130, 131, 132, 133, 134, 135, 136, 137, 138, 139] (fun (g : Unit) => [(121, .bool g429)]) (fun g wl => Hd O w wl S []) ?_ ?_
 ·skip
  refine zB ?_
  refine zH (fa211_3 rfl) ?_
  refine zH (zM one4 rfl (Cells.get (Blk.cells (H.item (i := 2) rfl)) (i := 3) rfl)) ?_
  obtain ⟨j432, hF, hK433⟩ := zD hF
  refine RL_cutS 6 [124, 125, 126, 127, 128, 129] [(129, .bool j432)] (fun wl => Hd O w wl S [.fz (.sl rCond v1 p0.Kids), .blk b4 [.int .i64 p0.Kind, .string (bs p0.Name), .string (bs p0.Other), .int .i64 p0.Op, .int .i64 p0.N, .int .i64 p0.Frames, v1] 54, .blk b14 [.bool x9.name, .bool x9.other, .bool x9.op, .bool x9.n, .bool x9.frames, .int .i64 x9.least, .int .i64 x9.most] 211]) ?_ ?_
  ·skip
   refine yQ (b := x9.n) rfl rfl rfl (fun c435 => ?_) (fun c435 => ?_)
   ·have hF := zQ c435 hF
    refine zH (fa54_4 rfl) ?_
    refine zH (zM one3 rfl (Cells.get (Blk.cells (H.item (i := 1) rfl)) (i := 4) rfl)) ?_
    have H436 := H
    obtain ⟨x437, e438, hF⟩ := zD hF
    refine zW rfl rfl (zT en60 rfl) (F_event_within_w p0.N (-1125899906842624) 1125899906842624 _ e438 _ _ _ (H.enter [] [] (by decide) rfl)) ?_
    rintro _ w439 ⟨rfl, G440⟩
    have H := H436.step (G440.only : Only [] _ _)
    refine ⟨_, rfl, ?_⟩
    obtain ⟨x441, e442, hF⟩ := zG hF
    refine zH (zV (wO (p := x437) rfl) e442) ?_
    refine zH (yP (v := .bool x441) rfl rfl) ?_
    obtain rfl := someI hF
    exact zF (zA (meet ⟨(zL rfl zO), H.pick [0, 1, 2] (by decide)⟩))
   have hF := zS c435 hF
   refine yG ?_
   refine yG ?_
   refine yG ?_
   refine yG ?_
   refine zH (yJ (v := .bool false) rfl rfl) ?_
   obtain rfl := someI hF
   exact zF (zA (meet ⟨(zL rfl zO), H.pick [0, 1, 2] (by decide)⟩))
  rintro ρ w434 H
  have hF := hK433
  refine yQ (b := j432) rfl rfl rfl (fun c443 => ?_) (fun c443 => ?_)
  ·have hF := zQ c443 hF
   refine yG ?_
   refine yG ?_
   refine yG ?_
   refine yG ?_
   refine yG ?_
   refine yG ?_
   refine yG ?_
   refine yG ?_
   refine zH (yP (v := .bool true) rfl rfl) ?_
   refine zI (.bool true) ?_
   obtain rfl := someI hF
   exact (zF (zA (meet ⟨(), (zL rfl zO), H.pick [] (by decide)⟩)))
  have hF := zS c443 hF
  refine zH (fa54_0 rfl) ?_
  refine zH (zM one3 rfl (Cells.get (Blk.cells (H.item (i := 1) rfl)) (i := 0) rfl)) ?_
  obtain ⟨x444, e445, hF⟩ := zG hF
  refine zH (zV (xH (a := p0.Kind) (b := 5) rfl rfl) e445) ?_
  refine yQ (b := x444) rfl rfl rfl (fun c446 => ?_) (fun c446 => ?_)
  ·have hF := zQ c446 hF
   refine zH (fa54_4 rfl) ?_
   refine zH (zM one3 rfl (Cells.get (Blk.cells (H.item (i := 1) rfl)) (i := 4) rfl)) ?_
   obtain ⟨x447, e448, hF⟩ := zG hF
   refine zH (zV (xQ (a := p0.N) (b := 0) rfl rfl) e448) ?_
   refine zH (yP (v := .bool x447) rfl rfl) ?_
   refine zH (yJ (v := .bool x447) rfl rfl) ?_
   refine zI (.bool x447) ?_
   obtain rfl := someI hF
   exact (zF (zA (meet ⟨(), (zL rfl zO), H.pick [] (by decide)⟩)))
  have hF := zS c446 hF
  refine yG ?_
  refine yG ?_
  refine yG ?_
  refine zH (yJ (v := .bool false) rfl rfl) ?_
  refine zH (yJ (v := .bool false) rfl rfl) ?_
  refine zI (.bool false) ?_
  obtain rfl := someI hF
  exact (zF (zA (meet ⟨(), (zL rfl zO), H.pick [] (by decide)⟩)))
 rintro _ ρ w430 H
 have hF := hK431
 refine zZ (b := g429) rfl (fun c449 => ?_) (fun c449 => ?_)
 ·have hF := zQ c449 hF
  refine zC fun K450 hK450 => ?_
  refine zB ?_
  refine zI (.int .i64 9) ?_
  refine (zF (zA (hK450 _ _ ?_)))
  obtain rfl := someI hF
  refine (yB (yE (zX (post1 (v1 := .int .i64 9) rfl rfl ?_))))
  exact ⟨rfl, H.pick [] (by decide)⟩
 have hF := zS c449 hF
 refine (yA (yU (zA (hK299 _ _ ?_))))
 refine zC fun K451 hK451 => ?_
 refine zB ?_
 refine zI (.int .i64 0) ?_
 refine (zF (zA (hK451 _ _ ?_)))
 obtain rfl := someI hF
 refine (yB (post1 (v1 := .int .i64 0) rfl rfl ?_))
 exact ⟨rfl, H.pick [] (by decide)⟩
abbrev S_event_each_event_checkOne (f : Cond → Option Int) : Prop := ∀ (p0 : Cond) (v1 : Value) (r : Int) (hF : f p0 = some r) (O S : List Nat) (w : World) (H : Hd O w w S [.fz (.sl rCond v1 p0.Kids)]),
  Calls Tryz.prog 108 ([.agg [.int .i64 p0.Kind, .string (bs p0.Name), .string (bs p0.Other), .int .i64 p0.Op, .int .i64 p0.N, .int .i64 p0.Frames, v1].toArray, .func (.func 109) #[] #[]] : List Value).toArray w fun e w' => e = .returned (.int .i64 r) ∧ Hd O w w' S []
set_option maxHeartbeats 4000000 in
theorem F_event_each_event_checkOne_B_w (rfD : Cond → Option Int) (rhD : S_event_each_event_checkOne rfD) (p0 : Cond) (v1 : Value) (r : Int) (hF : F_event_each_event_checkOne_B rfD p0 = some r) (O S : List Nat) (w : World) (H : Hd O w w S [.fz (.sl rCond v1 p0.Kids)]) :
  Calls Tryz.prog 108 ([.agg [.int .i64 p0.Kind, .string (bs p0.Name), .string (bs p0.Other), .int .i64 p0.Op, .int .i64 p0.N, .int .i64 p0.Frames, v1].toArray, .func (.func 109) #[] #[]] : List Value).toArray w fun e w' => e = .returned (.int .i64 r) ∧ Hd O w w' S [] := by
 unfold F_event_each_event_checkOne_B at hF
 refine yC 29 Tryz.func108 rfl rfl rfl ?_
 refine zC fun K3 hK3 => ?_
 refine zB ?_
 refine yT rfl rfl (wL (cs := [.int .i64 p0.Kind, .string (bs p0.Name), .string (bs p0.Other), .int .i64 p0.Op, .int .i64 p0.N, .int .i64 p0.Frames, v1]) rfl H) ?_
 rintro _ w6 ⟨b4, rfl, H⟩
 refine zI (.int .i64 0) ?_
 refine (zF (zA (hK3 _ _ ?_)))
 refine zC fun K18 hK18 => ?_
 refine zC fun K19 hK19 => ?_
 refine zB ?_
 refine zN (.func (.func 109) #[] #[]) ?_
 refine zH (yL (yH (cs := [.int .i64 p0.Kind, .string (bs p0.Name), .string (bs p0.Other), .int .i64 p0.Op, .int .i64 p0.N, .int .i64 p0.Frames, v1]) agg54 rfl sz54 rfl (Blk.cells (H.item (i := 1) rfl))) rfl) ?_
 have H20 := H
 obtain ⟨x21, e22, hF⟩ := zD hF
 refine zW rfl rfl (wP en109 rfl rfl) (F_event_checkOne_w p0 v1 _ e22 _ _ _ (H.enter [] [0] (by decide) rfl)) ?_
 rintro _ w23 ⟨rfl, G24⟩
 have H := H20.step (G24.only : Only [] _ _)
 refine ⟨_, rfl, ?_⟩
 refine zI (.int .i64 x21) ?_
 refine (zF (zA (hK19 _ _ ?_)))
 refine zC fun K25 hK25 => ?_
 refine zB ?_
 refine zN (.int .i64 x21) ?_
 obtain ⟨x26, e27, hF⟩ := zG hF
 refine zH (zV (Do_neq (a := x21) (b := 0) rfl rfl) e27) ?_
 refine (zF (zA (hK25 _ _ ?_)))
 refine zZ (b := x26) rfl (fun c28 => ?_) (fun c28 => ?_)
 ·have hF := zQ c28 hF
  refine zC fun K29 hK29 => ?_
  refine zB ?_
  refine zN (.int .i64 x21) ?_
  refine zI (.int .i64 x21) ?_
  refine (zF (zA (hK29 _ _ ?_)))
  obtain rfl := someI hF
  refine (yB (zX (post1 (v1 := .int .i64 x21) rfl rfl ?_)))
  exact ⟨rfl, H.pick [] (by decide)⟩
 have hF := zS c28 hF
 refine (yA (zA (hK18 _ _ ?_)))
 obtain ⟨k186, ek187, hF⟩ := xZ hF
 refine yO [4, 7, 8, 15, 16, 17, 18, 19, 20, 21, 22, 23, 24, 25, 26, 27, 28] (fun (g : Unit) => []) (fun g wl => Hd O w wl S [] ∧ k186 () = some r) ?_ ?_
 ·skip
  refine zC fun K188 hK188 => ?_
  refine zB ?_
  refine zH (fa54_6 rfl) ?_
  refine zH (zM one52 rfl (Cells.get (Blk.cells (H.item (i := 1) rfl)) (i := 6) rfl)) ?_
  obtain ⟨x189, e190, hF⟩ := zG hF
  obtain ⟨a191, c192, q193⟩ := SlF.len ((H.item (i := 0) rfl))
  refine zH (yL (xW u52 q193) (congrArg (Value.int .i64) e190)) ?_
  refine zN (.int .i64 0) ?_
  refine (zF (zA (hK188 _ _ ?_)))
  refine yF ?_
  unfold F_event_each_event_checkOne_B_L1 at hF
  obtain ⟨B338, n339, eB340, hF⟩ := yV hF
  refine xJ [4, 7, 8, 18, 19, 20, 21, 22, 23, 24, 25, 26, 27, 28] (fun (g : Nat × Int) => [(18, .int .i64 g.2)]) (fun g wl => Hd O w wl S [.fz (.sl rCond v1 p0.Kids)] ∧ loopN B338 g.1 g.2 = some r) (fun g => g.1) (n339, 0) (zL rfl zO) ⟨H.pick [0] (by decide), hF⟩ ?_
  clear H hF
  rintro ⟨n339, g337⟩ ρ w342 ⟨H, hF⟩
  obtain ⟨n343, rfl, hF⟩ := xB hF
  have hF := yZ eB340 hF
  refine zC fun K344 hK344 => ?_
  refine zB ?_
  obtain ⟨x345, e346, hF⟩ := zG hF
  refine zH (zV (xQ (a := g337) (b := x189) rfl rfl) e346) ?_
  refine (zF (zA (hK344 _ _ ?_)))
  refine zC fun K348 hK348 => ?_
  refine zZ (b := x345) rfl (fun c349 => ?_) (fun c349 => ?_)
  ·have hF := zQ c349 hF
   refine (yA (zA (hK348 _ _ ?_)))
   refine zC fun K381 hK381 => ?_
   refine yF ?_
   refine zC fun K382 hK382 => ?_
   refine zB ?_
   obtain ⟨x383, e384, hF⟩ := zD hF
   obtain ⟨b385, o386, c387, cs388, q389, h392, h390, h391, h393⟩ := wQ (H.item (i := 0) rfl) e384
   obtain ⟨v394, rfl, h395⟩ := wK h392
   have H := H.fzs [.at b385 (o386 + g337.toNat * 7) _, .sl rCond v394 x383.Kids] ⟨⟨h390, h391, h393⟩, h395, trivial⟩
   refine zH (xY u52 sz54 q389 rfl (yN e384).1 (yN e384).2.1 rfl rfl) ?_
   refine zH (yL (yH (cs := [.int .i64 x383.Kind, .string (bs x383.Name), .string (bs x383.Other), .int .i64 x383.Op, .int .i64 x383.N, .int .i64 x383.Frames, v394]) agg54 rfl sz54 rfl (H.item (i := 1) rfl).2.2) rfl) ?_
   refine yT rfl rfl (xG zero54 H) ?_
   rintro _ w400 ⟨b398, rfl, H⟩
   refine yS rfl (yI (vs := [.int .i64 x383.Kind, .string (bs x383.Name), .string (bs x383.Other), .int .i64 x383.Op, .int .i64 x383.N, .int .i64 x383.Frames, v394]) H 3 rfl sz54 rfl rfl rfl ⟨rfl, rfl, rfl, rfl, rfl, rfl, (xR (H.item (i := 2) rfl)), trivial⟩ rfl) ?_
   rintro w401 H
   refine (zF (zA (hK382 _ _ ?_)))
   refine zC fun K402 hK402 => ?_
   refine zB ?_
   refine zH (yL (yH (cs := [.int .i64 x383.Kind, .string (bs x383.Name), .string (bs x383.Other), .int .i64 x383.Op, .int .i64 x383.N, .int .i64 x383.Frames, v394]) agg54 rfl sz54 rfl (Blk.cells (H.item (i := 3) rfl))) rfl) ?_
   refine zN (.func (.func 109) #[] #[]) ?_
   have H403 := H
   obtain ⟨x404, e405, hF⟩ := zD hF
   refine zW rfl rfl (zT en108 rfl) (rhD x383 v394 _ e405 _ _ _ (H.enter [] [2] (by decide) rfl)) ?_
   rintro _ w406 ⟨rfl, G407⟩
   have H := H403.step (G407.only : Only [] _ _)
   refine ⟨_, rfl, ?_⟩
   refine zI (.int .i64 x404) ?_
   refine (zF (zA (hK402 _ _ ?_)))
   refine zC fun K408 hK408 => ?_
   refine zB ?_
   refine zN (.int .i64 x404) ?_
   obtain ⟨x409, e410, hF⟩ := zG hF
   refine zH (zV (Do_neq (a := x404) (b := 0) rfl rfl) e410) ?_
   refine (zF (zA (hK408 _ _ ?_)))
   refine zZ (b := x409) rfl (fun c411 => ?_) (fun c411 => ?_)
   ·have hF := zQ c411 hF
    refine zC fun K412 hK412 => ?_
    refine zB ?_
    refine zN (.int .i64 x404) ?_
    refine zI (.int .i64 x404) ?_
    refine (zF (zA (hK412 _ _ ?_)))
    obtain rfl := someI hF
    refine (yB (yE (zX (zX (yE (zX (post1 (v1 := .int .i64 x404) rfl rfl ?_)))))))
    exact ⟨rfl, H.pick [] (by decide)⟩
   have hF := zS c411 hF
   refine (yA (yU (zA (hK381 _ _ ?_))))
   refine zB ?_
   obtain ⟨x413, e414, hF⟩ := zG hF
   refine zH (xX (a := g337) (b := 1) rfl rfl e414) ?_
   refine zN (.int .i64 x413) ?_
   exact (zF (zA (meet ⟨(n343, x413), (zL rfl zO), ⟨H.pick [0] (by decide), hF⟩, Nat.lt_succ_self _⟩)))
  have hF := zS c349 hF
  exact (xP (yR (yR (xA (zA (meet ⟨(), zO, ⟨H.pick [] (by decide), hF⟩⟩))))))
 rintro _ ρ w185 ⟨H, hF⟩
 have hF := wI ek187 hF
 refine zC fun K415 hK415 => ?_
 refine zB ?_
 refine zI (.int .i64 0) ?_
 refine (zF (zA (hK415 _ _ ?_)))
 obtain rfl := someI hF
 refine (yB (post1 (v1 := .int .i64 0) rfl rfl ?_))
 exact ⟨rfl, H.pick [] (by decide)⟩
theorem F_event_each_event_checkOne_s : S_event_each_event_checkOne (F_event_each_event_checkOne) := by
 have h : ∀ n, S_event_each_event_checkOne (F_event_each_event_checkOne_R n) := by
  intro n
  induction n with
  | zero => intro p0 v1 r hF; cases hF
  | succ n ih => intro p0 v1 r hF; exact F_event_each_event_checkOne_B_w (F_event_each_event_checkOne_R n) ih p0 v1 r hF
 exact h FU
set_option maxHeartbeats 4000000 in
theorem F_event_CheckCond_w (p0 : Cond) (v1 : Value) (r : Int) (hF : F_event_CheckCond p0 = some r) (O S : List Nat) (w : World) (H : Hd O w w S [.fz (.sl rCond v1 p0.Kids)]) :
  Calls Tryz.prog 56 ([.agg [.int .i64 p0.Kind, .string (bs p0.Name), .string (bs p0.Other), .int .i64 p0.Op, .int .i64 p0.N, .int .i64 p0.Frames, v1].toArray] : List Value).toArray w fun e w' => e = .returned (.int .i64 r) ∧ Hd O w w' S [] := by
 unfold F_event_CheckCond at hF
 refine yC 9 Tryz.func56 rfl rfl rfl ?_
 refine zC fun K3 hK3 => ?_
 refine zB ?_
 refine yT rfl rfl (wL (cs := [.int .i64 p0.Kind, .string (bs p0.Name), .string (bs p0.Other), .int .i64 p0.Op, .int .i64 p0.N, .int .i64 p0.Frames, v1]) rfl H) ?_
 rintro _ w6 ⟨b4, rfl, H⟩
 refine zI (.int .i64 0) ?_
 refine (zF (zA (hK3 _ _ ?_)))
 refine zC fun K7 hK7 => ?_
 refine zB ?_
 refine yT rfl rfl (xG zero3 H) ?_
 rintro _ w10 ⟨b8, rfl, H⟩
 refine yS rfl (xM H 2 rfl sz3 rfl (v := .int .i64 0) rfl rfl rfl) ?_
 rintro w11 H
 refine (zF (zA (hK7 _ _ ?_)))
 refine zC fun K22 hK22 => ?_
 refine zC fun K23 hK23 => ?_
 refine zB ?_
 refine zH (yL (yH (cs := [.int .i64 p0.Kind, .string (bs p0.Name), .string (bs p0.Other), .int .i64 p0.Op, .int .i64 p0.N, .int .i64 p0.Frames, v1]) agg54 rfl sz54 rfl (Blk.cells (H.item (i := 1) rfl))) rfl) ?_
 obtain ⟨⟨x24, x25⟩, e26, hF⟩ := zD hF
 refine zW rfl rfl (zT en107 rfl) (F_event_small_s p0 20 0 v1 b8 _ e26 _ _ _ (H.enter [2] [0] (by decide) rfl)) ?_
 rintro _ w27 ⟨rfl, G28⟩
 have H : Hd O _ w27 _ [.fz (.sl rCond v1 p0.Kids), .blk b4 [.int .i64 p0.Kind, .string (bs p0.Name), .string (bs p0.Other), .int .i64 p0.Op, .int .i64 p0.N, .int .i64 p0.Frames, v1] 54, .blk b8 [.int .i64 x25] 3] := H.back [2] [0] rfl G28
 refine ⟨_, rfl, ?_⟩
 obtain ⟨x29, e30, hF⟩ := zG hF
 refine zH (zV (wO (p := x24) rfl) e30) ?_
 refine (zF (zA (hK23 _ _ ?_)))
 refine zZ (b := x29) rfl (fun c31 => ?_) (fun c31 => ?_)
 ·have hF := zQ c31 hF
  refine zC fun K32 hK32 => ?_
  refine zB ?_
  refine zI (.int .i64 3) ?_
  refine (zF (zA (hK32 _ _ ?_)))
  obtain rfl := someI hF
  refine (yB (zX (post1 (v1 := .int .i64 3) rfl rfl ?_)))
  exact ⟨rfl, H.pick [] (by decide)⟩
 have hF := zS c31 hF
 refine (yA (zA (hK22 _ _ ?_)))
 refine zC fun K33 hK33 => ?_
 refine zB ?_
 refine zH (yL (yH (cs := [.int .i64 p0.Kind, .string (bs p0.Name), .string (bs p0.Other), .int .i64 p0.Op, .int .i64 p0.N, .int .i64 p0.Frames, v1]) agg54 rfl sz54 rfl (Blk.cells (H.item (i := 1) rfl))) rfl) ?_
 have H34 := H
 obtain ⟨x35, e36, hF⟩ := zD hF
 refine zW rfl rfl (zT en108 rfl) (F_event_each_event_checkOne_s p0 v1 _ e36 _ _ _ (H.enter [] [0] (by decide) rfl)) ?_
 rintro _ w37 ⟨rfl, G38⟩
 have H := H34.step (G38.only : Only [] _ _)
 refine ⟨_, rfl, ?_⟩
 refine zI (.int .i64 x35) ?_
 refine (zF (zA (hK33 _ _ ?_)))
 obtain rfl := someI hF
 refine (yB (post1 (v1 := .int .i64 x35) rfl rfl ?_))
 exact ⟨rfl, H.pick [] (by decide)⟩
set_option maxHeartbeats 4000000 in
theorem F_event_checkMove_1_w (p0 : Cond) (v1 : Value) (r : Int) (hF : F_event_checkMove_1 p0 = some r) (O S : List Nat) (w : World) (H : Hd O w w S [.fz (.sl rCond v1 p0.Kids)]) :
  Calls Tryz.prog 145 ([.agg [.int .i64 p0.Kind, .string (bs p0.Name), .string (bs p0.Other), .int .i64 p0.Op, .int .i64 p0.N, .int .i64 p0.Frames, v1].toArray] : List Value).toArray w fun e w' => e = .returned (.int .i64 r) ∧ Hd O w w' S [] := by
 unfold F_event_checkMove_1 at hF
 refine yC 11 Tryz.func145 rfl rfl rfl ?_
 refine zC fun K3 hK3 => ?_
 refine zB ?_
 refine yT rfl rfl (wL (cs := [.int .i64 p0.Kind, .string (bs p0.Name), .string (bs p0.Other), .int .i64 p0.Op, .int .i64 p0.N, .int .i64 p0.Frames, v1]) rfl H) ?_
 rintro _ w6 ⟨b4, rfl, H⟩
 refine zI (.int .i64 0) ?_
 refine (zF (zA (hK3 _ _ ?_)))
 refine zC fun K17 hK17 => ?_
 obtain ⟨g23, hF, hK25⟩ := zD hF
 refine yO [3, 4, 5, 6, 7, 8, 9, 10] (fun (g : Unit) => [(10, .bool g23)]) (fun g wl => Hd O w wl S []) ?_ ?_
 ·skip
  refine zB ?_
  refine zH (fa54_0 rfl) ?_
  refine zH (zM one3 rfl (Cells.get (Blk.cells (H.item (i := 1) rfl)) (i := 0) rfl)) ?_
  obtain ⟨x26, e27, hF⟩ := zG hF
  refine zH (zV (xH (a := p0.Kind) (b := 6) rfl rfl) e27) ?_
  refine yQ (b := x26) rfl rfl rfl (fun c28 => ?_) (fun c28 => ?_)
  ·have hF := zQ c28 hF
   refine yG ?_
   refine yG ?_
   refine yG ?_
   refine zH (yP (v := .bool true) rfl rfl) ?_
   obtain rfl := someI hF
   exact (zF (zA (meet ⟨(), (zL rfl zO), H.pick [] (by decide)⟩)))
  have hF := zS c28 hF
  refine zH (fa54_0 rfl) ?_
  refine zH (zM one3 rfl (Cells.get (Blk.cells (H.item (i := 1) rfl)) (i := 0) rfl)) ?_
  obtain ⟨x29, e30, hF⟩ := zG hF
  refine zH (zV (xH (a := p0.Kind) (b := 7) rfl rfl) e30) ?_
  refine zH (yJ (v := .bool x29) rfl rfl) ?_
  obtain rfl := someI hF
  exact (zF (zA (meet ⟨(), (zL rfl zO), H.pick [] (by decide)⟩)))
 rintro _ ρ w24 H
 have hF := hK25
 refine zZ (b := g23) rfl (fun c31 => ?_) (fun c31 => ?_)
 ·have hF := zQ c31 hF
  refine zC fun K32 hK32 => ?_
  refine zB ?_
  refine zI (.int .i64 2) ?_
  refine (zF (zA (hK32 _ _ ?_)))
  obtain rfl := someI hF
  refine (yB (zX (post1 (v1 := .int .i64 2) rfl rfl ?_)))
  exact ⟨rfl, H.pick [] (by decide)⟩
 have hF := zS c31 hF
 refine (yA (zA (hK17 _ _ ?_)))
 refine zC fun K33 hK33 => ?_
 refine zB ?_
 refine zI (.int .i64 0) ?_
 refine (zF (zA (hK33 _ _ ?_)))
 obtain rfl := someI hF
 refine (yB (post1 (v1 := .int .i64 0) rfl rfl ?_))
 exact ⟨rfl, H.pick [] (by decide)⟩
abbrev S_event_each_event_checkMove_1 (f : Cond → Option Int) : Prop := ∀ (p0 : Cond) (v1 : Value) (r : Int) (hF : f p0 = some r) (O S : List Nat) (w : World) (H : Hd O w w S [.fz (.sl rCond v1 p0.Kids)]),
  Calls Tryz.prog 108 ([.agg [.int .i64 p0.Kind, .string (bs p0.Name), .string (bs p0.Other), .int .i64 p0.Op, .int .i64 p0.N, .int .i64 p0.Frames, v1].toArray, .func (.func 145) #[] #[]] : List Value).toArray w fun e w' => e = .returned (.int .i64 r) ∧ Hd O w w' S []
set_option maxHeartbeats 4000000 in
theorem F_event_each_event_checkMove_1_B_w (rfE : Cond → Option Int) (rhE : S_event_each_event_checkMove_1 rfE) (p0 : Cond) (v1 : Value) (r : Int) (hF : F_event_each_event_checkMove_1_B rfE p0 = some r) (O S : List Nat) (w : World) (H : Hd O w w S [.fz (.sl rCond v1 p0.Kids)]) :
  Calls Tryz.prog 108 ([.agg [.int .i64 p0.Kind, .string (bs p0.Name), .string (bs p0.Other), .int .i64 p0.Op, .int .i64 p0.N, .int .i64 p0.Frames, v1].toArray, .func (.func 145) #[] #[]] : List Value).toArray w fun e w' => e = .returned (.int .i64 r) ∧ Hd O w w' S [] := by
 unfold F_event_each_event_checkMove_1_B at hF
 refine yC 29 Tryz.func108 rfl rfl rfl ?_
 refine zC fun K3 hK3 => ?_
 refine zB ?_
 refine yT rfl rfl (wL (cs := [.int .i64 p0.Kind, .string (bs p0.Name), .string (bs p0.Other), .int .i64 p0.Op, .int .i64 p0.N, .int .i64 p0.Frames, v1]) rfl H) ?_
 rintro _ w6 ⟨b4, rfl, H⟩
 refine zI (.int .i64 0) ?_
 refine (zF (zA (hK3 _ _ ?_)))
 refine zC fun K18 hK18 => ?_
 refine zC fun K19 hK19 => ?_
 refine zB ?_
 refine zN (.func (.func 145) #[] #[]) ?_
 refine zH (yL (yH (cs := [.int .i64 p0.Kind, .string (bs p0.Name), .string (bs p0.Other), .int .i64 p0.Op, .int .i64 p0.N, .int .i64 p0.Frames, v1]) agg54 rfl sz54 rfl (Blk.cells (H.item (i := 1) rfl))) rfl) ?_
 have H20 := H
 obtain ⟨x21, e22, hF⟩ := zD hF
 refine zW rfl rfl (wP en145 rfl rfl) (F_event_checkMove_1_w p0 v1 _ e22 _ _ _ (H.enter [] [0] (by decide) rfl)) ?_
 rintro _ w23 ⟨rfl, G24⟩
 have H := H20.step (G24.only : Only [] _ _)
 refine ⟨_, rfl, ?_⟩
 refine zI (.int .i64 x21) ?_
 refine (zF (zA (hK19 _ _ ?_)))
 refine zC fun K25 hK25 => ?_
 refine zB ?_
 refine zN (.int .i64 x21) ?_
 obtain ⟨x26, e27, hF⟩ := zG hF
 refine zH (zV (Do_neq (a := x21) (b := 0) rfl rfl) e27) ?_
 refine (zF (zA (hK25 _ _ ?_)))
 refine zZ (b := x26) rfl (fun c28 => ?_) (fun c28 => ?_)
 ·have hF := zQ c28 hF
  refine zC fun K29 hK29 => ?_
  refine zB ?_
  refine zN (.int .i64 x21) ?_
  refine zI (.int .i64 x21) ?_
  refine (zF (zA (hK29 _ _ ?_)))
  obtain rfl := someI hF
  refine (yB (zX (post1 (v1 := .int .i64 x21) rfl rfl ?_)))
  exact ⟨rfl, H.pick [] (by decide)⟩
 have hF := zS c28 hF
 refine (yA (zA (hK18 _ _ ?_)))
 obtain ⟨k186, ek187, hF⟩ := xZ hF
 refine yO [4, 7, 8, 15, 16, 17, 18, 19, 20, 21, 22, 23, 24, 25, 26, 27, 28] (fun (g : Unit) => []) (fun g wl => Hd O w wl S [] ∧ k186 () = some r) ?_ ?_
 ·skip
  refine zC fun K188 hK188 => ?_
  refine zB ?_
  refine zH (fa54_6 rfl) ?_
  refine zH (zM one52 rfl (Cells.get (Blk.cells (H.item (i := 1) rfl)) (i := 6) rfl)) ?_
  obtain ⟨x189, e190, hF⟩ := zG hF
  obtain ⟨a191, c192, q193⟩ := SlF.len ((H.item (i := 0) rfl))
  refine zH (yL (xW u52 q193) (congrArg (Value.int .i64) e190)) ?_
  refine zN (.int .i64 0) ?_
  refine (zF (zA (hK188 _ _ ?_)))
  refine yF ?_
  unfold F_event_each_event_checkMove_1_B_L1 at hF
  obtain ⟨B338, n339, eB340, hF⟩ := yV hF
  refine xJ [4, 7, 8, 18, 19, 20, 21, 22, 23, 24, 25, 26, 27, 28] (fun (g : Nat × Int) => [(18, .int .i64 g.2)]) (fun g wl => Hd O w wl S [.fz (.sl rCond v1 p0.Kids)] ∧ loopN B338 g.1 g.2 = some r) (fun g => g.1) (n339, 0) (zL rfl zO) ⟨H.pick [0] (by decide), hF⟩ ?_
  clear H hF
  rintro ⟨n339, g337⟩ ρ w342 ⟨H, hF⟩
  obtain ⟨n343, rfl, hF⟩ := xB hF
  have hF := yZ eB340 hF
  refine zC fun K344 hK344 => ?_
  refine zB ?_
  obtain ⟨x345, e346, hF⟩ := zG hF
  refine zH (zV (xQ (a := g337) (b := x189) rfl rfl) e346) ?_
  refine (zF (zA (hK344 _ _ ?_)))
  refine zC fun K348 hK348 => ?_
  refine zZ (b := x345) rfl (fun c349 => ?_) (fun c349 => ?_)
  ·have hF := zQ c349 hF
   refine (yA (zA (hK348 _ _ ?_)))
   refine zC fun K381 hK381 => ?_
   refine yF ?_
   refine zC fun K382 hK382 => ?_
   refine zB ?_
   obtain ⟨x383, e384, hF⟩ := zD hF
   obtain ⟨b385, o386, c387, cs388, q389, h392, h390, h391, h393⟩ := wQ (H.item (i := 0) rfl) e384
   obtain ⟨v394, rfl, h395⟩ := wK h392
   have H := H.fzs [.at b385 (o386 + g337.toNat * 7) _, .sl rCond v394 x383.Kids] ⟨⟨h390, h391, h393⟩, h395, trivial⟩
   refine zH (xY u52 sz54 q389 rfl (yN e384).1 (yN e384).2.1 rfl rfl) ?_
   refine zH (yL (yH (cs := [.int .i64 x383.Kind, .string (bs x383.Name), .string (bs x383.Other), .int .i64 x383.Op, .int .i64 x383.N, .int .i64 x383.Frames, v394]) agg54 rfl sz54 rfl (H.item (i := 1) rfl).2.2) rfl) ?_
   refine yT rfl rfl (xG zero54 H) ?_
   rintro _ w400 ⟨b398, rfl, H⟩
   refine yS rfl (yI (vs := [.int .i64 x383.Kind, .string (bs x383.Name), .string (bs x383.Other), .int .i64 x383.Op, .int .i64 x383.N, .int .i64 x383.Frames, v394]) H 3 rfl sz54 rfl rfl rfl ⟨rfl, rfl, rfl, rfl, rfl, rfl, (xR (H.item (i := 2) rfl)), trivial⟩ rfl) ?_
   rintro w401 H
   refine (zF (zA (hK382 _ _ ?_)))
   refine zC fun K402 hK402 => ?_
   refine zB ?_
   refine zH (yL (yH (cs := [.int .i64 x383.Kind, .string (bs x383.Name), .string (bs x383.Other), .int .i64 x383.Op, .int .i64 x383.N, .int .i64 x383.Frames, v394]) agg54 rfl sz54 rfl (Blk.cells (H.item (i := 3) rfl))) rfl) ?_
   refine zN (.func (.func 145) #[] #[]) ?_
   have H403 := H
   obtain ⟨x404, e405, hF⟩ := zD hF
   refine zW rfl rfl (zT en108 rfl) (rhE x383 v394 _ e405 _ _ _ (H.enter [] [2] (by decide) rfl)) ?_
   rintro _ w406 ⟨rfl, G407⟩
   have H := H403.step (G407.only : Only [] _ _)
   refine ⟨_, rfl, ?_⟩
   refine zI (.int .i64 x404) ?_
   refine (zF (zA (hK402 _ _ ?_)))
   refine zC fun K408 hK408 => ?_
   refine zB ?_
   refine zN (.int .i64 x404) ?_
   obtain ⟨x409, e410, hF⟩ := zG hF
   refine zH (zV (Do_neq (a := x404) (b := 0) rfl rfl) e410) ?_
   refine (zF (zA (hK408 _ _ ?_)))
   refine zZ (b := x409) rfl (fun c411 => ?_) (fun c411 => ?_)
   ·have hF := zQ c411 hF
    refine zC fun K412 hK412 => ?_
    refine zB ?_
    refine zN (.int .i64 x404) ?_
    refine zI (.int .i64 x404) ?_
    refine (zF (zA (hK412 _ _ ?_)))
    obtain rfl := someI hF
    refine (yB (yE (zX (zX (yE (zX (post1 (v1 := .int .i64 x404) rfl rfl ?_)))))))
    exact ⟨rfl, H.pick [] (by decide)⟩
   have hF := zS c411 hF
   refine (yA (yU (zA (hK381 _ _ ?_))))
   refine zB ?_
   obtain ⟨x413, e414, hF⟩ := zG hF
   refine zH (xX (a := g337) (b := 1) rfl rfl e414) ?_
   refine zN (.int .i64 x413) ?_
   exact (zF (zA (meet ⟨(n343, x413), (zL rfl zO), ⟨H.pick [0] (by decide), hF⟩, Nat.lt_succ_self _⟩)))
  have hF := zS c349 hF
  exact (xP (yR (yR (xA (zA (meet ⟨(), zO, ⟨H.pick [] (by decide), hF⟩⟩))))))
 rintro _ ρ w185 ⟨H, hF⟩
 have hF := wI ek187 hF
 refine zC fun K415 hK415 => ?_
 refine zB ?_
 refine zI (.int .i64 0) ?_
 refine (zF (zA (hK415 _ _ ?_)))
 obtain rfl := someI hF
 refine (yB (post1 (v1 := .int .i64 0) rfl rfl ?_))
 exact ⟨rfl, H.pick [] (by decide)⟩
theorem F_event_each_event_checkMove_1_s : S_event_each_event_checkMove_1 (F_event_each_event_checkMove_1) := by
 have h : ∀ n, S_event_each_event_checkMove_1 (F_event_each_event_checkMove_1_R n) := by
  intro n
  induction n with
  | zero => intro p0 v1 r hF; cases hF
  | succ n ih => intro p0 v1 r hF; exact F_event_each_event_checkMove_1_B_w (F_event_each_event_checkMove_1_R n) ih p0 v1 r hF
 exact h FU
end Go.Proofs.YtnajnkghilemhaaGreatDoor.L
