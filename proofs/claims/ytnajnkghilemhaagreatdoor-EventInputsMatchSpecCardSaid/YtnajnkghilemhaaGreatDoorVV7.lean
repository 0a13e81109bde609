/- Walks: what each function computes, for every argument; no condition but those that stand in the statements. -/
import Derived.Test.YtnajnkghilemhaaGreatDoorVV0
namespace Go.Proofs.YtnajnkghilemhaaGreatDoor.L
open Go.RowKit Go.OB Go.Lf
/- orangebox/event.fieldsOf -/
set_option maxHeartbeats 4000000 in
set_option maxRecDepth 100000 in
theorem F_event_fieldsOf_w (p0 : Int) (r : EventFields × Bool) (hF : F_event_fieldsOf p0 = some r) (O S : List Nat) (w : World) (H : Hd O w w S []) :
  Calls Tryz.prog 157 ([.int .i64 p0] : List Value).toArray w fun e w' => e = .returned (.tuple #[.agg [.bool r.1.name, .bool r.1.other, .bool r.1.op, .bool r.1.n, .bool r.1.frames, .int .i64 r.1.least, .int .i64 r.1.most].toArray, .bool r.2]) ∧ Hd O w w' S [] := by
 unfold F_event_fieldsOf at hF
 refine yD 41 Tryz.func157 rfl rfl rfl ?_
 refine zD fun K1 hK1 => ?_
 refine zC ?_
 refine yY rfl rfl (xJ zero211 H) ?_
 rintro _ w4 ⟨b2, rfl, H⟩
 refine zA rfl rfl (zG (v := .bool false) rfl) ?_
 refine (zJ (zB (hK1 _ _ ?_)))
 refine zD fun K96 hK96 => ?_
 refine zD fun K97 hK97 => ?_
 refine zC ?_
 refine zA rfl rfl (zK (v := .int .i64 p0) rfl) ?_
 refine (zJ (zB (hK97 _ _ ?_)))
 refine yM ?_
 obtain ⟨g104, hF, hK106⟩ := zI hF
 refine yQ [5, 6, 7] (fun (g : Unit) => [(5, .bool g104)]) (fun g wl => Hd O w wl S [.blk b2 [.bool false, .bool false, .bool false, .bool false, .bool false, .int .i64 0, .int .i64 0] 211]) ?_ ?_
 ·skip
  refine zD fun K107 hK107 => ?_
  refine zC ?_
  obtain ⟨x108, e109, hF⟩ := zF hF
  refine zA rfl rfl (zM (xC (a := p0) (b := 1) rfl rfl) (congrArg Value.bool e109)) ?_
  refine zA rfl rfl (zG (v := .bool x108) rfl) ?_
  refine (zJ (zB (hK107 _ _ ?_)))
  refine yH (b := x108) rfl (fun c110 => ?_) (fun c110 => ?_)
  ·have hF := zV c110 hF
   have hR := Option.some.inj hF
   subst hR
   refine (yI (zB (And.intro ?_ ?_)))
   ·repeat' (first | with_reducible exact zS | refine zZ rfl ?_ | refine zT rfl rfl ?_)
   exact ⟨(), (zQ rfl zU), H.pick [0] (by decide)⟩
  have hF := zW c110 hF
  refine zC ?_
  obtain ⟨x111, e112, hF⟩ := zF hF
  refine zA rfl rfl (zM (xC (a := p0) (b := 2) rfl rfl) (congrArg Value.bool e112)) ?_
  refine zA rfl rfl (zG (v := .bool x111) rfl) ?_
  have hR := Option.some.inj hF
  subst hR
  refine (zJ (zB (And.intro ?_ ?_)))
  ·repeat' (first | with_reducible exact zS | refine zZ rfl ?_ | refine zT rfl rfl ?_)
  exact ⟨(), (zQ rfl zU), H.pick [0] (by decide)⟩
 rintro _ ρ w105 H
 have hF := hK106
 refine yH (b := g104) rfl (fun c113 => ?_) (fun c113 => ?_)
 ·have hF := zV c113 hF
  refine zD fun K114 hK114 => ?_
  refine zC ?_
  refine zA rfl rfl (xM (cs := [.bool false, .bool false, .bool false, .bool false, .bool false, .int .i64 0, .int .i64 0]) bz211) ?_
  refine yV rfl (yN (vs := [.bool false, .bool false, .bool false, .bool false, .bool false, .int .i64 0, .int .i64 0]) H 0 rfl sz211 rfl rfl rfl ⟨rfl, rfl, rfl, rfl, rfl, rfl, rfl, trivial⟩ rfl) ?_
  rintro w115 H
  refine zA rfl rfl (zG (v := .bool true) rfl) ?_
  refine (zJ (zB (hK114 _ _ ?_)))
  have hR := Option.some.inj hF
  subst hR
  refine (yG (yJ (yC (postc1 (v1 := .bool true) rfl rfl (yL agg211 sz211 rfl (Blk.cells (H.item (i := 0) rfl))) rfl ?_))))
  exact ⟨rfl, H.pick [] (by decide)⟩
 have hF := zW c113 hF
 refine zD fun K116 hK116 => ?_
 refine zC ?_
 obtain ⟨x117, e118, hF⟩ := zF hF
 refine zA rfl rfl (zM (xC (a := p0) (b := 3) rfl rfl) (congrArg Value.bool e118)) ?_
 refine zA rfl rfl (zG (v := .bool x117) rfl) ?_
 refine (zJ (zB (hK116 _ _ ?_)))
 refine yH (b := x117) rfl (fun c119 => ?_) (fun c119 => ?_)
 ·have hF := zV c119 hF
  refine zD fun K120 hK120 => ?_
  refine zC ?_
  refine zA rfl rfl (xM (cs := [.bool true, .bool false, .bool true, .bool true, .bool false, .int .i64 0, .int .i64 0]) (bt211_0_2_3 _ _ _)) ?_
  refine yV rfl (yN (vs := [.bool true, .bool false, .bool true, .bool true, .bool false, .int .i64 0, .int .i64 0]) H 0 rfl sz211 rfl rfl rfl ⟨rfl, rfl, rfl, rfl, rfl, rfl, rfl, trivial⟩ rfl) ?_
  rintro w121 H
  refine zA rfl rfl (zG (v := .bool true) rfl) ?_
  refine (zJ (zB (hK120 _ _ ?_)))
  have hR := Option.some.inj hF
  subst hR
  refine (yG (yJ (yC (postc1 (v1 := .bool true) rfl rfl (yL agg211 sz211 rfl (Blk.cells (H.item (i := 0) rfl))) rfl ?_))))
  exact ⟨rfl, H.pick [] (by decide)⟩
 have hF := zW c119 hF
 refine zD fun K122 hK122 => ?_
 refine zC ?_
 obtain ⟨x123, e124, hF⟩ := zF hF
 refine zA rfl rfl (zM (xC (a := p0) (b := 4) rfl rfl) (congrArg Value.bool e124)) ?_
 refine zA rfl rfl (zG (v := .bool x123) rfl) ?_
 refine (zJ (zB (hK122 _ _ ?_)))
 refine yH (b := x123) rfl (fun c125 => ?_) (fun c125 => ?_)
 ·have hF := zV c125 hF
  refine zD fun K126 hK126 => ?_
  refine zC ?_
  refine zA rfl rfl (xM (cs := [.bool true, .bool true, .bool true, .bool false, .bool false, .int .i64 0, .int .i64 0]) (bt211_0_1_2 _ _ _)) ?_
  refine yV rfl (yN (vs := [.bool true, .bool true, .bool true, .bool false, .bool false, .int .i64 0, .int .i64 0]) H 0 rfl sz211 rfl rfl rfl ⟨rfl, rfl, rfl, rfl, rfl, rfl, rfl, trivial⟩ rfl) ?_
  rintro w127 H
  refine zA rfl rfl (zG (v := .bool true) rfl) ?_
  refine (zJ (zB (hK126 _ _ ?_)))
  have hR := Option.some.inj hF
  subst hR
  refine (yG (yJ (yC (postc1 (v1 := .bool true) rfl rfl (yL agg211 sz211 rfl (Blk.cells (H.item (i := 0) rfl))) rfl ?_))))
  exact ⟨rfl, H.pick [] (by decide)⟩
 have hF := zW c125 hF
 refine zD fun K128 hK128 => ?_
 refine zC ?_
 obtain ⟨x129, e130, hF⟩ := zF hF
 refine zA rfl rfl (zM (xC (a := p0) (b := 5) rfl rfl) (congrArg Value.bool e130)) ?_
 refine zA rfl rfl (zG (v := .bool x129) rfl) ?_
 refine (zJ (zB (hK128 _ _ ?_)))
 refine yH (b := x129) rfl (fun c131 => ?_) (fun c131 => ?_)
 ·have hF := zV c131 hF
  refine zD fun K132 hK132 => ?_
  refine zC ?_
  refine zA rfl rfl (xM (cs := [.bool true, .bool false, .bool false, .bool true, .bool true, .int .i64 0, .int .i64 0]) (bt211_0_3_4 _ _ _)) ?_
  refine yV rfl (yN (vs := [.bool true, .bool false, .bool false, .bool true, .bool true, .int .i64 0, .int .i64 0]) H 0 rfl sz211 rfl rfl rfl ⟨rfl, rfl, rfl, rfl, rfl, rfl, rfl, trivial⟩ rfl) ?_
  rintro w133 H
  refine zA rfl rfl (zG (v := .bool true) rfl) ?_
  refine (zJ (zB (hK132 _ _ ?_)))
  have hR := Option.some.inj hF
  subst hR
  refine (yG (yJ (yC (postc1 (v1 := .bool true) rfl rfl (yL agg211 sz211 rfl (Blk.cells (H.item (i := 0) rfl))) rfl ?_))))
  exact ⟨rfl, H.pick [] (by decide)⟩
 have hF := zW c131 hF
 obtain ⟨g140, hF, hK142⟩ := zI hF
 refine yQ [18, 19, 20] (fun (g : Unit) => [(18, .bool g140)]) (fun g wl => Hd O w wl S [.blk b2 [.bool false, .bool false, .bool false, .bool false, .bool false, .int .i64 0, .int .i64 0] 211]) ?_ ?_
 ·skip
  refine zD fun K143 hK143 => ?_
  refine zC ?_
  obtain ⟨x144, e145, hF⟩ := zF hF
  refine zA rfl rfl (zM (xC (a := p0) (b := 6) rfl rfl) (congrArg Value.bool e145)) ?_
  refine zA rfl rfl (zG (v := .bool x144) rfl) ?_
  refine (zJ (zB (hK143 _ _ ?_)))
  refine yH (b := x144) rfl (fun c146 => ?_) (fun c146 => ?_)
  ·have hF := zV c146 hF
   have hR := Option.some.inj hF
   subst hR
   refine (yI (zB (And.intro ?_ ?_)))
   ·repeat' (first | with_reducible exact zS | refine zZ rfl ?_ | refine zT rfl rfl ?_)
   exact ⟨(), (zQ rfl zU), H.pick [0] (by decide)⟩
  have hF := zW c146 hF
  refine zC ?_
  obtain ⟨x147, e148, hF⟩ := zF hF
  refine zA rfl rfl (zM (xC (a := p0) (b := 7) rfl rfl) (congrArg Value.bool e148)) ?_
  refine zA rfl rfl (zG (v := .bool x147) rfl) ?_
  have hR := Option.some.inj hF
  subst hR
  refine (zJ (zB (And.intro ?_ ?_)))
  ·repeat' (first | with_reducible exact zS | refine zZ rfl ?_ | refine zT rfl rfl ?_)
  exact ⟨(), (zQ rfl zU), H.pick [0] (by decide)⟩
 rintro _ ρ w141 H
 have hF := hK142
 refine yH (b := g140) rfl (fun c149 => ?_) (fun c149 => ?_)
 ·have hF := zV c149 hF
  refine zD fun K150 hK150 => ?_
  refine zC ?_
  refine zA rfl rfl (xM (cs := [.bool true, .bool false, .bool false, .bool false, .bool false, .int .i64 0, .int .i64 0]) (bt211_0 _)) ?_
  refine yV rfl (yN (vs := [.bool true, .bool false, .bool false, .bool false, .bool false, .int .i64 0, .int .i64 0]) H 0 rfl sz211 rfl rfl rfl ⟨rfl, rfl, rfl, rfl, rfl, rfl, rfl, trivial⟩ rfl) ?_
  rintro w151 H
  refine zA rfl rfl (zG (v := .bool true) rfl) ?_
  refine (zJ (zB (hK150 _ _ ?_)))
  have hR := Option.some.inj hF
  subst hR
  refine (yG (yJ (yC (postc1 (v1 := .bool true) rfl rfl (yL agg211 sz211 rfl (Blk.cells (H.item (i := 0) rfl))) rfl ?_))))
  exact ⟨rfl, H.pick [] (by decide)⟩
 have hF := zW c149 hF
 obtain ⟨g158, hF, hK160⟩ := zI hF
 refine yQ [22, 23, 24] (fun (g : Unit) => [(22, .bool g158)]) (fun g wl => Hd O w wl S [.blk b2 [.bool false, .bool false, .bool false, .bool false, .bool false, .int .i64 0, .int .i64 0] 211]) ?_ ?_
 ·skip
  refine zD fun K161 hK161 => ?_
  refine zC ?_
  obtain ⟨x162, e163, hF⟩ := zF hF
  refine zA rfl rfl (zM (xC (a := p0) (b := 8) rfl rfl) (congrArg Value.bool e163)) ?_
  refine zA rfl rfl (zG (v := .bool x162) rfl) ?_
  refine (zJ (zB (hK161 _ _ ?_)))
  refine yH (b := x162) rfl (fun c164 => ?_) (fun c164 => ?_)
  ·have hF := zV c164 hF
   have hR := Option.some.inj hF
   subst hR
   refine (yI (zB (And.intro ?_ ?_)))
   ·repeat' (first | with_reducible exact zS | refine zZ rfl ?_ | refine zT rfl rfl ?_)
   exact ⟨(), (zQ rfl zU), H.pick [0] (by decide)⟩
  have hF := zW c164 hF
  refine zC ?_
  obtain ⟨x165, e166, hF⟩ := zF hF
  refine zA rfl rfl (zM (xC (a := p0) (b := 15) rfl rfl) (congrArg Value.bool e166)) ?_
  refine zA rfl rfl (zG (v := .bool x165) rfl) ?_
  have hR := Option.some.inj hF
  subst hR
  refine (zJ (zB (And.intro ?_ ?_)))
  ·repeat' (first | with_reducible exact zS | refine zZ rfl ?_ | refine zT rfl rfl ?_)
  exact ⟨(), (zQ rfl zU), H.pick [0] (by decide)⟩
 rintro _ ρ w159 H
 have hF := hK160
 refine yH (b := g158) rfl (fun c167 => ?_) (fun c167 => ?_)
 ·have hF := zV c167 hF
  refine zD fun K168 hK168 => ?_
  refine zC ?_
  refine zA rfl rfl (xM (cs := [.bool false, .bool false, .bool false, .bool false, .bool false, .int .i64 1, .int .i64 1]) (bt211_5_6 _ _)) ?_
  refine yV rfl (yN (vs := [.bool false, .bool false, .bool false, .bool false, .bool false, .int .i64 1, .int .i64 1]) H 0 rfl sz211 rfl rfl rfl ⟨rfl, rfl, rfl, rfl, rfl, rfl, rfl, trivial⟩ rfl) ?_
  rintro w169 H
  refine zA rfl rfl (zG (v := .bool true) rfl) ?_
  refine (zJ (zB (hK168 _ _ ?_)))
  have hR := Option.some.inj hF
  subst hR
  refine (yG (yJ (yC (postc1 (v1 := .bool true) rfl rfl (yL agg211 sz211 rfl (Blk.cells (H.item (i := 0) rfl))) rfl ?_))))
  exact ⟨rfl, H.pick [] (by decide)⟩
 have hF := zW c167 hF
 obtain ⟨g176, hF, hK178⟩ := zI hF
 refine yQ [26, 27, 28] (fun (g : Unit) => [(26, .bool g176)]) (fun g wl => Hd O w wl S [.blk b2 [.bool false, .bool false, .bool false, .bool false, .bool false, .int .i64 0, .int .i64 0] 211]) ?_ ?_
 ·skip
  refine zD fun K179 hK179 => ?_
  refine zC ?_
  obtain ⟨x180, e181, hF⟩ := zF hF
  refine zA rfl rfl (zM (xC (a := p0) (b := 9) rfl rfl) (congrArg Value.bool e181)) ?_
  refine zA rfl rfl (zG (v := .bool x180) rfl) ?_
  refine (zJ (zB (hK179 _ _ ?_)))
  refine yH (b := x180) rfl (fun c182 => ?_) (fun c182 => ?_)
  ·have hF := zV c182 hF
   have hR := Option.some.inj hF
   subst hR
   refine (yI (zB (And.intro ?_ ?_)))
   ·repeat' (first | with_reducible exact zS | refine zZ rfl ?_ | refine zT rfl rfl ?_)
   exact ⟨(), (zQ rfl zU), H.pick [0] (by decide)⟩
  have hF := zW c182 hF
  refine zC ?_
  obtain ⟨x183, e184, hF⟩ := zF hF
  refine zA rfl rfl (zM (xC (a := p0) (b := 10) rfl rfl) (congrArg Value.bool e184)) ?_
  refine zA rfl rfl (zG (v := .bool x183) rfl) ?_
  have hR := Option.some.inj hF
  subst hR
  refine (zJ (zB (And.intro ?_ ?_)))
  ·repeat' (first | with_reducible exact zS | refine zZ rfl ?_ | refine zT rfl rfl ?_)
  exact ⟨(), (zQ rfl zU), H.pick [0] (by decide)⟩
 rintro _ ρ w177 H
 have hF := hK178
 refine yH (b := g176) rfl (fun c185 => ?_) (fun c185 => ?_)
 ·have hF := zV c185 hF
  refine zD fun K186 hK186 => ?_
  refine zC ?_
  refine zA rfl rfl (xM (cs := [.bool false, .bool false, .bool false, .bool false, .bool false, .int .i64 2, .int .i64 200]) (bt211_5_6 _ _)) ?_
  refine yV rfl (yN (vs := [.bool false, .bool false, .bool false, .bool false, .bool false, .int .i64 2, .int .i64 200]) H 0 rfl sz211 rfl rfl rfl ⟨rfl, rfl, rfl, rfl, rfl, rfl, rfl, trivial⟩ rfl) ?_
  rintro w187 H
  refine zA rfl rfl (zG (v := .bool true) rfl) ?_
  refine (zJ (zB (hK186 _ _ ?_)))
  have hR := Option.some.inj hF
  subst hR
  refine (yG (yJ (yC (postc1 (v1 := .bool true) rfl rfl (yL agg211 sz211 rfl (Blk.cells (H.item (i := 0) rfl))) rfl ?_))))
  exact ⟨rfl, H.pick [] (by decide)⟩
 have hF := zW c185 hF
 obtain ⟨g194, hF, hK196⟩ := zI hF
 refine yQ [30, 31, 32] (fun (g : Unit) => [(30, .bool g194)]) (fun g wl => Hd O w wl S [.blk b2 [.bool false, .bool false, .bool false, .bool false, .bool false, .int .i64 0, .int .i64 0] 211]) ?_ ?_
 ·skip
  refine zD fun K197 hK197 => ?_
  refine zC ?_
  obtain ⟨x198, e199, hF⟩ := zF hF
  refine zA rfl rfl (zM (xC (a := p0) (b := 11) rfl rfl) (congrArg Value.bool e199)) ?_
  refine zA rfl rfl (zG (v := .bool x198) rfl) ?_
  refine (zJ (zB (hK197 _ _ ?_)))
  refine yH (b := x198) rfl (fun c200 => ?_) (fun c200 => ?_)
  ·have hF := zV c200 hF
   have hR := Option.some.inj hF
   subst hR
   refine (yI (zB (And.intro ?_ ?_)))
   ·repeat' (first | with_reducible exact zS | refine zZ rfl ?_ | refine zT rfl rfl ?_)
   exact ⟨(), (zQ rfl zU), H.pick [0] (by decide)⟩
  have hF := zW c200 hF
  refine zC ?_
  obtain ⟨x201, e202, hF⟩ := zF hF
  refine zA rfl rfl (zM (xC (a := p0) (b := 12) rfl rfl) (congrArg Value.bool e202)) ?_
  refine zA rfl rfl (zG (v := .bool x201) rfl) ?_
  have hR := Option.some.inj hF
  subst hR
  refine (zJ (zB (And.intro ?_ ?_)))
  ·repeat' (first | with_reducible exact zS | refine zZ rfl ?_ | refine zT rfl rfl ?_)
  exact ⟨(), (zQ rfl zU), H.pick [0] (by decide)⟩
 rintro _ ρ w195 H
 have hF := hK196
 refine yH (b := g194) rfl (fun c203 => ?_) (fun c203 => ?_)
 ·have hF := zV c203 hF
  refine zD fun K204 hK204 => ?_
  refine zC ?_
  refine zA rfl rfl (xM (cs := [.bool false, .bool false, .bool false, .bool false, .bool true, .int .i64 1, .int .i64 1]) (bt211_4_5_6 _ _ _)) ?_
  refine yV rfl (yN (vs := [.bool false, .bool false, .bool false, .bool false, .bool true, .int .i64 1, .int .i64 1]) H 0 rfl sz211 rfl rfl rfl ⟨rfl, rfl, rfl, rfl, rfl, rfl, rfl, trivial⟩ rfl) ?_
  rintro w205 H
  refine zA rfl rfl (zG (v := .bool true) rfl) ?_
  refine (zJ (zB (hK204 _ _ ?_)))
  have hR := Option.some.inj hF
  subst hR
  refine (yG (yJ (yC (postc1 (v1 := .bool true) rfl rfl (yL agg211 sz211 rfl (Blk.cells (H.item (i := 0) rfl))) rfl ?_))))
  exact ⟨rfl, H.pick [] (by decide)⟩
 have hF := zW c203 hF
 refine zD fun K206 hK206 => ?_
 refine zC ?_
 obtain ⟨x207, e208, hF⟩ := zF hF
 refine zA rfl rfl (zM (xC (a := p0) (b := 13) rfl rfl) (congrArg Value.bool e208)) ?_
 refine zA rfl rfl (zG (v := .bool x207) rfl) ?_
 refine (zJ (zB (hK206 _ _ ?_)))
 refine yH (b := x207) rfl (fun c209 => ?_) (fun c209 => ?_)
 ·have hF := zV c209 hF
  refine zD fun K210 hK210 => ?_
  refine zC ?_
  refine zA rfl rfl (xM (cs := [.bool false, .bool false, .bool false, .bool true, .bool true, .int .i64 1, .int .i64 1]) (bt211_3_4_5_6 _ _ _ _)) ?_
  refine yV rfl (yN (vs := [.bool false, .bool false, .bool false, .bool true, .bool true, .int .i64 1, .int .i64 1]) H 0 rfl sz211 rfl rfl rfl ⟨rfl, rfl, rfl, rfl, rfl, rfl, rfl, trivial⟩ rfl) ?_
  rintro w211 H
  refine zA rfl rfl (zG (v := .bool true) rfl) ?_
  refine (zJ (zB (hK210 _ _ ?_)))
  have hR := Option.some.inj hF
  subst hR
  refine (yG (yJ (yC (postc1 (v1 := .bool true) rfl rfl (yL agg211 sz211 rfl (Blk.cells (H.item (i := 0) rfl))) rfl ?_))))
  exact ⟨rfl, H.pick [] (by decide)⟩
 have hF := zW c209 hF
 refine zD fun K212 hK212 => ?_
 refine zC ?_
 obtain ⟨x213, e214, hF⟩ := zF hF
 refine zA rfl rfl (zM (xC (a := p0) (b := 14) rfl rfl) (congrArg Value.bool e214)) ?_
 refine zA rfl rfl (zG (v := .bool x213) rfl) ?_
 refine (zJ (zB (hK212 _ _ ?_)))
 refine yH (b := x213) rfl (fun c215 => ?_) (fun c215 => ?_)
 ·have hF := zV c215 hF
  refine zD fun K216 hK216 => ?_
  refine zC ?_
  refine zA rfl rfl (xM (cs := [.bool false, .bool false, .bool false, .bool false, .bool false, .int .i64 2, .int .i64 2]) (bt211_5_6 _ _)) ?_
  refine yV rfl (yN (vs := [.bool false, .bool false, .bool false, .bool false, .bool false, .int .i64 2, .int .i64 2]) H 0 rfl sz211 rfl rfl rfl ⟨rfl, rfl, rfl, rfl, rfl, rfl, rfl, trivial⟩ rfl) ?_
  rintro w217 H
  refine zA rfl rfl (zG (v := .bool true) rfl) ?_
  refine (zJ (zB (hK216 _ _ ?_)))
  have hR := Option.some.inj hF
  subst hR
  refine (yG (yJ (yC (postc1 (v1 := .bool true) rfl rfl (yL agg211 sz211 rfl (Blk.cells (H.item (i := 0) rfl))) rfl ?_))))
  exact ⟨rfl, H.pick [] (by decide)⟩
 have hF := zW c215 hF
 refine (yI (yX (zB (hK96 _ _ ?_))))
 refine zD fun K218 hK218 => ?_
 refine zC ?_
 refine zA rfl rfl (xM (cs := [.bool false, .bool false, .bool false, .bool false, .bool false, .int .i64 0, .int .i64 0]) bz211) ?_
 refine yV rfl (yN (vs := [.bool false, .bool false, .bool false, .bool false, .bool false, .int .i64 0, .int .i64 0]) H 0 rfl sz211 rfl rfl rfl ⟨rfl, rfl, rfl, rfl, rfl, rfl, rfl, trivial⟩ rfl) ?_
 rintro w219 H
 refine zA rfl rfl (zG (v := .bool false) rfl) ?_
 refine (zJ (zB (hK218 _ _ ?_)))
 have hR := Option.some.inj hF
 subst hR
 refine (yG (postc1 (v1 := .bool false) rfl rfl (yL agg211 sz211 rfl (Blk.cells (H.item (i := 0) rfl))) rfl ?_))
 exact ⟨rfl, H.pick [] (by decide)⟩
end Go.Proofs.YtnajnkghilemhaaGreatDoor.L
