/- Walks: what each function computes, for every argument; no condition but those that stand in the statements. -/
import Derived.Test.YtnajnkghilemhaaGreatDoorSV0
import Derived.Test.YtnajnkghilemhaaGreatDoorSV3
namespace Go.Proofs.YtnajnkghilemhaaGreatDoor.L
open Go.RowKit Go.OB Go.Lf
set_option maxHeartbeats 4000000 in
set_option maxRecDepth 100000 in
theorem F_ref6_fields_w (p0 : Int) (r : Bool × Bool × Bool × Bool × Bool × Int) (hF : F_ref6_fields p0 = some r) (O S : List Nat) (w : World) (H : Hd O w w S []) :
  Calls Tryz.prog 189 ([.int .i64 p0] : List Value).toArray w fun e w' => e = .returned (.tuple #[.bool r.1, .bool r.2.1, .bool r.2.2.1, .bool r.2.2.2.1, .bool r.2.2.2.2.1, .int .i64 r.2.2.2.2.2]) ∧ Hd O w w' S [] := by
 unfold F_ref6_fields at hF
 refine yC 31 Tryz.func189 rfl rfl rfl ?_
 refine zC fun K1 hK1 => ?_
 refine zB ?_
 refine zI (.bool false) ?_
 refine zI (.bool false) ?_
 refine zI (.bool false) ?_
 refine zI (.bool false) ?_
 refine zI (.bool false) ?_
 refine zI (.int .i64 0) ?_
 refine (zF (zA (hK1 _ _ ?_)))
 refine zC fun K72 hK72 => ?_
 refine zC fun K73 hK73 => ?_
 refine zB ?_
 refine zN (.int .i64 p0) ?_
 refine (zF (zA (hK73 _ _ ?_)))
 refine yF ?_
 refine zC fun K74 hK74 => ?_
 refine zB ?_
 obtain ⟨x75, e76, hF⟩ := zG hF
 refine zH (zV (xH (a := p0) (b := 3) rfl rfl) e76) ?_
 refine zI (.bool x75) ?_
 refine (zF (zA (hK74 _ _ ?_)))
 refine zZ (b := x75) rfl (fun c77 => ?_) (fun c77 => ?_)
 ·have hF := zQ c77 hF
  refine zC fun K78 hK78 => ?_
  refine zB ?_
  refine zI (.bool true) ?_
  refine zI (.bool false) ?_
  refine zI (.bool true) ?_
  refine zI (.bool true) ?_
  refine zI (.bool false) ?_
  refine zI (.int .i64 0) ?_
  refine (zF (zA (hK78 _ _ ?_)))
  obtain rfl := someI hF
  refine (yB (yE (zX (post6 (v1 := .bool true) (v2 := .bool false) (v3 := .bool true) (v4 := .bool true) (v5 := .bool false) (v6 := .int .i64 0) rfl rfl rfl rfl rfl rfl rfl ?_))))
  exact ⟨rfl, H.pick [] (by decide)⟩
 have hF := zS c77 hF
 refine zC fun K79 hK79 => ?_
 refine zB ?_
 obtain ⟨x80, e81, hF⟩ := zG hF
 refine zH (zV (xH (a := p0) (b := 4) rfl rfl) e81) ?_
 refine zI (.bool x80) ?_
 refine (zF (zA (hK79 _ _ ?_)))
 refine zZ (b := x80) rfl (fun c82 => ?_) (fun c82 => ?_)
 ·have hF := zQ c82 hF
  refine zC fun K83 hK83 => ?_
  refine zB ?_
  refine zI (.bool true) ?_
  refine zI (.bool true) ?_
  refine zI (.bool true) ?_
  refine zI (.bool false) ?_
  refine zI (.bool false) ?_
  refine zI (.int .i64 0) ?_
  refine (zF (zA (hK83 _ _ ?_)))
  obtain rfl := someI hF
  refine (yB (yE (zX (post6 (v1 := .bool true) (v2 := .bool true) (v3 := .bool true) (v4 := .bool false) (v5 := .bool false) (v6 := .int .i64 0) rfl rfl rfl rfl rfl rfl rfl ?_))))
  exact ⟨rfl, H.pick [] (by decide)⟩
 have hF := zS c82 hF
 refine zC fun K84 hK84 => ?_
 refine zB ?_
 obtain ⟨x85, e86, hF⟩ := zG hF
 refine zH (zV (xH (a := p0) (b := 5) rfl rfl) e86) ?_
 refine zI (.bool x85) ?_
 refine (zF (zA (hK84 _ _ ?_)))
 refine zZ (b := x85) rfl (fun c87 => ?_) (fun c87 => ?_)
 ·have hF := zQ c87 hF
  refine zC fun K88 hK88 => ?_
  refine zB ?_
  refine zI (.bool true) ?_
  refine zI (.bool false) ?_
  refine zI (.bool false) ?_
  refine zI (.bool true) ?_
  refine zI (.bool true) ?_
  refine zI (.int .i64 0) ?_
  refine (zF (zA (hK88 _ _ ?_)))
  obtain rfl := someI hF
  refine (yB (yE (zX (post6 (v1 := .bool true) (v2 := .bool false) (v3 := .bool false) (v4 := .bool true) (v5 := .bool true) (v6 := .int .i64 0) rfl rfl rfl rfl rfl rfl rfl ?_))))
  exact ⟨rfl, H.pick [] (by decide)⟩
 have hF := zS c87 hF
 obtain ⟨g95, hF, hK97⟩ := zD hF
 refine yO [15, 16, 17] (fun (g : Unit) => [(15, .bool g95)]) (fun g wl => Hd O w wl S []) ?_ ?_
 ·skip
  refine zC fun K98 hK98 => ?_
  refine zB ?_
  obtain ⟨x99, e100, hF⟩ := zG hF
  refine zH (zV (xH (a := p0) (b := 6) rfl rfl) e100) ?_
  refine zI (.bool x99) ?_
  refine (zF (zA (hK98 _ _ ?_)))
  refine zZ (b := x99) rfl (fun c101 => ?_) (fun c101 => ?_)
  ·have hF := zQ c101 hF
   obtain rfl := someI hF
   exact (yA (zA (meet ⟨(), (zL rfl zO), H.pick [] (by decide)⟩)))
  have hF := zS c101 hF
  refine zB ?_
  obtain ⟨x102, e103, hF⟩ := zG hF
  refine zH (zV (xH (a := p0) (b := 7) rfl rfl) e103) ?_
  refine zI (.bool x102) ?_
  obtain rfl := someI hF
  exact (zF (zA (meet ⟨(), (zL rfl zO), H.pick [] (by decide)⟩)))
 rintro _ ρ w96 H
 have hF := hK97
 refine zZ (b := g95) rfl (fun c104 => ?_) (fun c104 => ?_)
 ·have hF := zQ c104 hF
  refine zC fun K105 hK105 => ?_
  refine zB ?_
  refine zI (.bool true) ?_
  refine zI (.bool false) ?_
  refine zI (.bool false) ?_
  refine zI (.bool false) ?_
  refine zI (.bool false) ?_
  refine zI (.int .i64 0) ?_
  refine (zF (zA (hK105 _ _ ?_)))
  obtain rfl := someI hF
  refine (yB (yE (zX (post6 (v1 := .bool true) (v2 := .bool false) (v3 := .bool false) (v4 := .bool false) (v5 := .bool false) (v6 := .int .i64 0) rfl rfl rfl rfl rfl rfl rfl ?_))))
  exact ⟨rfl, H.pick [] (by decide)⟩
 have hF := zS c104 hF
 obtain ⟨g112, hF, hK114⟩ := zD hF
 refine yO [18, 19, 20] (fun (g : Unit) => [(18, .bool g112)]) (fun g wl => Hd O w wl S []) ?_ ?_
 ·skip
  refine zC fun K115 hK115 => ?_
  refine zB ?_
  obtain ⟨x116, e117, hF⟩ := zG hF
  refine zH (zV (xH (a := p0) (b := 8) rfl rfl) e117) ?_
  refine zI (.bool x116) ?_
  refine (zF (zA (hK115 _ _ ?_)))
  refine zZ (b := x116) rfl (fun c118 => ?_) (fun c118 => ?_)
  ·have hF := zQ c118 hF
   obtain rfl := someI hF
   exact (yA (zA (meet ⟨(), (zL rfl zO), H.pick [] (by decide)⟩)))
  have hF := zS c118 hF
  refine zB ?_
  obtain ⟨x119, e120, hF⟩ := zG hF
  refine zH (zV (xH (a := p0) (b := 15) rfl rfl) e120) ?_
  refine zI (.bool x119) ?_
  obtain rfl := someI hF
  exact (zF (zA (meet ⟨(), (zL rfl zO), H.pick [] (by decide)⟩)))
 rintro _ ρ w113 H
 have hF := hK114
 refine zZ (b := g112) rfl (fun c121 => ?_) (fun c121 => ?_)
 ·have hF := zQ c121 hF
  refine zC fun K122 hK122 => ?_
  refine zB ?_
  refine zI (.bool false) ?_
  refine zI (.bool false) ?_
  refine zI (.bool false) ?_
  refine zI (.bool false) ?_
  refine zI (.bool false) ?_
  refine zI (.int .i64 1) ?_
  refine (zF (zA (hK122 _ _ ?_)))
  obtain rfl := someI hF
  refine (yB (yE (zX (post6 (v1 := .bool false) (v2 := .bool false) (v3 := .bool false) (v4 := .bool false) (v5 := .bool false) (v6 := .int .i64 1) rfl rfl rfl rfl rfl rfl rfl ?_))))
  exact ⟨rfl, H.pick [] (by decide)⟩
 have hF := zS c121 hF
 obtain ⟨g129, hF, hK131⟩ := zD hF
 refine yO [21, 22, 23] (fun (g : Unit) => [(21, .bool g129)]) (fun g wl => Hd O w wl S []) ?_ ?_
 ·skip
  refine zC fun K132 hK132 => ?_
  refine zB ?_
  obtain ⟨x133, e134, hF⟩ := zG hF
  refine zH (zV (xH (a := p0) (b := 9) rfl rfl) e134) ?_
  refine zI (.bool x133) ?_
  refine (zF (zA (hK132 _ _ ?_)))
  refine zZ (b := x133) rfl (fun c135 => ?_) (fun c135 => ?_)
  ·have hF := zQ c135 hF
   obtain rfl := someI hF
   exact (yA (zA (meet ⟨(), (zL rfl zO), H.pick [] (by decide)⟩)))
  have hF := zS c135 hF
  refine zB ?_
  obtain ⟨x136, e137, hF⟩ := zG hF
  refine zH (zV (xH (a := p0) (b := 10) rfl rfl) e137) ?_
  refine zI (.bool x136) ?_
  obtain rfl := someI hF
  exact (zF (zA (meet ⟨(), (zL rfl zO), H.pick [] (by decide)⟩)))
 rintro _ ρ w130 H
 have hF := hK131
 refine zZ (b := g129) rfl (fun c138 => ?_) (fun c138 => ?_)
 ·have hF := zQ c138 hF
  refine zC fun K139 hK139 => ?_
  refine zB ?_
  refine zI (.bool false) ?_
  refine zI (.bool false) ?_
  refine zI (.bool false) ?_
  refine zI (.bool false) ?_
  refine zI (.bool false) ?_
  refine zI (.int .i64 (-1)) ?_
  refine (zF (zA (hK139 _ _ ?_)))
  obtain rfl := someI hF
  refine (yB (yE (zX (post6 (v1 := .bool false) (v2 := .bool false) (v3 := .bool false) (v4 := .bool false) (v5 := .bool false) (v6 := .int .i64 (-1)) rfl rfl rfl rfl rfl rfl rfl ?_))))
  exact ⟨rfl, H.pick [] (by decide)⟩
 have hF := zS c138 hF
 obtain ⟨g146, hF, hK148⟩ := zD hF
 refine yO [24, 25, 26] (fun (g : Unit) => [(24, .bool g146)]) (fun g wl => Hd O w wl S []) ?_ ?_
 ·skip
  refine zC fun K149 hK149 => ?_
  refine zB ?_
  obtain ⟨x150, e151, hF⟩ := zG hF
  refine zH (zV (xH (a := p0) (b := 11) rfl rfl) e151) ?_
  refine zI (.bool x150) ?_
  refine (zF (zA (hK149 _ _ ?_)))
  refine zZ (b := x150) rfl (fun c152 => ?_) (fun c152 => ?_)
  ·have hF := zQ c152 hF
   obtain rfl := someI hF
   exact (yA (zA (meet ⟨(), (zL rfl zO), H.pick [] (by decide)⟩)))
  have hF := zS c152 hF
  refine zB ?_
  obtain ⟨x153, e154, hF⟩ := zG hF
  refine zH (zV (xH (a := p0) (b := 12) rfl rfl) e154) ?_
  refine zI (.bool x153) ?_
  obtain rfl := someI hF
  exact (zF (zA (meet ⟨(), (zL rfl zO), H.pick [] (by decide)⟩)))
 rintro _ ρ w147 H
 have hF := hK148
 refine zZ (b := g146) rfl (fun c155 => ?_) (fun c155 => ?_)
 ·have hF := zQ c155 hF
  refine zC fun K156 hK156 => ?_
  refine zB ?_
  refine zI (.bool false) ?_
  refine zI (.bool false) ?_
  refine zI (.bool false) ?_
  refine zI (.bool false) ?_
  refine zI (.bool true) ?_
  refine zI (.int .i64 1) ?_
  refine (zF (zA (hK156 _ _ ?_)))
  obtain rfl := someI hF
  refine (yB (yE (zX (post6 (v1 := .bool false) (v2 := .bool false) (v3 := .bool false) (v4 := .bool false) (v5 := .bool true) (v6 := .int .i64 1) rfl rfl rfl rfl rfl rfl rfl ?_))))
  exact ⟨rfl, H.pick [] (by decide)⟩
 have hF := zS c155 hF
 refine zC fun K157 hK157 => ?_
 refine zB ?_
 obtain ⟨x158, e159, hF⟩ := zG hF
 refine zH (zV (xH (a := p0) (b := 13) rfl rfl) e159) ?_
 refine zI (.bool x158) ?_
 refine (zF (zA (hK157 _ _ ?_)))
 refine zZ (b := x158) rfl (fun c160 => ?_) (fun c160 => ?_)
 ·have hF := zQ c160 hF
  refine zC fun K161 hK161 => ?_
  refine zB ?_
  refine zI (.bool false) ?_
  refine zI (.bool false) ?_
  refine zI (.bool false) ?_
  refine zI (.bool true) ?_
  refine zI (.bool true) ?_
  refine zI (.int .i64 1) ?_
  refine (zF (zA (hK161 _ _ ?_)))
  obtain rfl := someI hF
  refine (yB (yE (zX (post6 (v1 := .bool false) (v2 := .bool false) (v3 := .bool false) (v4 := .bool true) (v5 := .bool true) (v6 := .int .i64 1) rfl rfl rfl rfl rfl rfl rfl ?_))))
  exact ⟨rfl, H.pick [] (by decide)⟩
 have hF := zS c160 hF
 refine zC fun K162 hK162 => ?_
 refine zB ?_
 obtain ⟨x163, e164, hF⟩ := zG hF
 refine zH (zV (xH (a := p0) (b := 14) rfl rfl) e164) ?_
 refine zI (.bool x163) ?_
 refine (zF (zA (hK162 _ _ ?_)))
 refine zZ (b := x163) rfl (fun c165 => ?_) (fun c165 => ?_)
 ·have hF := zQ c165 hF
  refine zC fun K166 hK166 => ?_
  refine zB ?_
  refine zI (.bool false) ?_
  refine zI (.bool false) ?_
  refine zI (.bool false) ?_
  refine zI (.bool false) ?_
  refine zI (.bool false) ?_
  refine zI (.int .i64 2) ?_
  refine (zF (zA (hK166 _ _ ?_)))
  obtain rfl := someI hF
  refine (yB (yE (zX (post6 (v1 := .bool false) (v2 := .bool false) (v3 := .bool false) (v4 := .bool false) (v5 := .bool false) (v6 := .int .i64 2) rfl rfl rfl rfl rfl rfl rfl ?_))))
  exact ⟨rfl, H.pick [] (by decide)⟩
 have hF := zS c165 hF
 refine (yA (yU (zA (hK72 _ _ ?_))))
 refine zC fun K167 hK167 => ?_
 refine zB ?_
 refine zI (.bool false) ?_
 refine zI (.bool false) ?_
 refine zI (.bool false) ?_
 refine zI (.bool false) ?_
 refine zI (.bool false) ?_
 refine zI (.int .i64 0) ?_
 refine (zF (zA (hK167 _ _ ?_)))
 obtain rfl := someI hF
 refine (yB (post6 (v1 := .bool false) (v2 := .bool false) (v3 := .bool false) (v4 := .bool false) (v5 := .bool false) (v6 := .int .i64 0) rfl rfl rfl rfl rfl rfl rfl ?_))
 exact ⟨rfl, H.pick [] (by decide)⟩
set_option maxHeartbeats 4000000 in
set_option maxRecDepth 100000 in
theorem F_ref6_nodeFault_w (p0 : Cond) (v1 : Value) (r : Int) (hF : F_ref6_nodeFault p0 = some r) (O S : List Nat) (w : World) (H : Hd O w w S [.fz (.sl rCond v1 p0.Kids)]) :
  Calls Tryz.prog 158 ([.agg [.int .i64 p0.Kind, .string (bs p0.Name), .string (bs p0.Other), .int .i64 p0.Op, .int .i64 p0.N, .int .i64 p0.Frames, v1].toArray] : List Value).toArray w fun e w' => e = .returned (.int .i64 r) ∧ Hd O w w' S [] := by
 unfold F_ref6_nodeFault at hF
 refine yC 135 Tryz.func158 rfl rfl rfl ?_
 refine zC fun K3 hK3 => ?_
 refine zB ?_
 refine yT rfl rfl (wL (cs := [.int .i64 p0.Kind, .string (bs p0.Name), .string (bs p0.Other), .int .i64 p0.Op, .int .i64 p0.N, .int .i64 p0.Frames, v1]) rfl H) ?_
 rintro _ w6 ⟨b4, rfl, H⟩
 refine zI (.int .i64 0) ?_
 refine (zF (zA (hK3 _ _ ?_)))
 refine zC fun K15 hK15 => ?_
 refine zC fun K16 hK16 => ?_
 refine zB ?_
 refine zH (fa54_0 rfl) ?_
 refine zH (zM one3 rfl (Cells.get (Blk.cells (H.item (i := 1) rfl)) (i := 0) rfl)) ?_
 have H17 := H
 obtain ⟨x18, e19, hF⟩ := zD hF
 refine zW rfl rfl (zT en63 rfl) (F_ref6_outside_w p0.Kind 1 15 _ e19 _ _ _ (H.enter [] [] (by decide) rfl)) ?_
 rintro _ w20 ⟨rfl, G21⟩
 have H := H17.step (G21.only : Only [] _ _)
 refine ⟨_, rfl, ?_⟩
 refine (zF (zA (hK16 _ _ ?_)))
 refine zZ (b := x18) rfl (fun c22 => ?_) (fun c22 => ?_)
 ·have hF := zQ c22 hF
  refine zC fun K23 hK23 => ?_
  refine zB ?_
  refine zI (.int .i64 7) ?_
  refine (zF (zA (hK23 _ _ ?_)))
  obtain rfl := someI hF
  refine (yB (zX (post1 (v1 := .int .i64 7) rfl rfl ?_)))
  exact ⟨rfl, H.pick [] (by decide)⟩
 have hF := zS c22 hF
 refine (yA (zA (hK15 _ _ ?_)))
 refine zC fun K24 hK24 => ?_
 refine zB ?_
 refine zH (fa54_0 rfl) ?_
 refine zH (zM one3 rfl (Cells.get (Blk.cells (H.item (i := 1) rfl)) (i := 0) rfl)) ?_
 have H25 := H
 obtain ⟨⟨x26, x27, x28, x29, x30, x31⟩, e32, hF⟩ := zD hF
 refine zW rfl rfl (zT en189 rfl) (F_ref6_fields_w p0.Kind _ e32 _ _ _ (H.enter [] [] (by decide) rfl)) ?_
 rintro _ w33 ⟨rfl, G34⟩
 have H := H25.step (G34.only : Only [] _ _)
 refine ⟨_, rfl, ?_⟩
 refine zN (.tuple #[.bool x26, .bool x27, .bool x28, .bool x29, .bool x30, .int .i64 x31]) ?_
 refine zH (wG (v := .bool x26) rfl rfl) ?_
 refine zH (wG (v := .bool x27) rfl rfl) ?_
 refine zH (wG (v := .bool x28) rfl rfl) ?_
 refine zH (wG (v := .bool x29) rfl rfl) ?_
 refine zH (wG (v := .bool x30) rfl rfl) ?_
 refine zH (wG (v := .int .i64 x31) rfl rfl) ?_
 refine zI (.bool x26) ?_
 refine zI (.bool x27) ?_
 refine zI (.bool x28) ?_
 refine zI (.bool x29) ?_
 refine zI (.bool x30) ?_
 refine zI (.int .i64 x31) ?_
 refine (zF (zA (hK24 _ _ ?_)))
 refine zC fun K81 hK81 => ?_
 obtain ⟨g123, hF, hK125⟩ := zD hF
 refine yO [22, 23, 24, 25, 26, 27, 28, 29, 30, 31, 32, 33, 34, 35, 36, 37, 38, 39, 40, 41, 42, 43, 44, 45, 46, 47, 48, 49, 50, 51, 52, 53, 54, 55, 56, 57, 58, 59, 60, 61, 62, 63, 64] (fun (g : Unit) => [(64, .bool g123)]) (fun g wl => Hd O w wl S [.fz (.sl rCond v1 p0.Kids), .blk b4 [.int .i64 p0.Kind, .string (bs p0.Name), .string (bs p0.Other), .int .i64 p0.Op, .int .i64 p0.N, .int .i64 p0.Frames, v1] 54]) ?_ ?_
 ·skip
  refine zB ?_
  refine zN (.bool x26) ?_
  obtain ⟨x126, e127, hF⟩ := zG hF
  refine zH (zV (wO (p := x26) rfl) e127) ?_
  obtain ⟨j128, hF, hK129⟩ := zD hF
  refine RL_cutS 5 [24, 25, 26, 27, 28] [(28, .bool j128)] (fun wl => Hd O w wl S [.fz (.sl rCond v1 p0.Kids), .blk b4 [.int .i64 p0.Kind, .string (bs p0.Name), .string (bs p0.Other), .int .i64 p0.Op, .int .i64 p0.N, .int .i64 p0.Frames, v1] 54]) ?_ ?_
  ·skip
   refine yQ (b := x126) rfl rfl rfl (fun c131 => ?_) (fun c131 => ?_)
   ·have hF := zQ c131 hF
    refine zH (fa54_1 rfl) ?_
    refine zH (zM one9 rfl (Cells.get (Blk.cells (H.item (i := 1) rfl)) (i := 1) rfl)) ?_
    obtain ⟨x132, e133, hF⟩ := zG hF
    refine zH (zV (Do_neqs (s1 := p0.Name) (s2 := []) rfl rfl) e133) ?_
    refine zH (yP (v := .bool x132) rfl rfl) ?_
    obtain rfl := someI hF
    exact zF (zA (meet ⟨(zL rfl zO), H.pick [0, 1] (by decide)⟩))
   have hF := zS c131 hF
   refine yG ?_
   refine yG ?_
   refine yG ?_
   refine zH (yJ (v := .bool false) rfl rfl) ?_
   obtain rfl := someI hF
   exact zF (zA (meet ⟨(zL rfl zO), H.pick [0, 1] (by decide)⟩))
  rintro ρ w130 H
  have hF := hK129
  obtain ⟨j134, hF, hK135⟩ := zD hF
  refine RL_cutS 9 [29, 30, 31, 32, 33, 34, 35, 36, 37] [(37, .bool j134)] (fun wl => Hd O w wl S [.fz (.sl rCond v1 p0.Kids), .blk b4 [.int .i64 p0.Kind, .string (bs p0.Name), .string (bs p0.Other), .int .i64 p0.Op, .int .i64 p0.N, .int .i64 p0.Frames, v1] 54]) ?_ ?_
  ·skip
   refine yQ (b := j128) rfl rfl rfl (fun c137 => ?_) (fun c137 => ?_)
   ·have hF := zQ c137 hF
    refine yG ?_
    refine yG ?_
    refine yG ?_
    refine yG ?_
    refine yG ?_
    refine yG ?_
    refine yG ?_
    refine zH (yP (v := .bool true) rfl rfl) ?_
    obtain rfl := someI hF
    exact zF (zA (meet ⟨(zL rfl zO), H.pick [0, 1] (by decide)⟩))
   have hF := zS c137 hF
   refine zN (.bool x27) ?_
   obtain ⟨x138, e139, hF⟩ := zG hF
   refine zH (zV (wO (p := x27) rfl) e139) ?_
   refine yQ (b := x138) rfl rfl rfl (fun c140 => ?_) (fun c140 => ?_)
   ·have hF := zQ c140 hF
    refine zH (fa54_2 rfl) ?_
    refine zH (zM one9 rfl (Cells.get (Blk.cells (H.item (i := 1) rfl)) (i := 2) rfl)) ?_
    obtain ⟨x141, e142, hF⟩ := zG hF
    refine zH (zV (Do_neqs (s1 := p0.Other) (s2 := []) rfl rfl) e142) ?_
    refine zH (yP (v := .bool x141) rfl rfl) ?_
    refine zH (yJ (v := .bool x141) rfl rfl) ?_
    obtain rfl := someI hF
    exact zF (zA (meet ⟨(zL rfl zO), H.pick [0, 1] (by decide)⟩))
   have hF := zS c140 hF
   refine yG ?_
   refine yG ?_
   refine yG ?_
   refine zH (yJ (v := .bool false) rfl rfl) ?_
   refine zH (yJ (v := .bool false) rfl rfl) ?_
   obtain rfl := someI hF
   exact zF (zA (meet ⟨(zL rfl zO), H.pick [0, 1] (by decide)⟩))
  rintro ρ w136 H
  have hF := hK135
  obtain ⟨j143, hF, hK144⟩ := zD hF
  refine RL_cutS 9 [38, 39, 40, 41, 42, 43, 44, 45, 46] [(46, .bool j143)] (fun wl => Hd O w wl S [.fz (.sl rCond v1 p0.Kids), .blk b4 [.int .i64 p0.Kind, .string (bs p0.Name), .string (bs p0.Other), .int .i64 p0.Op, .int .i64 p0.N, .int .i64 p0.Frames, v1] 54]) ?_ ?_
  ·skip
   refine yQ (b := j134) rfl rfl rfl (fun c146 => ?_) (fun c146 => ?_)
   ·have hF := zQ c146 hF
    refine yG ?_
    refine yG ?_
    refine yG ?_
    refine yG ?_
    refine yG ?_
    refine yG ?_
    refine yG ?_
    refine zH (yP (v := .bool true) rfl rfl) ?_
    obtain rfl := someI hF
    exact zF (zA (meet ⟨(zL rfl zO), H.pick [0, 1] (by decide)⟩))
   have hF := zS c146 hF
   refine zN (.bool x28) ?_
   obtain ⟨x147, e148, hF⟩ := zG hF
   refine zH (zV (wO (p := x28) rfl) e148) ?_
   refine yQ (b := x147) rfl rfl rfl (fun c149 => ?_) (fun c149 => ?_)
   ·have hF := zQ c149 hF
    refine zH (fa54_3 rfl) ?_
    refine zH (zM one3 rfl (Cells.get (Blk.cells (H.item (i := 1) rfl)) (i := 3) rfl)) ?_
    obtain ⟨x150, e151, hF⟩ := zG hF
    refine zH (zV (Do_neq (a := p0.Op) (b := 0) rfl rfl) e151) ?_
    refine zH (yP (v := .bool x150) rfl rfl) ?_
    refine zH (yJ (v := .bool x150) rfl rfl) ?_
    obtain rfl := someI hF
    exact zF (zA (meet ⟨(zL rfl zO), H.pick [0, 1] (by decide)⟩))
   have hF := zS c149 hF
   refine yG ?_
   refine yG ?_
   refine yG ?_
   refine zH (yJ (v := .bool false) rfl rfl) ?_
   refine zH (yJ (v := .bool false) rfl rfl) ?_
   obtain rfl := someI hF
   exact zF (zA (meet ⟨(zL rfl zO), H.pick [0, 1] (by decide)⟩))
  rintro ρ w145 H
  have hF := hK144
  obtain ⟨j152, hF, hK153⟩ := zD hF
  refine RL_cutS 9 [47, 48, 49, 50, 51, 52, 53, 54, 55] [(55, .bool j152)] (fun wl => Hd O w wl S [.fz (.sl rCond v1 p0.Kids), .blk b4 [.int .i64 p0.Kind, .string (bs p0.Name), .string (bs p0.Other), .int .i64 p0.Op, .int .i64 p0.N, .int .i64 p0.Frames, v1] 54]) ?_ ?_
  ·skip
   refine yQ (b := j143) rfl rfl rfl (fun c155 => ?_) (fun c155 => ?_)
   ·have hF := zQ c155 hF
    refine yG ?_
    refine yG ?_
    refine yG ?_
    refine yG ?_
    refine yG ?_
    refine yG ?_
    refine yG ?_
    refine zH (yP (v := .bool true) rfl rfl) ?_
    obtain rfl := someI hF
    exact zF (zA (meet ⟨(zL rfl zO), H.pick [0, 1] (by decide)⟩))
   have hF := zS c155 hF
   refine zN (.bool x29) ?_
   obtain ⟨x156, e157, hF⟩ := zG hF
   refine zH (zV (wO (p := x29) rfl) e157) ?_
   refine yQ (b := x156) rfl rfl rfl (fun c158 => ?_) (fun c158 => ?_)
   ·have hF := zQ c158 hF
    refine zH (fa54_4 rfl) ?_
    refine zH (zM one3 rfl (Cells.get (Blk.cells (H.item (i := 1) rfl)) (i := 4) rfl)) ?_
    obtain ⟨x159, e160, hF⟩ := zG hF
    refine zH (zV (Do_neq (a := p0.N) (b := 0) rfl rfl) e160) ?_
    refine zH (yP (v := .bool x159) rfl rfl) ?_
    refine zH (yJ (v := .bool x159) rfl rfl) ?_
    obtain rfl := someI hF
    exact zF (zA (meet ⟨(zL rfl zO), H.pick [0, 1] (by decide)⟩))
   have hF := zS c158 hF
   refine yG ?_
   refine yG ?_
   refine yG ?_
   refine zH (yJ (v := .bool false) rfl rfl) ?_
   refine zH (yJ (v := .bool false) rfl rfl) ?_
   obtain rfl := someI hF
   exact zF (zA (meet ⟨(zL rfl zO), H.pick [0, 1] (by decide)⟩))
  rintro ρ w154 H
  have hF := hK153
  refine yQ (b := j152) rfl rfl rfl (fun c161 => ?_) (fun c161 => ?_)
  ·have hF := zQ c161 hF
   refine yG ?_
   refine yG ?_
   refine yG ?_
   refine yG ?_
   refine yG ?_
   refine yG ?_
   refine yG ?_
   refine zH (yP (v := .bool true) rfl rfl) ?_
   obtain rfl := someI hF
   exact (zF (zA (meet ⟨(), (zL rfl zO), H.pick [0, 1] (by decide)⟩)))
  have hF := zS c161 hF
  refine zN (.bool x30) ?_
  obtain ⟨x162, e163, hF⟩ := zG hF
  refine zH (zV (wO (p := x30) rfl) e163) ?_
  refine yQ (b := x162) rfl rfl rfl (fun c164 => ?_) (fun c164 => ?_)
  ·have hF := zQ c164 hF
   refine zH (fa54_5 rfl) ?_
   refine zH (zM one3 rfl (Cells.get (Blk.cells (H.item (i := 1) rfl)) (i := 5) rfl)) ?_
   obtain ⟨x165, e166, hF⟩ := zG hF
   refine zH (zV (Do_neq (a := p0.Frames) (b := 0) rfl rfl) e166) ?_
   refine zH (yP (v := .bool x165) rfl rfl) ?_
   refine zH (yJ (v := .bool x165) rfl rfl) ?_
   obtain rfl := someI hF
   exact (zF (zA (meet ⟨(), (zL rfl zO), H.pick [0, 1] (by decide)⟩)))
  have hF := zS c164 hF
  refine yG ?_
  refine yG ?_
  refine yG ?_
  refine zH (yJ (v := .bool false) rfl rfl) ?_
  refine zH (yJ (v := .bool false) rfl rfl) ?_
  obtain rfl := someI hF
  exact (zF (zA (meet ⟨(), (zL rfl zO), H.pick [0, 1] (by decide)⟩)))
 rintro _ ρ w124 H
 have hF := hK125
 refine zZ (b := g123) rfl (fun c167 => ?_) (fun c167 => ?_)
 ·have hF := zQ c167 hF
  refine zC fun K168 hK168 => ?_
  refine zB ?_
  refine zI (.int .i64 2) ?_
  refine (zF (zA (hK168 _ _ ?_)))
  obtain rfl := someI hF
  refine (yB (zX (post1 (v1 := .int .i64 2) rfl rfl ?_)))
  exact ⟨rfl, H.pick [] (by decide)⟩
 have hF := zS c167 hF
 refine (yA (zA (hK81 _ _ ?_)))
 refine zC fun K198 hK198 => ?_
 obtain ⟨g223, hF, hK225⟩ := zD hF
 refine yO [65, 66, 67, 68, 69, 70, 71, 72, 73, 74, 75, 76, 77, 78, 79, 80, 81, 82, 83] (fun (g : Unit) => [(83, .bool g223)]) (fun g wl => Hd O w wl S [.fz (.sl rCond v1 p0.Kids), .blk b4 [.int .i64 p0.Kind, .string (bs p0.Name), .string (bs p0.Other), .int .i64 p0.Op, .int .i64 p0.N, .int .i64 p0.Frames, v1] 54]) ?_ ?_
 ·skip
  refine zB ?_
  refine zN (.int .i64 x31) ?_
  obtain ⟨x226, e227, hF⟩ := zG hF
  refine zH (zV (Do_geq (a := x31) (b := 0) rfl rfl) e227) ?_
  obtain ⟨j228, hF, hK229⟩ := zD hF
  refine RL_cutS 7 [67, 68, 69, 70, 71, 72, 73] [(73, .bool j228)] (fun wl => Hd O w wl S [.fz (.sl rCond v1 p0.Kids), .blk b4 [.int .i64 p0.Kind, .string (bs p0.Name), .string (bs p0.Other), .int .i64 p0.Op, .int .i64 p0.N, .int .i64 p0.Frames, v1] 54]) ?_ ?_
  ·skip
   refine yQ (b := x226) rfl rfl rfl (fun c231 => ?_) (fun c231 => ?_)
   ·have hF := zQ c231 hF
    refine zH (fa54_6 rfl) ?_
    refine zH (zM one52 rfl (Cells.get (Blk.cells (H.item (i := 1) rfl)) (i := 6) rfl)) ?_
    obtain ⟨x232, e233, hF⟩ := zG hF
    obtain ⟨a234, c235, q236⟩ := SlF.len ((H.item (i := 0) rfl))
    refine zH (yL (xW u52 q236) (congrArg (Value.int .i64) e233)) ?_
    refine zN (.int .i64 x31) ?_
    obtain ⟨x237, e238, hF⟩ := zG hF
    refine zH (zV (Do_neq (a := x232) (b := x31) rfl rfl) e238) ?_
    refine zH (yP (v := .bool x237) rfl rfl) ?_
    obtain rfl := someI hF
    exact zF (zA (meet ⟨(zL rfl zO), H.pick [0, 1] (by decide)⟩))
   have hF := zS c231 hF
   refine yG ?_
   refine yG ?_
   refine yG ?_
   refine yG ?_
   refine yG ?_
   refine zH (yJ (v := .bool false) rfl rfl) ?_
   obtain rfl := someI hF
   exact zF (zA (meet ⟨(zL rfl zO), H.pick [0, 1] (by decide)⟩))
  rintro ρ w230 H
  have hF := hK229
  refine yQ (b := j228) rfl rfl rfl (fun c239 => ?_) (fun c239 => ?_)
  ·have hF := zQ c239 hF
   refine yG ?_
   refine yG ?_
   refine yG ?_
   refine yG ?_
   refine yG ?_
   refine yG ?_
   refine yG ?_
   refine yG ?_
   refine zH (yP (v := .bool true) rfl rfl) ?_
   obtain rfl := someI hF
   exact (zF (zA (meet ⟨(), (zL rfl zO), H.pick [0, 1] (by decide)⟩)))
  have hF := zS c239 hF
  refine zN (.int .i64 x31) ?_
  obtain ⟨x240, e241, hF⟩ := zG hF
  refine zH (zV (xQ (a := x31) (b := 0) rfl rfl) e241) ?_
  refine yQ (b := x240) rfl rfl rfl (fun c242 => ?_) (fun c242 => ?_)
  ·have hF := zQ c242 hF
   refine zH (fa54_6 rfl) ?_
   refine zH (zM one52 rfl (Cells.get (Blk.cells (H.item (i := 1) rfl)) (i := 6) rfl)) ?_
   obtain ⟨x243, e244, hF⟩ := zG hF
   obtain ⟨a245, c246, q247⟩ := SlF.len ((H.item (i := 0) rfl))
   refine zH (yL (xW u52 q247) (congrArg (Value.int .i64) e244)) ?_
   obtain ⟨x248, e249, hF⟩ := zG hF
   refine zH (zV (xQ (a := x243) (b := 2) rfl rfl) e249) ?_
   refine zH (yP (v := .bool x248) rfl rfl) ?_
   refine zH (yJ (v := .bool x248) rfl rfl) ?_
   obtain rfl := someI hF
   exact (zF (zA (meet ⟨(), (zL rfl zO), H.pick [0, 1] (by decide)⟩)))
  have hF := zS c242 hF
  refine yG ?_
  refine yG ?_
  refine yG ?_
  refine yG ?_
  refine zH (yJ (v := .bool false) rfl rfl) ?_
  refine zH (yJ (v := .bool false) rfl rfl) ?_
  obtain rfl := someI hF
  exact (zF (zA (meet ⟨(), (zL rfl zO), H.pick [0, 1] (by decide)⟩)))
 rintro _ ρ w224 H
 have hF := hK225
 refine zZ (b := g223) rfl (fun c250 => ?_) (fun c250 => ?_)
 ·have hF := zQ c250 hF
  refine zC fun K251 hK251 => ?_
  refine zB ?_
  refine zI (.int .i64 2) ?_
  refine (zF (zA (hK251 _ _ ?_)))
  obtain rfl := someI hF
  refine (yB (zX (post1 (v1 := .int .i64 2) rfl rfl ?_)))
  exact ⟨rfl, H.pick [] (by decide)⟩
 have hF := zS c250 hF
 refine (yA (zA (hK198 _ _ ?_)))
 refine zC fun K277 hK277 => ?_
 obtain ⟨g298, hF, hK300⟩ := zD hF
 refine yO [84, 85, 86, 87, 88, 89, 90, 91, 92, 93, 94, 95, 96, 97, 98, 99] (fun (g : Unit) => [(99, .bool g298)]) (fun g wl => Hd O w wl S [.fz (.sl rCond v1 p0.Kids), .blk b4 [.int .i64 p0.Kind, .string (bs p0.Name), .string (bs p0.Other), .int .i64 p0.Op, .int .i64 p0.N, .int .i64 p0.Frames, v1] 54]) ?_ ?_
 ·skip
  refine zB ?_
  refine zN (.bool x26) ?_
  obtain ⟨j301, hF, hK302⟩ := zD hF
  refine RL_cutS 6 [85, 86, 87, 88, 89, 90] [(90, .bool j301)] (fun wl => Hd O w wl S [.fz (.sl rCond v1 p0.Kids), .blk b4 [.int .i64 p0.Kind, .string (bs p0.Name), .string (bs p0.Other), .int .i64 p0.Op, .int .i64 p0.N, .int .i64 p0.Frames, v1] 54]) ?_ ?_
  ·skip
   refine yQ (b := x26) rfl rfl rfl (fun c304 => ?_) (fun c304 => ?_)
   ·have hF := zQ c304 hF
    refine zH (fa54_1 rfl) ?_
    refine zH (zM one9 rfl (Cells.get (Blk.cells (H.item (i := 1) rfl)) (i := 1) rfl)) ?_
    have H305 := H
    obtain ⟨x306, e307, hF⟩ := zD hF
    refine zW rfl rfl (zT en72 rfl) (F_ref6_IsName_w p0.Name _ e307 _ _ _ (H.enter [] [] (by decide) rfl)) ?_
    rintro _ w308 ⟨rfl, G309⟩
    have H := H305.step (G309.only : Only [] _ _)
    refine ⟨_, rfl, ?_⟩
    obtain ⟨x310, e311, hF⟩ := zG hF
    refine zH (zV (wO (p := x306) rfl) e311) ?_
    refine zH (yP (v := .bool x310) rfl rfl) ?_
    obtain rfl := someI hF
    exact zF (zA (meet ⟨(zL rfl zO), H.pick [0, 1] (by decide)⟩))
   have hF := zS c304 hF
   refine yG ?_
   refine yG ?_
   refine yG ?_
   refine yG ?_
   refine zH (yJ (v := .bool false) rfl rfl) ?_
   obtain rfl := someI hF
   exact zF (zA (meet ⟨(zL rfl zO), H.pick [0, 1] (by decide)⟩))
  rintro ρ w303 H
  have hF := hK302
  refine yQ (b := j301) rfl rfl rfl (fun c312 => ?_) (fun c312 => ?_)
  ·have hF := zQ c312 hF
   refine yG ?_
   refine yG ?_
   refine yG ?_
   refine yG ?_
   refine yG ?_
   refine yG ?_
   refine yG ?_
   refine zH (yP (v := .bool true) rfl rfl) ?_
   obtain rfl := someI hF
   exact (zF (zA (meet ⟨(), (zL rfl zO), H.pick [0, 1] (by decide)⟩)))
  have hF := zS c312 hF
  refine zN (.bool x27) ?_
  refine yQ (b := x27) rfl rfl rfl (fun c313 => ?_) (fun c313 => ?_)
  ·have hF := zQ c313 hF
   refine zH (fa54_2 rfl) ?_
   refine zH (zM one9 rfl (Cells.get (Blk.cells (H.item (i := 1) rfl)) (i := 2) rfl)) ?_
   have H314 := H
   obtain ⟨x315, e316, hF⟩ := zD hF
   refine zW rfl rfl (zT en72 rfl) (F_ref6_IsName_w p0.Other _ e316 _ _ _ (H.enter [] [] (by decide) rfl)) ?_
   rintro _ w317 ⟨rfl, G318⟩
   have H := H314.step (G318.only : Only [] _ _)
   refine ⟨_, rfl, ?_⟩
   obtain ⟨x319, e320, hF⟩ := zG hF
   refine zH (zV (wO (p := x315) rfl) e320) ?_
   refine zH (yP (v := .bool x319) rfl rfl) ?_
   refine zH (yJ (v := .bool x319) rfl rfl) ?_
   obtain rfl := someI hF
   exact (zF (zA (meet ⟨(), (zL rfl zO), H.pick [0, 1] (by decide)⟩)))
  have hF := zS c313 hF
  refine yG ?_
  refine yG ?_
  refine yG ?_
  refine yG ?_
  refine zH (yJ (v := .bool false) rfl rfl) ?_
  refine zH (yJ (v := .bool false) rfl rfl) ?_
  obtain rfl := someI hF
  exact (zF (zA (meet ⟨(), (zL rfl zO), H.pick [0, 1] (by decide)⟩)))
 rintro _ ρ w299 H
 have hF := hK300
 refine zZ (b := g298) rfl (fun c321 => ?_) (fun c321 => ?_)
 ·have hF := zQ c321 hF
  refine zC fun K322 hK322 => ?_
  refine zB ?_
  refine zI (.int .i64 8) ?_
  refine (zF (zA (hK322 _ _ ?_)))
  obtain rfl := someI hF
  refine (yB (zX (post1 (v1 := .int .i64 8) rfl rfl ?_)))
  exact ⟨rfl, H.pick [] (by decide)⟩
 have hF := zS c321 hF
 refine (yA (zA (hK277 _ _ ?_)))
 refine zC fun K334 hK334 => ?_
 obtain ⟨g341, hF, hK343⟩ := zD hF
 refine yO [100, 101, 102, 103, 104, 105] (fun (g : Unit) => [(105, .bool g341)]) (fun g wl => Hd O w wl S [.fz (.sl rCond v1 p0.Kids), .blk b4 [.int .i64 p0.Kind, .string (bs p0.Name), .string (bs p0.Other), .int .i64 p0.Op, .int .i64 p0.N, .int .i64 p0.Frames, v1] 54]) ?_ ?_
 ·skip
  refine zB ?_
  refine zN (.bool x28) ?_
  refine yQ (b := x28) rfl rfl rfl (fun c344 => ?_) (fun c344 => ?_)
  ·have hF := zQ c344 hF
   refine zH (fa54_3 rfl) ?_
   refine zH (zM one3 rfl (Cells.get (Blk.cells (H.item (i := 1) rfl)) (i := 3) rfl)) ?_
   have H345 := H
   obtain ⟨x346, e347, hF⟩ := zD hF
   refine zW rfl rfl (zT en63 rfl) (F_ref6_outside_w p0.Op 1 6 _ e347 _ _ _ (H.enter [] [] (by decide) rfl)) ?_
   rintro _ w348 ⟨rfl, G349⟩
   have H := H345.step (G349.only : Only [] _ _)
   refine ⟨_, rfl, ?_⟩
   refine zH (yP (v := .bool x346) rfl rfl) ?_
   obtain rfl := someI hF
   exact (zF (zA (meet ⟨(), (zL rfl zO), H.pick [0, 1] (by decide)⟩)))
  have hF := zS c344 hF
  refine yG ?_
  refine yG ?_
  refine yG ?_
  refine zH (yJ (v := .bool false) rfl rfl) ?_
  obtain rfl := someI hF
  exact (zF (zA (meet ⟨(), (zL rfl zO), H.pick [0, 1] (by decide)⟩)))
 rintro _ ρ w342 H
 have hF := hK343
 refine zZ (b := g341) rfl (fun c350 => ?_) (fun c350 => ?_)
 ·have hF := zQ c350 hF
  refine zC fun K351 hK351 => ?_
  refine zB ?_
  refine zI (.int .i64 7) ?_
  refine (zF (zA (hK351 _ _ ?_)))
  obtain rfl := someI hF
  refine (yB (zX (post1 (v1 := .int .i64 7) rfl rfl ?_)))
  exact ⟨rfl, H.pick [] (by decide)⟩
 have hF := zS c350 hF
 refine (yA (zA (hK334 _ _ ?_)))
 refine zC fun K363 hK363 => ?_
 obtain ⟨g370, hF, hK372⟩ := zD hF
 refine yO [106, 107, 108, 109, 110, 111] (fun (g : Unit) => [(111, .bool g370)]) (fun g wl => Hd O w wl S [.fz (.sl rCond v1 p0.Kids), .blk b4 [.int .i64 p0.Kind, .string (bs p0.Name), .string (bs p0.Other), .int .i64 p0.Op, .int .i64 p0.N, .int .i64 p0.Frames, v1] 54]) ?_ ?_
 ·skip
  refine zB ?_
  refine zN (.bool x30) ?_
  refine yQ (b := x30) rfl rfl rfl (fun c373 => ?_) (fun c373 => ?_)
  ·have hF := zQ c373 hF
   refine zH (fa54_5 rfl) ?_
   refine zH (zM one3 rfl (Cells.get (Blk.cells (H.item (i := 1) rfl)) (i := 5) rfl)) ?_
   have H374 := H
   obtain ⟨x375, e376, hF⟩ := zD hF
   refine zW rfl rfl (zT en63 rfl) (F_ref6_outside_w p0.Frames 1 4096 _ e376 _ _ _ (H.enter [] [] (by decide) rfl)) ?_
   rintro _ w377 ⟨rfl, G378⟩
   have H := H374.step (G378.only : Only [] _ _)
   refine ⟨_, rfl, ?_⟩
   refine zH (yP (v := .bool x375) rfl rfl) ?_
   obtain rfl := someI hF
   exact (zF (zA (meet ⟨(), (zL rfl zO), H.pick [0, 1] (by decide)⟩)))
  have hF := zS c373 hF
  refine yG ?_
  refine yG ?_
  refine yG ?_
  refine zH (yJ (v := .bool false) rfl rfl) ?_
  obtain rfl := someI hF
  exact (zF (zA (meet ⟨(), (zL rfl zO), H.pick [0, 1] (by decide)⟩)))
 rintro _ ρ w371 H
 have hF := hK372
 refine zZ (b := g370) rfl (fun c379 => ?_) (fun c379 => ?_)
 ·have hF := zQ c379 hF
  refine zC fun K380 hK380 => ?_
  refine zB ?_
  refine zI (.int .i64 9) ?_
  refine (zF (zA (hK380 _ _ ?_)))
  obtain rfl := someI hF
  refine (yB (zX (post1 (v1 := .int .i64 9) rfl rfl ?_)))
  exact ⟨rfl, H.pick [] (by decide)⟩
 have hF := zS c379 hF
 refine (yA (zA (hK363 _ _ ?_)))
 obtain ⟨k413, ek414, hF⟩ := xZ hF
 refine yO [2, 112, 113, 114, 115, 116, 117, 118, 119, 120, 121, 122, 123, 124, 125, 126] (fun (g : Unit) => []) (fun g wl => Hd O w wl S [.fz (.sl rCond v1 p0.Kids), .blk b4 [.int .i64 p0.Kind, .string (bs p0.Name), .string (bs p0.Other), .int .i64 p0.Op, .int .i64 p0.N, .int .i64 p0.Frames, v1] 54] ∧ k413 () = some r) ?_ ?_
 ·skip
  refine zC fun K415 hK415 => ?_
  refine zB ?_
  refine zH (fa54_0 rfl) ?_
  refine zH (zM one3 rfl (Cells.get (Blk.cells (H.item (i := 1) rfl)) (i := 0) rfl)) ?_
  refine (zF (zA (hK415 _ _ ?_)))
  refine yF ?_
  obtain ⟨g422, hF, hK424⟩ := zD hF
  refine yO [114, 115, 116] (fun (g : Unit) => [(114, .bool g422)]) (fun g wl => Hd O w wl S [.fz (.sl rCond v1 p0.Kids), .blk b4 [.int .i64 p0.Kind, .string (bs p0.Name), .string (bs p0.Other), .int .i64 p0.Op, .int .i64 p0.N, .int .i64 p0.Frames, v1] 54]) ?_ ?_
  ·skip
   refine zC fun K425 hK425 => ?_
   refine zB ?_
   obtain ⟨x426, e427, hF⟩ := zG hF
   refine zH (zV (xH (a := p0.Kind) (b := 3) rfl rfl) e427) ?_
   refine zI (.bool x426) ?_
   refine (zF (zA (hK425 _ _ ?_)))
   refine zZ (b := x426) rfl (fun c428 => ?_) (fun c428 => ?_)
   ·have hF := zQ c428 hF
    obtain rfl := someI hF
    exact (yA (zA (meet ⟨(), (zL rfl zO), H.pick [0, 1] (by decide)⟩)))
   have hF := zS c428 hF
   refine zB ?_
   obtain ⟨x429, e430, hF⟩ := zG hF
   refine zH (zV (xH (a := p0.Kind) (b := 5) rfl rfl) e430) ?_
   refine zI (.bool x429) ?_
   obtain rfl := someI hF
   exact (zF (zA (meet ⟨(), (zL rfl zO), H.pick [0, 1] (by decide)⟩)))
  rintro _ ρ w423 H
  have hF := hK424
  refine zZ (b := g422) rfl (fun c431 => ?_) (fun c431 => ?_)
  ·have hF := zQ c431 hF
   refine zC fun K432 hK432 => ?_
   refine zB ?_
   refine zH (fa54_4 rfl) ?_
   refine zH (zM one3 rfl (Cells.get (Blk.cells (H.item (i := 1) rfl)) (i := 4) rfl)) ?_
   have H433 := H
   obtain ⟨x434, e435, hF⟩ := zD hF
   refine zW rfl rfl (zT en63 rfl) (F_ref6_outside_w p0.N (-1125899906842624) 1125899906842624 _ e435 _ _ _ (H.enter [] [] (by decide) rfl)) ?_
   rintro _ w436 ⟨rfl, G437⟩
   have H := H433.step (G437.only : Only [] _ _)
   refine ⟨_, rfl, ?_⟩
   refine (zF (zA (hK432 _ _ ?_)))
   refine zZ (b := x434) rfl (fun c438 => ?_) (fun c438 => ?_)
   ·have hF := zQ c438 hF
    refine zC fun K439 hK439 => ?_
    refine zB ?_
    refine zI (.int .i64 9) ?_
    refine (zF (zA (hK439 _ _ ?_)))
    obtain rfl := someI hF
    refine (yB (yE (zX (post1 (v1 := .int .i64 9) rfl rfl ?_))))
    exact ⟨rfl, H.pick [] (by decide)⟩
   have hF := zS c438 hF
   exact (yA (yU (zA (meet ⟨(), zO, ⟨H.pick [0, 1] (by decide), hF⟩⟩))))
  have hF := zS c431 hF
  refine zC fun K440 hK440 => ?_
  refine zB ?_
  obtain ⟨x441, e442, hF⟩ := zG hF
  refine zH (zV (xH (a := p0.Kind) (b := 13) rfl rfl) e442) ?_
  refine zI (.bool x441) ?_
  refine (zF (zA (hK440 _ _ ?_)))
  refine zZ (b := x441) rfl (fun c443 => ?_) (fun c443 => ?_)
  ·have hF := zQ c443 hF
   refine zC fun K444 hK444 => ?_
   refine zB ?_
   refine zH (fa54_4 rfl) ?_
   refine zH (zM one3 rfl (Cells.get (Blk.cells (H.item (i := 1) rfl)) (i := 4) rfl)) ?_
   refine zH (fa54_5 rfl) ?_
   refine zH (zM one3 rfl (Cells.get (Blk.cells (H.item (i := 1) rfl)) (i := 5) rfl)) ?_
   have H445 := H
   obtain ⟨x446, e447, hF⟩ := zD hF
   refine zW rfl rfl (zT en63 rfl) (F_ref6_outside_w p0.N 1 p0.Frames _ e447 _ _ _ (H.enter [] [] (by decide) rfl)) ?_
   rintro _ w448 ⟨rfl, G449⟩
   have H := H445.step (G449.only : Only [] _ _)
   refine ⟨_, rfl, ?_⟩
   refine (zF (zA (hK444 _ _ ?_)))
   refine zZ (b := x446) rfl (fun c450 => ?_) (fun c450 => ?_)
   ·have hF := zQ c450 hF
    refine zC fun K451 hK451 => ?_
    refine zB ?_
    refine zI (.int .i64 9) ?_
    refine (zF (zA (hK451 _ _ ?_)))
    obtain rfl := someI hF
    refine (yB (yE (zX (post1 (v1 := .int .i64 9) rfl rfl ?_))))
    exact ⟨rfl, H.pick [] (by decide)⟩
   have hF := zS c450 hF
   exact (yA (yU (zA (meet ⟨(), zO, ⟨H.pick [0, 1] (by decide), hF⟩⟩))))
  have hF := zS c443 hF
  exact (yA (yU (zA (meet ⟨(), zO, ⟨H.pick [0, 1] (by decide), hF⟩⟩))))
 rintro _ ρ w412 ⟨H, hF⟩
 have hF := wI ek414 hF
 refine zC fun K462 hK462 => ?_
 obtain ⟨g468, hF, hK470⟩ := zD hF
 refine yO [127, 128, 129, 130, 131, 132, 133, 134] (fun (g : Unit) => [(134, .bool g468)]) (fun g wl => Hd O w wl S []) ?_ ?_
 ·skip
  refine zB ?_
  refine zH (fa54_0 rfl) ?_
  refine zH (zM one3 rfl (Cells.get (Blk.cells (H.item (i := 1) rfl)) (i := 0) rfl)) ?_
  obtain ⟨x471, e472, hF⟩ := zG hF
  refine zH (zV (xH (a := p0.Kind) (b := 5) rfl rfl) e472) ?_
  refine yQ (b := x471) rfl rfl rfl (fun c473 => ?_) (fun c473 => ?_)
  ·have hF := zQ c473 hF
   refine zH (fa54_4 rfl) ?_
   refine zH (zM one3 rfl (Cells.get (Blk.cells (H.item (i := 1) rfl)) (i := 4) rfl)) ?_
   obtain ⟨x474, e475, hF⟩ := zG hF
   refine zH (zV (xQ (a := p0.N) (b := 0) rfl rfl) e475) ?_
   refine zH (yP (v := .bool x474) rfl rfl) ?_
   obtain rfl := someI hF
   exact (zF (zA (meet ⟨(), (zL rfl zO), H.pick [] (by decide)⟩)))
  have hF := zS c473 hF
  refine yG ?_
  refine yG ?_
  refine yG ?_
  refine zH (yJ (v := .bool false) rfl rfl) ?_
  obtain rfl := someI hF
  exact (zF (zA (meet ⟨(), (zL rfl zO), H.pick [] (by decide)⟩)))
 rintro _ ρ w469 H
 have hF := hK470
 refine zZ (b := g468) rfl (fun c476 => ?_) (fun c476 => ?_)
 ·have hF := zQ c476 hF
  refine zC fun K477 hK477 => ?_
  refine zB ?_
  refine zI (.int .i64 9) ?_
  refine (zF (zA (hK477 _ _ ?_)))
  obtain rfl := someI hF
  refine (yB (zX (post1 (v1 := .int .i64 9) rfl rfl ?_)))
  exact ⟨rfl, H.pick [] (by decide)⟩
 have hF := zS c476 hF
 refine (yA (zA (hK462 _ _ ?_)))
 refine zC fun K478 hK478 => ?_
 refine zB ?_
 refine zI (.int .i64 0) ?_
 refine (zF (zA (hK478 _ _ ?_)))
 obtain rfl := someI hF
 refine (yB (post1 (v1 := .int .i64 0) rfl rfl ?_))
 exact ⟨rfl, H.pick [] (by decide)⟩
abbrev S_ref6_nodesFault (f : Cond → Option Int) : Prop := ∀ (p0 : Cond) (v1 : Value) (r : Int) (hF : f p0 = some r) (O S : List Nat) (w : World) (H : Hd O w w S [.fz (.sl rCond v1 p0.Kids)]),
  Calls Tryz.prog 114 ([.agg [.int .i64 p0.Kind, .string (bs p0.Name), .string (bs p0.Other), .int .i64 p0.Op, .int .i64 p0.N, .int .i64 p0.Frames, v1].toArray] : List Value).toArray w fun e w' => e = .returned (.int .i64 r) ∧ Hd O w w' S []
set_option maxHeartbeats 4000000 in
theorem F_ref6_nodesFault_B_w (rfJ : Cond → Option Int) (rhJ : S_ref6_nodesFault rfJ) (p0 : Cond) (v1 : Value) (r : Int) (hF : F_ref6_nodesFault_B rfJ p0 = some r) (O S : List Nat) (w : World) (H : Hd O w w S [.fz (.sl rCond v1 p0.Kids)]) :
  Calls Tryz.prog 114 ([.agg [.int .i64 p0.Kind, .string (bs p0.Name), .string (bs p0.Other), .int .i64 p0.Op, .int .i64 p0.N, .int .i64 p0.Frames, v1].toArray] : List Value).toArray w fun e w' => e = .returned (.int .i64 r) ∧ Hd O w w' S [] := by
 unfold F_ref6_nodesFault_B at hF
 refine yC 25 Tryz.func114 rfl rfl rfl ?_
 refine zC fun K3 hK3 => ?_
 refine zB ?_
 refine yT rfl rfl (wL (cs := [.int .i64 p0.Kind, .string (bs p0.Name), .string (bs p0.Other), .int .i64 p0.Op, .int .i64 p0.N, .int .i64 p0.Frames, v1]) rfl H) ?_
 rintro _ w6 ⟨b4, rfl, H⟩
 refine zI (.int .i64 0) ?_
 refine (zF (zA (hK3 _ _ ?_)))
 refine zC fun K7 hK7 => ?_
 refine zB ?_
 refine zH (yL (yH (cs := [.int .i64 p0.Kind, .string (bs p0.Name), .string (bs p0.Other), .int .i64 p0.Op, .int .i64 p0.N, .int .i64 p0.Frames, v1]) agg54 rfl sz54 rfl (Blk.cells (H.item (i := 1) rfl))) rfl) ?_
 have H8 := H
 obtain ⟨x9, e10, hF⟩ := zD hF
 refine zW rfl rfl (zT en158 rfl) (F_ref6_nodeFault_w p0 v1 _ e10 _ _ _ (H.enter [] [0] (by decide) rfl)) ?_
 rintro _ w11 ⟨rfl, G12⟩
 have H := H8.step (G12.only : Only [] _ _)
 refine ⟨_, rfl, ?_⟩
 refine zI (.int .i64 x9) ?_
 refine (zF (zA (hK7 _ _ ?_)))
 obtain ⟨g166, hF, hK168⟩ := zD hF
 refine yO [3, 4, 7, 8, 9, 10, 11, 12, 13, 14, 15, 16, 17, 18, 19, 20, 21, 22, 23] (fun (g : Unit) => [(3, .int .i64 g166)]) (fun g wl => Hd O w wl S []) ?_ ?_
 ·skip
  refine zC fun K169 hK169 => ?_
  refine zB ?_
  refine zI (.int .i64 0) ?_
  refine (zF (zA (hK169 _ _ ?_)))
  refine yF ?_
  unfold F_ref6_nodesFault_B_L1 at hF
  obtain ⟨B318, n319, eB320, hF⟩ := yV hF
  refine xJ [3, 4, 7, 8, 9, 10, 11, 12, 13, 14, 15, 16, 17, 18, 19, 20, 21, 22, 23] (fun (g : Nat × Int × Int) => [(3, .int .i64 g.2.1), (4, .int .i64 g.2.2)]) (fun g wl => Hd O w wl S [.fz (.sl rCond v1 p0.Kids), .blk b4 [.int .i64 p0.Kind, .string (bs p0.Name), .string (bs p0.Other), .int .i64 p0.Op, .int .i64 p0.N, .int .i64 p0.Frames, v1] 54] ∧ loopN B318 g.1 (g.2.1, g.2.2) = some g166) (fun g => g.1) (n319, x9, 0) (zL rfl (zL rfl zO)) ⟨H.pick [0, 1] (by decide), hF⟩ ?_
  clear H hF
  rintro ⟨n319, g316, g317⟩ ρ w322 ⟨H, hF⟩
  obtain ⟨n323, rfl, hF⟩ := xB hF
  have hF := yZ eB320 hF
  refine zC fun K338 hK338 => ?_
  obtain ⟨g349, hF, hK351⟩ := zD hF
  refine yO [7, 8, 9, 10, 11, 12, 13, 14, 15] (fun (g : Unit) => [(15, .bool g349)]) (fun g wl => Hd O w wl S [.fz (.sl rCond v1 p0.Kids), .blk b4 [.int .i64 p0.Kind, .string (bs p0.Name), .string (bs p0.Other), .int .i64 p0.Op, .int .i64 p0.N, .int .i64 p0.Frames, v1] 54]) ?_ ?_
  ·skip
   refine zB ?_
   refine zN (.int .i64 g317) ?_
   refine zH (fa54_6 rfl) ?_
   refine zH (zM one52 rfl (Cells.get (Blk.cells (H.item (i := 1) rfl)) (i := 6) rfl)) ?_
   obtain ⟨x352, e353, hF⟩ := zG hF
   obtain ⟨a354, c355, q356⟩ := SlF.len ((H.item (i := 0) rfl))
   refine zH (yL (xW u52 q356) (congrArg (Value.int .i64) e353)) ?_
   obtain ⟨x357, e358, hF⟩ := zG hF
   refine zH (zV (xQ (a := g317) (b := x352) rfl rfl) e358) ?_
   refine yQ (b := x357) rfl rfl rfl (fun c359 => ?_) (fun c359 => ?_)
   ·have hF := zQ c359 hF
    refine zN (.int .i64 g316) ?_
    obtain ⟨x360, e361, hF⟩ := zG hF
    refine zH (zV (xH (a := g316) (b := 0) rfl rfl) e361) ?_
    refine zH (yP (v := .bool x360) rfl rfl) ?_
    obtain rfl := someI hF
    exact (zF (zA (meet ⟨(), (zL rfl zO), H.pick [0, 1] (by decide)⟩)))
   have hF := zS c359 hF
   refine yG ?_
   refine yG ?_
   refine zH (yJ (v := .bool false) rfl rfl) ?_
   obtain rfl := someI hF
   exact (zF (zA (meet ⟨(), (zL rfl zO), H.pick [0, 1] (by decide)⟩)))
  rintro _ ρ w350 H
  have hF := hK351
  refine zZ (b := g349) rfl (fun c362 => ?_) (fun c362 => ?_)
  ·have hF := zQ c362 hF
   refine (yA (zA (hK338 _ _ ?_)))
   refine zC fun K383 hK383 => ?_
   refine yF ?_
   refine zB ?_
   refine zH (fa54_6 rfl) ?_
   refine zH (zM one52 rfl (Cells.get (Blk.cells (H.item (i := 1) rfl)) (i := 6) rfl)) ?_
   refine zN (.int .i64 g317) ?_
   obtain ⟨x384, e385, hF⟩ := zD hF
   obtain ⟨b386, o387, c388, cs389, q390, h393, h391, h392, h394⟩ := wQ (H.item (i := 0) rfl) e385
   obtain ⟨v395, rfl, h396⟩ := wK h393
   have H := H.fzs [.at b386 (o387 + g317.toNat * 7) _, .sl rCond v395 x384.Kids] ⟨⟨h391, h392, h394⟩, h396, trivial⟩
   refine zH (xY u52 sz54 q390 rfl (yN e385).1 (yN e385).2.1 rfl rfl) ?_
   refine zH (yL (yH (cs := [.int .i64 x384.Kind, .string (bs x384.Name), .string (bs x384.Other), .int .i64 x384.Op, .int .i64 x384.N, .int .i64 x384.Frames, v395]) agg54 rfl sz54 rfl (H.item (i := 2) rfl).2.2) rfl) ?_
   have H399 := H
   obtain ⟨x400, e401, hF⟩ := zD hF
   refine zW rfl rfl (zT en114 rfl) (rhJ x384 v395 _ e401 _ _ _ (H.enter [] [3] (by decide) rfl)) ?_
   rintro _ w402 ⟨rfl, G403⟩
   have H := H399.step (G403.only : Only [] _ _)
   refine ⟨_, rfl, ?_⟩
   refine zI (.int .i64 x400) ?_
   refine (zF (yU (zA (hK383 _ _ ?_))))
   refine zB ?_
   refine zN (.int .i64 g317) ?_
   obtain ⟨x404, e405, hF⟩ := zG hF
   refine zH (xX (a := g317) (b := 1) rfl rfl e405) ?_
   refine zI (.int .i64 x404) ?_
   exact (zF (zA (meet ⟨(n323, x400, x404), (zL rfl (zL rfl zO)), ⟨H.pick [0, 1] (by decide), hF⟩, Nat.lt_succ_self _⟩)))
  have hF := zS c362 hF
  obtain rfl := someI hF
  exact (xP (yR (yR (xA (zA (meet ⟨(), (zL rfl zO), H.pick [] (by decide)⟩))))))
 rintro _ ρ w167 H
 have hF := hK168
 refine zC fun K406 hK406 => ?_
 refine zB ?_
 refine zN (.int .i64 g166) ?_
 refine zI (.int .i64 g166) ?_
 refine (zF (zA (hK406 _ _ ?_)))
 obtain rfl := someI hF
 refine (yB (post1 (v1 := .int .i64 g166) rfl rfl ?_))
 exact ⟨rfl, H.pick [] (by decide)⟩
theorem F_ref6_nodesFault_s : S_ref6_nodesFault (F_ref6_nodesFault) := by
 have h : ∀ n, S_ref6_nodesFault (F_ref6_nodesFault_R n) := by
  intro n
  induction n with
  | zero => intro p0 v1 r hF; cases hF
  | succ n ih => intro p0 v1 r hF; exact F_ref6_nodesFault_B_w (F_ref6_nodesFault_R n) ih p0 v1 r hF
 exact h FU
set_option maxHeartbeats 4000000 in
theorem F_ref6_CheckCond_w (p0 : Cond) (v1 : Value) (r : Int) (hF : F_ref6_CheckCond p0 = some r) (O S : List Nat) (w : World) (H : Hd O w w S [.fz (.sl rCond v1 p0.Kids)]) :
  Calls Tryz.prog 58 ([.agg [.int .i64 p0.Kind, .string (bs p0.Name), .string (bs p0.Other), .int .i64 p0.Op, .int .i64 p0.N, .int .i64 p0.Frames, v1].toArray] : List Value).toArray w fun e w' => e = .returned (.int .i64 r) ∧ Hd O w w' S [] := by
 unfold F_ref6_CheckCond at hF
 refine yC 12 Tryz.func58 rfl rfl rfl ?_
 refine zC fun K3 hK3 => ?_
 refine zB ?_
 refine yT rfl rfl (wL (cs := [.int .i64 p0.Kind, .string (bs p0.Name), .string (bs p0.Other), .int .i64 p0.Op, .int .i64 p0.N, .int .i64 p0.Frames, v1]) rfl H) ?_
 rintro _ w6 ⟨b4, rfl, H⟩
 refine zI (.int .i64 0) ?_
 refine (zF (zA (hK3 _ _ ?_)))
 refine zC fun K25 hK25 => ?_
 obtain ⟨g39, hF, hK41⟩ := zD hF
 refine yO [3, 4, 5, 6, 7, 8, 9] (fun (g : Unit) => [(9, .bool g39)]) (fun g wl => Hd O w wl S [.fz (.sl rCond v1 p0.Kids), .blk b4 [.int .i64 p0.Kind, .string (bs p0.Name), .string (bs p0.Other), .int .i64 p0.Op, .int .i64 p0.N, .int .i64 p0.Frames, v1] 54]) ?_ ?_
 ·skip
  refine zB ?_
  refine zH (yL (yH (cs := [.int .i64 p0.Kind, .string (bs p0.Name), .string (bs p0.Other), .int .i64 p0.Op, .int .i64 p0.N, .int .i64 p0.Frames, v1]) agg54 rfl sz54 rfl (Blk.cells (H.item (i := 1) rfl))) rfl) ?_
  have H42 := H
  obtain ⟨x43, e44, hF⟩ := zD hF
  refine zW rfl rfl (zT en112 rfl) (F_ref6_nodes_s p0 200 v1 _ e44 _ _ _ (H.enter [] [0] (by decide) rfl)) ?_
  rintro _ w45 ⟨rfl, G46⟩
  have H := H42.step (G46.only : Only [] _ _)
  refine ⟨_, rfl, ?_⟩
  obtain ⟨x47, e48, hF⟩ := zG hF
  refine zH (zV (Do_gtr (a := x43) (b := 200) rfl rfl) e48) ?_
  refine yQ (b := x47) rfl rfl rfl (fun c49 => ?_) (fun c49 => ?_)
  ·have hF := zQ c49 hF
   refine yG ?_
   refine yG ?_
   refine zH (yP (v := .bool true) rfl rfl) ?_
   obtain rfl := someI hF
   exact (zF (zA (meet ⟨(), (zL rfl zO), H.pick [0, 1] (by decide)⟩)))
  have hF := zS c49 hF
  refine zH (yL (yH (cs := [.int .i64 p0.Kind, .string (bs p0.Name), .string (bs p0.Other), .int .i64 p0.Op, .int .i64 p0.N, .int .i64 p0.Frames, v1]) agg54 rfl sz54 rfl (Blk.cells (H.item (i := 1) rfl))) rfl) ?_
  have H50 := H
  obtain ⟨x51, e52, hF⟩ := zD hF
  refine zW rfl rfl (zT en113 rfl) (F_ref6_deeper_s p0 20 v1 _ e52 _ _ _ (H.enter [] [0] (by decide) rfl)) ?_
  rintro _ w53 ⟨rfl, G54⟩
  have H := H50.step (G54.only : Only [] _ _)
  refine ⟨_, rfl, ?_⟩
  refine zH (yJ (v := .bool x51) rfl rfl) ?_
  obtain rfl := someI hF
  exact (zF (zA (meet ⟨(), (zL rfl zO), H.pick [0, 1] (by decide)⟩)))
 rintro _ ρ w40 H
 have hF := hK41
 refine zZ (b := g39) rfl (fun c55 => ?_) (fun c55 => ?_)
 ·have hF := zQ c55 hF
  refine zC fun K56 hK56 => ?_
  refine zB ?_
  refine zI (.int .i64 3) ?_
  refine (zF (zA (hK56 _ _ ?_)))
  obtain rfl := someI hF
  refine (yB (zX (post1 (v1 := .int .i64 3) rfl rfl ?_)))
  exact ⟨rfl, H.pick [] (by decide)⟩
 have hF := zS c55 hF
 refine (yA (zA (hK25 _ _ ?_)))
 refine zC fun K57 hK57 => ?_
 refine zB ?_
 refine zH (yL (yH (cs := [.int .i64 p0.Kind, .string (bs p0.Name), .string (bs p0.Other), .int .i64 p0.Op, .int .i64 p0.N, .int .i64 p0.Frames, v1]) agg54 rfl sz54 rfl (Blk.cells (H.item (i := 1) rfl))) rfl) ?_
 have H58 := H
 obtain ⟨x59, e60, hF⟩ := zD hF
 refine zW rfl rfl (zT en114 rfl) (F_ref6_nodesFault_s p0 v1 _ e60 _ _ _ (H.enter [] [0] (by decide) rfl)) ?_
 rintro _ w61 ⟨rfl, G62⟩
 have H := H58.step (G62.only : Only [] _ _)
 refine ⟨_, rfl, ?_⟩
 refine zI (.int .i64 x59) ?_
 refine (zF (zA (hK57 _ _ ?_)))
 obtain rfl := someI hF
 refine (yB (post1 (v1 := .int .i64 x59) rfl rfl ?_))
 exact ⟨rfl, H.pick [] (by decide)⟩
abbrev S_ref6_refers (f : Cond → Option Bool) : Prop := ∀ (p0 : Cond) (v1 : Value) (r : Bool) (hF : f p0 = some r) (O S : List Nat) (w : World) (H : Hd O w w S [.fz (.sl rCond v1 p0.Kids)]),
  Calls Tryz.prog 98 ([.agg [.int .i64 p0.Kind, .string (bs p0.Name), .string (bs p0.Other), .int .i64 p0.Op, .int .i64 p0.N, .int .i64 p0.Frames, v1].toArray] : List Value).toArray w fun e w' => e = .returned (.bool r) ∧ Hd O w w' S []
set_option maxHeartbeats 4000000 in
set_option maxRecDepth 100000 in
theorem F_ref6_refers_B_w (rfK : Cond → Option Bool) (rhK : S_ref6_refers rfK) (p0 : Cond) (v1 : Value) (r : Bool) (hF : F_ref6_refers_B rfK p0 = some r) (O S : List Nat) (w : World) (H : Hd O w w S [.fz (.sl rCond v1 p0.Kids)]) :
  Calls Tryz.prog 98 ([.agg [.int .i64 p0.Kind, .string (bs p0.Name), .string (bs p0.Other), .int .i64 p0.Op, .int .i64 p0.N, .int .i64 p0.Frames, v1].toArray] : List Value).toArray w fun e w' => e = .returned (.bool r) ∧ Hd O w w' S [] := by
 unfold F_ref6_refers_B at hF
 refine yC 25 Tryz.func98 rfl rfl rfl ?_
 refine zC fun K3 hK3 => ?_
 refine zB ?_
 refine yT rfl rfl (wL (cs := [.int .i64 p0.Kind, .string (bs p0.Name), .string (bs p0.Other), .int .i64 p0.Op, .int .i64 p0.N, .int .i64 p0.Frames, v1]) rfl H) ?_
 rintro _ w6 ⟨b4, rfl, H⟩
 refine zI (.bool false) ?_
 refine (zF (zA (hK3 _ _ ?_)))
 refine zC fun K17 hK17 => ?_
 obtain ⟨g23, hF, hK25⟩ := zD hF
 refine yO [4, 5, 6, 7, 8, 9, 10, 11] (fun (g : Unit) => [(11, .bool g23)]) (fun g wl => Hd O w wl S [.fz (.sl rCond v1 p0.Kids), .blk b4 [.int .i64 p0.Kind, .string (bs p0.Name), .string (bs p0.Other), .int .i64 p0.Op, .int .i64 p0.N, .int .i64 p0.Frames, v1] 54]) ?_ ?_
 ·skip
  refine zB ?_
  refine zH (fa54_0 rfl) ?_
  refine zH (zM one3 rfl (Cells.get (Blk.cells (H.item (i := 1) rfl)) (i := 0) rfl)) ?_
  obtain ⟨x26, e27, hF⟩ := zG hF
  refine zH (zV (xH (a := p0.Kind) (b := 6) rfl rfl) e27) ?_
  refine yQ (b := x26) rfl rfl rfl (fun c28 => ?_) (fun c28 => ?_)
  ·have hF := zQ c28 hF
   refine yG ?_
   refine yG ?_
   refine yG ?_
   refine zH (yP (v := .bool true) rfl rfl) ?_
   obtain rfl := someI hF
   exact (zF (zA (meet ⟨(), (zL rfl zO), H.pick [0, 1] (by decide)⟩)))
  have hF := zS c28 hF
  refine zH (fa54_0 rfl) ?_
  refine zH (zM one3 rfl (Cells.get (Blk.cells (H.item (i := 1) rfl)) (i := 0) rfl)) ?_
  obtain ⟨x29, e30, hF⟩ := zG hF
  refine zH (zV (xH (a := p0.Kind) (b := 7) rfl rfl) e30) ?_
  refine zH (yJ (v := .bool x29) rfl rfl) ?_
  obtain rfl := someI hF
  exact (zF (zA (meet ⟨(), (zL rfl zO), H.pick [0, 1] (by decide)⟩)))
 rintro _ ρ w24 H
 have hF := hK25
 refine zZ (b := g23) rfl (fun c31 => ?_) (fun c31 => ?_)
 ·have hF := zQ c31 hF
  refine zC fun K32 hK32 => ?_
  refine zB ?_
  refine zI (.bool true) ?_
  refine (zF (zA (hK32 _ _ ?_)))
  obtain rfl := someI hF
  refine (yB (zX (post1 (v1 := .bool true) rfl rfl ?_)))
  exact ⟨rfl, H.pick [] (by decide)⟩
 have hF := zS c31 hF
 refine (yA (zA (hK17 _ _ ?_)))
 obtain ⟨k178, ek179, hF⟩ := xZ hF
 refine yO [2, 3, 12, 13, 14, 15, 16, 17, 18, 19, 20, 21, 22, 23, 24] (fun (g : Unit) => []) (fun g wl => Hd O w wl S [] ∧ k178 () = some r) ?_ ?_
 ·skip
  refine zC fun K180 hK180 => ?_
  refine zB ?_
  refine zI (.int .i64 0) ?_
  refine (zF (zA (hK180 _ _ ?_)))
  refine yF ?_
  unfold F_ref6_refers_B_L1 at hF
  obtain ⟨B319, n320, eB321, hF⟩ := yV hF
  refine xJ [2, 3, 12, 13, 14, 15, 16, 17, 18, 19, 20, 21, 22, 23, 24] (fun (g : Nat × Int) => [(3, .int .i64 g.2)]) (fun g wl => Hd O w wl S [.fz (.sl rCond v1 p0.Kids), .blk b4 [.int .i64 p0.Kind, .string (bs p0.Name), .string (bs p0.Other), .int .i64 p0.Op, .int .i64 p0.N, .int .i64 p0.Frames, v1] 54] ∧ loopN B319 g.1 g.2 = some r) (fun g => g.1) (n320, 0) (zL rfl zO) ⟨H.pick [0, 1] (by decide), hF⟩ ?_
  clear H hF
  rintro ⟨n320, g318⟩ ρ w323 ⟨H, hF⟩
  obtain ⟨n324, rfl, hF⟩ := xB hF
  have hF := yZ eB321 hF
  refine zC fun K334 hK334 => ?_
  refine zC fun K335 hK335 => ?_
  refine zB ?_
  refine zN (.int .i64 g318) ?_
  refine zH (fa54_6 rfl) ?_
  refine zH (zM one52 rfl (Cells.get (Blk.cells (H.item (i := 1) rfl)) (i := 6) rfl)) ?_
  obtain ⟨x336, e337, hF⟩ := zG hF
  obtain ⟨a338, c339, q340⟩ := SlF.len ((H.item (i := 0) rfl))
  refine zH (yL (xW u52 q340) (congrArg (Value.int .i64) e337)) ?_
  obtain ⟨x341, e342, hF⟩ := zG hF
  refine zH (zV (xQ (a := g318) (b := x336) rfl rfl) e342) ?_
  refine (zF (zA (hK335 _ _ ?_)))
  refine zZ (b := x341) rfl (fun c343 => ?_) (fun c343 => ?_)
  ·have hF := zQ c343 hF
   refine (yA (zA (hK334 _ _ ?_)))
   refine zC fun K367 hK367 => ?_
   refine yF ?_
   refine zC fun K368 hK368 => ?_
   refine zB ?_
   refine zH (fa54_6 rfl) ?_
   refine zH (zM one52 rfl (Cells.get (Blk.cells (H.item (i := 1) rfl)) (i := 6) rfl)) ?_
   refine zN (.int .i64 g318) ?_
   obtain ⟨x369, e370, hF⟩ := zD hF
   obtain ⟨b371, o372, c373, cs374, q375, h378, h376, h377, h379⟩ := wQ (H.item (i := 0) rfl) e370
   obtain ⟨v380, rfl, h381⟩ := wK h378
   have H := H.fzs [.at b371 (o372 + g318.toNat * 7) _, .sl rCond v380 x369.Kids] ⟨⟨h376, h377, h379⟩, h381, trivial⟩
   refine zH (xY u52 sz54 q375 rfl (yN e370).1 (yN e370).2.1 rfl rfl) ?_
   refine zH (yL (yH (cs := [.int .i64 x369.Kind, .string (bs x369.Name), .string (bs x369.Other), .int .i64 x369.Op, .int .i64 x369.N, .int .i64 x369.Frames, v380]) agg54 rfl sz54 rfl (H.item (i := 2) rfl).2.2) rfl) ?_
   have H384 := H
   obtain ⟨x385, e386, hF⟩ := zD hF
   refine zW rfl rfl (zT en98 rfl) (rhK x369 v380 _ e386 _ _ _ (H.enter [] [3] (by decide) rfl)) ?_
   rintro _ w387 ⟨rfl, G388⟩
   have H := H384.step (G388.only : Only [] _ _)
   refine ⟨_, rfl, ?_⟩
   refine (zF (zA (hK368 _ _ ?_)))
   refine zZ (b := x385) rfl (fun c389 => ?_) (fun c389 => ?_)
   ·have hF := zQ c389 hF
    refine zC fun K390 hK390 => ?_
    refine zB ?_
    refine zI (.bool true) ?_
    refine (zF (zA (hK390 _ _ ?_)))
    obtain rfl := someI hF
    refine (yB (yE (zX (zX (yE (zX (post1 (v1 := .bool true) rfl rfl ?_)))))))
    exact ⟨rfl, H.pick [] (by decide)⟩
   have hF := zS c389 hF
   refine (yA (yU (zA (hK367 _ _ ?_))))
   refine zB ?_
   refine zN (.int .i64 g318) ?_
   obtain ⟨x391, e392, hF⟩ := zG hF
   refine zH (xX (a := g318) (b := 1) rfl rfl e392) ?_
   refine zI (.int .i64 x391) ?_
   exact (zF (zA (meet ⟨(n324, x391), (zL rfl zO), ⟨H.pick [0, 1] (by decide), hF⟩, Nat.lt_succ_self _⟩)))
  have hF := zS c343 hF
  exact (xP (yR (yR (xA (zA (meet ⟨(), zO, ⟨H.pick [] (by decide), hF⟩⟩))))))
 rintro _ ρ w177 ⟨H, hF⟩
 have hF := wI ek179 hF
 refine zC fun K393 hK393 => ?_
 refine zB ?_
 refine zI (.bool false) ?_
 refine (zF (zA (hK393 _ _ ?_)))
 obtain rfl := someI hF
 refine (yB (post1 (v1 := .bool false) rfl rfl ?_))
 exact ⟨rfl, H.pick [] (by decide)⟩
theorem F_ref6_refers_s : S_ref6_refers (F_ref6_refers) := by
 have h : ∀ n, S_ref6_refers (F_ref6_refers_R n) := by
  intro n
  induction n with
  | zero => intro p0 v1 r hF; cases hF
  | succ n ih => intro p0 v1 r hF; exact F_ref6_refers_B_w (F_ref6_refers_R n) ih p0 v1 r hF
 exact h FU
set_option maxHeartbeats 4000000 in
theorem F_ref6_RuleOf_w (p0 : Rules) (p1 : Str) (v1 : Value) (v2 : Value) (v3 : Value) (r : Int) (hF : F_ref6_RuleOf p0 p1 = some r) (O S : List Nat) (w : World) (H : Hd O w w S [.fz (.sl Rp.str v1 p0.Phases), .fz (.sl rMoveT v2 p0.Moves), .fz (.sl rRule v3 p0.Rules)]) :
  Calls Tryz.prog 99 ([.agg [v1, v2, v3].toArray, .string (bs p1)] : List Value).toArray w fun e w' => e = .returned (.int .i64 r) ∧ Hd O w w' S [] := by
 unfold F_ref6_RuleOf at hF
 refine yC 22 Tryz.func99 rfl rfl rfl ?_
 refine zC fun K7 hK7 => ?_
 refine zB ?_
 refine yT rfl rfl (wL (cs := [v1, v2, v3]) rfl H) ?_
 rintro _ w10 ⟨b8, rfl, H⟩
 refine zI (.int .i64 0) ?_
 refine (zF (zA (hK7 _ _ ?_)))
 obtain ⟨k144, ek145, hF⟩ := xZ hF
 refine yO [4, 5, 6, 7, 8, 9, 10, 11, 12, 13, 14, 15, 16, 17, 18, 19, 20, 21] (fun (g : Unit) => []) (fun g wl => Hd O w wl S [] ∧ k144 () = some r) ?_ ?_
 ·skip
  refine zC fun K146 hK146 => ?_
  refine zB ?_
  refine zI (.int .i64 0) ?_
  refine (zF (zA (hK146 _ _ ?_)))
  refine yF ?_
  unfold F_ref6_RuleOf_L1 at hF
  obtain ⟨B273, n274, eB275, hF⟩ := yV hF
  refine xJ [4, 5, 6, 7, 8, 9, 10, 11, 12, 13, 14, 15, 16, 17, 18, 19, 20, 21] (fun (g : Nat × Int) => [(5, .int .i64 g.2)]) (fun g wl => Hd O w wl S [.fz (.sl Rp.str v1 p0.Phases), .fz (.sl rMoveT v2 p0.Moves), .fz (.sl rRule v3 p0.Rules), .blk b8 [v1, v2, v3] 26] ∧ loopN B273 g.1 g.2 = some r) (fun g => g.1) (n274, 0) (zL rfl zO) ⟨H.pick [0, 1, 2, 3] (by decide), hF⟩ ?_
  clear H hF
  rintro ⟨n274, g272⟩ ρ w277 ⟨H, hF⟩
  obtain ⟨n278, rfl, hF⟩ := xB hF
  have hF := yZ eB275 hF
  refine zC fun K288 hK288 => ?_
  refine zC fun K289 hK289 => ?_
  refine zB ?_
  refine zN (.int .i64 g272) ?_
  refine zH (fa26_2 rfl) ?_
  refine zH (zM one24 rfl (Cells.get (Blk.cells (H.item (i := 3) rfl)) (i := 2) rfl)) ?_
  obtain ⟨x290, e291, hF⟩ := zG hF
  obtain ⟨a292, c293, q294⟩ := SlF.len ((H.item (i := 2) rfl))
  refine zH (yL (xW u24 q294) (congrArg (Value.int .i64) e291)) ?_
  obtain ⟨x295, e296, hF⟩ := zG hF
  refine zH (zV (xQ (a := g272) (b := x290) rfl rfl) e296) ?_
  refine (zF (zA (hK289 _ _ ?_)))
  refine zZ (b := x295) rfl (fun c297 => ?_) (fun c297 => ?_)
  ·have hF := zQ c297 hF
   refine (yA (zA (hK288 _ _ ?_)))
   refine zC fun K318 hK318 => ?_
   refine yF ?_
   refine zC fun K319 hK319 => ?_
   refine zB ?_
   refine zH (fa26_2 rfl) ?_
   refine zH (zM one24 rfl (Cells.get (Blk.cells (H.item (i := 3) rfl)) (i := 2) rfl)) ?_
   refine zN (.int .i64 g272) ?_
   obtain ⟨x320, e321, hF⟩ := zD hF
   obtain ⟨b322, o323, c324, cs325, q326, h329, h327, h328, h330⟩ := wQ (H.item (i := 2) rfl) e321
   obtain ⟨v331, rfl, h332⟩ := rRule_open h329
   have H := H.fzs [.at b322 (o323 + g272.toNat * 8) _, .sl rCond v331 x320.When.Kids] ⟨⟨h327, h328, h330⟩, h332, trivial⟩
   refine zH (xY u24 sz106 q326 rfl (yN e321).1 (yN e321).2.1 rfl rfl) ?_
   refine zH (fa106_0 rfl) ?_
   refine zH (zM one9 rfl (Cells.get (H.item (i := 4) rfl).2.2 (i := 0) rfl)) ?_
   refine zN (.string (bs p1)) ?_
   obtain ⟨x335, e336, hF⟩ := zG hF
   refine zH (zV (wH (s1 := x320.Name) (s2 := p1) rfl rfl) e336) ?_
   refine (zF (zA (hK319 _ _ ?_)))
   refine zZ (b := x335) rfl (fun c337 => ?_) (fun c337 => ?_)
   ·have hF := zQ c337 hF
    refine zC fun K338 hK338 => ?_
    refine zB ?_
    refine zN (.int .i64 g272) ?_
    refine zI (.int .i64 g272) ?_
    refine (zF (zA (hK338 _ _ ?_)))
    obtain rfl := someI hF
    refine (yB (yE (zX (zX (yE (zX (post1 (v1 := .int .i64 g272) rfl rfl ?_)))))))
    exact ⟨rfl, H.pick [] (by decide)⟩
   have hF := zS c337 hF
   refine (yA (yU (zA (hK318 _ _ ?_))))
   refine zB ?_
   refine zN (.int .i64 g272) ?_
   obtain ⟨x339, e340, hF⟩ := zG hF
   refine zH (xX (a := g272) (b := 1) rfl rfl e340) ?_
   refine zI (.int .i64 x339) ?_
   exact (zF (zA (meet ⟨(n278, x339), (zL rfl zO), ⟨H.pick [0, 1, 2, 3] (by decide), hF⟩, Nat.lt_succ_self _⟩)))
  have hF := zS c297 hF
  exact (xP (yR (yR (xA (zA (meet ⟨(), zO, ⟨H.pick [] (by decide), hF⟩⟩))))))
 rintro _ ρ w143 ⟨H, hF⟩
 have hF := wI ek145 hF
 refine zC fun K341 hK341 => ?_
 refine zB ?_
 refine zI (.int .i64 (-1)) ?_
 refine (zF (zA (hK341 _ _ ?_)))
 obtain rfl := someI hF
 refine (yB (post1 (v1 := .int .i64 (-1)) rfl rfl ?_))
 exact ⟨rfl, H.pick [] (by decide)⟩
abbrev S_ref6_unnamed (f : Rules → Int → Cond → Option Bool) : Prop := ∀ (p0 : Rules) (p1 : Int) (p2 : Cond) (v1 : Value) (v2 : Value) (v3 : Value) (v7 : Value) (r : Bool) (hF : f p0 p1 p2 = some r) (O S : List Nat) (w : World) (H : Hd O w w S [.fz (.sl Rp.str v1 p0.Phases), .fz (.sl rMoveT v2 p0.Moves), .fz (.sl rRule v3 p0.Rules), .fz (.sl rCond v7 p2.Kids)]),
  Calls Tryz.prog 100 ([.agg [v1, v2, v3].toArray, .int .i64 p1, .agg [.int .i64 p2.Kind, .string (bs p2.Name), .string (bs p2.Other), .int .i64 p2.Op, .int .i64 p2.N, .int .i64 p2.Frames, v7].toArray] : List Value).toArray w fun e w' => e = .returned (.bool r) ∧ Hd O w w' S []
end Go.Proofs.YtnajnkghilemhaaGreatDoor.L
