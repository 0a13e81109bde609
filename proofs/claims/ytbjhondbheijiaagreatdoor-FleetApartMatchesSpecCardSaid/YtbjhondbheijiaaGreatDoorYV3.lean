/- Walks: what each function computes, for every argument; no condition but those that stand in the statements. -/
import Derived.Test.YtbjhondbheijiaaGreatDoorYV0
import Derived.Test.YtbjhondbheijiaaGreatDoorYV2
import Derived.Test.YtbjhondbheijiaaGreatDoorYV1
namespace Go.Proofs.YtbjhondbheijiaaGreatDoor.L
open Go.RowKit Go.OB Go.Lf
/- slices.ContainsFunc[[]orangebox/fleet.peaks,orangebox/fleet.peaks]@orangebox/fleet.peaksOf$1 -/
set_option maxHeartbeats 4000000 in
theorem F_slices_ContainsFunc___fleet_peaks_fleet_peaks__fleet_peaksOf_1_w (p0 : List FleetPeaks) (p1c0 : Mask) (v1 : Value) (b3 : Nat) (v4 : Value) (v5 : Value) (r : Bool) (hF : F_slices_ContainsFunc___fleet_peaks_fleet_peaks__fleet_peaksOf_1 p0 p1c0 = some r) (O S : List Nat) (w : World) (H : Hd O w w S [.blk b3 [.bool p1c0.Tails, .int .i64 p1c0.Days, v4, v5, .int .i64 p1c0.Least] 26, .fz (.sl rFleetPeaks v1 p0), .fz (.sl Rp.str v4 p1c0.Hide), .fz (.sl rGrain v5 p1c0.Grains)]) :
  Calls Tryz.prog 32 ([v1, .func (.func 33) #[] [.pointer (some ⟨b3, 0, none⟩)].toArray] : List Value).toArray w fun e w' => e = .returned (.bool r) ∧ Hd O w w' S [.blk b3 [.bool p1c0.Tails, .int .i64 p1c0.Days, v4, v5, .int .i64 p1c0.Least] 26] := by
 unfold F_slices_ContainsFunc___fleet_peaks_fleet_peaks__fleet_peaksOf_1 at hF
 refine yB 9 Tryz.func32 rfl rfl rfl ?_
 refine zD fun K9 hK9 => ?_
 refine zC ?_
 refine zA rfl rfl (zF (v := .bool false) rfl) ?_
 refine (zI (zB (hK9 _ _ ?_)))
 refine zD fun K10 hK10 => ?_
 refine zC ?_
 refine zA rfl rfl (zG (v := v1) rfl) ?_
 refine zA rfl rfl (zG (v := .func (.func 33) #[] [.pointer (some ⟨b3, 0, none⟩)].toArray) rfl) ?_
 obtain ⟨x11, e12, hF⟩ := zJ hF
 refine yJ rfl rfl (yC en59 rfl) (F_slices_IndexFunc___fleet_peaks_fleet_peaks__fleet_peaksOf_1_w p0 p1c0 v1 b3 v4 v5 _ e12 _ _ _ (H.enter [0] [1, 2, 3] (by decide) rfl)) ?_
 rintro _ w13 ⟨rfl, G14⟩
 have H : Hd O _ w13 _ [.fz (.sl rFleetPeaks v1 p0), .fz (.sl Rp.str v4 p1c0.Hide), .fz (.sl rGrain v5 p1c0.Grains), .blk b3 [.bool p1c0.Tails, .int .i64 p1c0.Days, v4, v5, .int .i64 p1c0.Least] 26] := H.back [0] [1, 2, 3] rfl G14
 refine ⟨_, rfl, ?_⟩
 obtain ⟨x15, e16, hF⟩ := zH hF
 refine zA rfl rfl (zT (Do_geq (a := x11) (b := 0) rfl rfl) (congrArg Value.bool e16)) ?_
 refine zA rfl rfl (zF (v := .bool x15) rfl) ?_
 refine (zI (zB (hK10 _ _ ?_)))
 have hR := Option.some.inj hF
 subst hR
 refine (yG (post1 (v1 := .bool x15) rfl rfl ?_))
 exact ⟨rfl, H.pick [3] (by decide)⟩
end Go.Proofs.YtbjhondbheijiaaGreatDoor.L
namespace Go.Proofs.YtbjhondbheijiaaGreatDoor.L
open Go.RowKit Go.OB Go.Lf
/- orangebox/fleet.peaksOf -/
set_option maxHeartbeats 4000000 in
theorem F_fleet_peaksOf_w (p0 : List (List Flight)) (p1 : Mask) (p2 : Str) (v1 : Value) (v3 : Value) (v4 : Value) (r : (List FleetPeaks) × Int) (hF : F_fleet_peaksOf p0 p1 p2 = some r) (O S : List Nat) (w : World) (H : Hd O w w S [.fz (.sl (Rp.sl rFlight) v1 p0), .fz (.sl Rp.str v3 p1.Hide), .fz (.sl rGrain v4 p1.Grains)]) :
  Calls Tryz.prog 10 ([v1, .agg [.bool p1.Tails, .int .i64 p1.Days, v3, v4, .int .i64 p1.Least].toArray, .string (bs p2)] : List Value).toArray w fun e w' => ∃ u7, e = .returned (.tuple #[u7, .int .i64 r.2]) ∧ Hd O w w' S [.fz (.sl rFleetPeaks u7 r.1)] := by
 unfold F_fleet_peaksOf at hF
 refine yB 108 Tryz.func10 rfl rfl rfl ?_
 refine zD fun K8 hK8 => ?_
 refine zC ?_
 refine xE rfl rfl (Lx_box (cs := [.bool p1.Tails, .int .i64 p1.Days, v3, v4, .int .i64 p1.Least]) rfl H) ?_
 rintro _ w11 ⟨b9, rfl, H⟩
 refine zA rfl rfl (zF (v := .slice none 0 0) rfl) ?_
 refine zA rfl rfl (zF (v := .int .i64 0) rfl) ?_
 refine (zI (zB (hK8 _ _ ?_)))
 obtain ⟨k152, ek153, hF⟩ := xU hF
 refine yL [6, 7, 9, 10, 23, 24, 25, 26, 27, 28, 29, 30, 31, 32, 33, 34] (fun (g : Unit) => []) (fun g wl => Hd O w wl S [.fz (.sl (Rp.sl rFlight) v1 p0), .blk b9 [.bool p1.Tails, .int .i64 p1.Days, v3, v4, .int .i64 p1.Least] 26, .fz (.sl Rp.str v3 p1.Hide), .fz (.sl rGrain v4 p1.Grains)] ∧ k152 () = some r) ?_ ?_
 ·skip
  refine zD fun K154 hK154 => ?_
  refine zC ?_
  refine zA rfl rfl (zG (v := v1) rfl) ?_
  obtain ⟨x155, e156, hF⟩ := zH hF
  obtain ⟨a157, c158, q159⟩ := SlF.len ((H.item (i := 0) rfl))
  refine zA rfl rfl (zT (xI u41 q159) (congrArg (Value.int .i64) e156)) ?_
  refine zA rfl rfl (zG (v := .int .i64 0) rfl) ?_
  refine (zI (zB (hK154 _ _ ?_)))
  refine yK ?_
  unfold F_fleet_peaksOf_L1 at hF
  obtain ⟨B288, n289, eB290, hF⟩ := yT hF
  refine xC [6, 7, 9, 10, 25, 26, 27, 28, 29, 30, 31, 32, 33, 34] (fun (g : Nat × Int) => [(25, .int .i64 g.2)]) (fun g wl => Hd O w wl S [.fz (.sl (Rp.sl rFlight) v1 p0), .blk b9 [.bool p1.Tails, .int .i64 p1.Days, v3, v4, .int .i64 p1.Least] 26, .fz (.sl Rp.str v3 p1.Hide), .fz (.sl rGrain v4 p1.Grains)] ∧ loopN B288 g.1 g.2 = some r) (fun g => g.1) (n289, 0) (zK rfl zQ) ⟨H.pick [0, 3, 1, 2] (by decide), hF⟩ ?_
  clear H hF
  rintro ⟨n289, g287⟩ ρ w292 ⟨H, hF⟩
  obtain ⟨n293, rfl, hF⟩ := yX hF
  have hF := yY eB290 hF
  refine zD fun K294 hK294 => ?_
  refine zC ?_
  obtain ⟨x295, e296, hF⟩ := zH hF
  refine zA rfl rfl (zT (xK (a := g287) (b := x155) rfl rfl) (congrArg Value.bool e296)) ?_
  refine (zI (zB (hK294 _ _ ?_)))
  refine zD fun K298 hK298 => ?_
  refine yF (b := x295) rfl (fun c299 => ?_) (fun c299 => ?_)
  ·have hF := zW c299 hF
   refine (yA (zB (hK298 _ _ ?_)))
   refine zD fun K327 hK327 => ?_
   refine yK ?_
   refine zD fun K328 hK328 => ?_
   refine zC ?_
   obtain ⟨x329, e330, hF⟩ := zJ hF
   obtain ⟨b331, o332, c333, cs334, q335, h338, h336, h337, h339⟩ := wB (H.item (i := 0) rfl) e330
   obtain ⟨v340, rfl, h341⟩ := h338
   have H := H.fzs [.at b331 (o332 + g287.toNat * 1) _, .sl rFlight v340 x329] ⟨⟨h336, h337, h339⟩, h341, trivial⟩
   refine zA rfl rfl (xG u41 sz22 q335 rfl (yD e330).1 (yD e330).2.1 rfl rfl) ?_
   refine zA rfl rfl (zU one22 rfl (Cells.get (H.item (i := 4) rfl).2.2 (i := 0) rfl)) ?_
   refine zA rfl rfl (zF (v := v340) rfl) ?_
   refine (zI (zB (hK328 _ _ ?_)))
   refine zD fun K344 hK344 => ?_
   refine zC ?_
   refine zA rfl rfl (zG (v := v340) rfl) ?_
   have H345 := H
   obtain ⟨x346, e347, hF⟩ := zJ hF
   refine yJ rfl rfl (yC en26 rfl) (F_fleet_checkFlights_w x329 v340 _ e347 _ _ _ (H.enter [] [5] (by decide) rfl)) ?_
   rintro _ w348 ⟨rfl, G349⟩
   have H := H345.step (G349.only : Only [] _ _)
   refine ⟨_, rfl, ?_⟩
   refine zA rfl rfl (zF (v := .int .i64 x346) rfl) ?_
   refine (zI (zB (hK344 _ _ ?_)))
   refine zD fun K350 hK350 => ?_
   refine zC ?_
   refine zA rfl rfl (zG (v := .int .i64 x346) rfl) ?_
   obtain ⟨x351, e352, hF⟩ := zH hF
   refine zA rfl rfl (zT (Do_neq (a := x346) (b := 0) rfl rfl) (congrArg Value.bool e352)) ?_
   refine (zI (zB (hK350 _ _ ?_)))
   refine yF (b := x351) rfl (fun c353 => ?_) (fun c353 => ?_)
   ·have hF := zW c353 hF
    refine zD fun K354 hK354 => ?_
    refine zC ?_
    refine zA rfl rfl (zG (v := .int .i64 x346) rfl) ?_
    refine zA rfl rfl (zF (v := .slice none 0 0) rfl) ?_
    refine zA rfl rfl (zF (v := .int .i64 x346) rfl) ?_
    refine (zI (zB (hK354 _ _ ?_)))
    have H := H.fz (.sl rFleetPeaks (.slice none 0 0) []) SlF.nil
    have hR := Option.some.inj hF
    subst hR
    refine (yG (yM (zZ (zZ (yM (zZ (post2 (v1 := .slice none 0 0) (v2 := .int .i64 x346) rfl rfl rfl ?_)))))))
    exact ⟨.slice none 0 0, rfl, H.pick [6] (by decide)⟩
   have hF := zX c353 hF
   refine (yA (yU (zB (hK327 _ _ ?_))))
   refine zC ?_
   obtain ⟨x356, e357, hF⟩ := zH hF
   refine zA rfl rfl (xJ (a := g287) (b := 1) rfl rfl e357) ?_
   refine zA rfl rfl (zG (v := .int .i64 x356) rfl) ?_
   refine (zI (zB (And.intro ?_ ?_)))
   ·repeat' (first | with_reducible exact zN | refine zV rfl ?_ | refine zO rfl rfl ?_)
   exact ⟨(n293, x356), (zK rfl zQ), ⟨H.pick [0, 1, 2, 3] (by decide), hF⟩, Nat.lt_succ_self _⟩
  have hF := zX c299 hF
  refine (xB (yN (yN (yR (zB (And.intro ?_ ?_))))))
  ·repeat' (first | with_reducible exact zN | refine zV rfl ?_ | refine zO rfl rfl ?_)
  exact ⟨(), zQ, ⟨H.pick [0, 1, 2, 3] (by decide), hF⟩⟩
 rintro _ ρ w151 ⟨H, hF⟩
 have hF := xZ ek153 hF
 refine zD fun K369 hK369 => ?_
 refine zD fun K370 hK370 => ?_
 refine zC ?_
 refine zA rfl rfl (zT (yV (cs := [.bool p1.Tails, .int .i64 p1.Days, v3, v4, .int .i64 p1.Least]) agg26 rfl sz26 rfl (Blk.cells (H.item (i := 1) rfl))) rfl) ?_
 have H371 := H
 obtain ⟨x372, e373, hF⟩ := zJ hF
 refine yJ rfl rfl (yC en27 rfl) (F_fleet_CheckMask_w p1 v3 v4 _ e373 _ _ _ (H.enter [] [2, 3] (by decide) rfl)) ?_
 rintro _ w374 ⟨rfl, G375⟩
 have H := H371.step (G375.only : Only [] _ _)
 refine ⟨_, rfl, ?_⟩
 refine zA rfl rfl (zF (v := .int .i64 x372) rfl) ?_
 refine (zI (zB (hK370 _ _ ?_)))
 refine zD fun K376 hK376 => ?_
 refine zC ?_
 refine zA rfl rfl (zG (v := .int .i64 x372) rfl) ?_
 obtain ⟨x377, e378, hF⟩ := zH hF
 refine zA rfl rfl (zT (Do_neq (a := x372) (b := 0) rfl rfl) (congrArg Value.bool e378)) ?_
 refine (zI (zB (hK376 _ _ ?_)))
 refine yF (b := x377) rfl (fun c379 => ?_) (fun c379 => ?_)
 ·have hF := zW c379 hF
  refine zD fun K380 hK380 => ?_
  refine zC ?_
  refine zA rfl rfl (zG (v := .int .i64 x372) rfl) ?_
  refine zA rfl rfl (zF (v := .slice none 0 0) rfl) ?_
  refine zA rfl rfl (zF (v := .int .i64 x372) rfl) ?_
  refine (zI (zB (hK380 _ _ ?_)))
  have H := H.fz (.sl rFleetPeaks (.slice none 0 0) []) SlF.nil
  have hR := Option.some.inj hF
  subst hR
  refine (yG (zZ (post2 (v1 := .slice none 0 0) (v2 := .int .i64 x372) rfl rfl rfl ?_)))
  exact ⟨.slice none 0 0, rfl, H.pick [4] (by decide)⟩
 have hF := zX c379 hF
 refine (yA (zB (hK369 _ _ ?_)))
 refine zD fun K392 hK392 => ?_
 refine zD fun K393 hK393 => ?_
 refine zC ?_
 refine zA rfl rfl (zG (v := .string (bs p2)) rfl) ?_
 have H394 := H
 obtain ⟨x395, e396, hF⟩ := zJ hF
 refine yJ rfl rfl (yC en28 rfl) (F_event_IsName_w p2 _ e396 _ _ _ (H.enter [] [] (by decide) rfl)) ?_
 rintro _ w397 ⟨rfl, G398⟩
 have H := H394.step (G398.only : Only [] _ _)
 refine ⟨_, rfl, ?_⟩
 obtain ⟨x399, e400, hF⟩ := zH hF
 refine zA rfl rfl (zT (xY (p := x395) rfl) (congrArg Value.bool e400)) ?_
 refine (zI (zB (hK393 _ _ ?_)))
 refine yF (b := x399) rfl (fun c401 => ?_) (fun c401 => ?_)
 ·have hF := zW c401 hF
  refine zD fun K402 hK402 => ?_
  refine zC ?_
  refine zA rfl rfl (zF (v := .slice none 0 0) rfl) ?_
  refine zA rfl rfl (zF (v := .int .i64 8) rfl) ?_
  refine (zI (zB (hK402 _ _ ?_)))
  have H := H.fz (.sl rFleetPeaks (.slice none 0 0) []) SlF.nil
  have hR := Option.some.inj hF
  subst hR
  refine (yG (zZ (post2 (v1 := .slice none 0 0) (v2 := .int .i64 8) rfl rfl rfl ?_)))
  exact ⟨.slice none 0 0, rfl, H.pick [4] (by decide)⟩
 have hF := zX c401 hF
 refine (yA (zB (hK392 _ _ ?_)))
 refine zD fun K404 hK404 => ?_
 refine zC ?_
 refine zA rfl rfl (zF (v := .slice none 0 0) rfl) ?_
 refine (zI (zB (hK404 _ _ ?_)))
 refine zD fun K405 hK405 => ?_
 refine zC ?_
 refine zA rfl rfl (zF (v := .int .i64 0) rfl) ?_
 refine zA rfl rfl (zF (v := .bool false) rfl) ?_
 refine (zI (zB (hK405 _ _ ?_)))
 obtain ⟨j1452, hF, hK1451⟩ := zJ hF
 refine yL [12, 13, 14, 16, 17, 18, 19, 20, 21, 22, 43, 44, 45, 46, 47, 48, 49, 50, 51, 52, 53, 54, 55, 56, 57, 58, 59, 60, 61, 62, 63, 64, 65, 66, 67, 68, 69, 70, 71, 72, 73, 74, 75, 76, 77, 78, 79, 80, 81, 82, 83, 84, 85, 86, 87, 88, 89, 90, 91, 92, 93, 94, 95, 96, 97, 98, 99, 100, 101, 102] (fun (g : Value) => [(12, g), (14, .bool j1452.2)]) (fun g wl => Hd O w wl S [.own rFleetPeaks g 44 j1452.1, .blk b9 [.bool p1.Tails, .int .i64 p1.Days, v3, v4, .int .i64 p1.Least] 26, .fz (.sl Rp.str v3 p1.Hide), .fz (.sl rGrain v4 p1.Grains)]) ?_ ?_
 ·skip
  refine zD fun K1453 hK1453 => ?_
  refine zC ?_
  refine zA rfl rfl (zG (v := v1) rfl) ?_
  obtain ⟨x1454, e1455, hF⟩ := zH hF
  obtain ⟨a1456, c1457, q1458⟩ := SlF.len ((H.item (i := 0) rfl))
  refine zA rfl rfl (zT (xI u41 q1458) (congrArg (Value.int .i64) e1455)) ?_
  refine zA rfl rfl (zG (v := .int .i64 0) rfl) ?_
  refine (zI (zB (hK1453 _ _ ?_)))
  refine yK ?_
  have H := own_nil H rFleetPeaks 44
  unfold F_fleet_peaksOf_L2 at hF
  obtain ⟨B2493, n2494, eB2495, hF⟩ := yT hF
  refine xC [12, 13, 14, 16, 17, 18, 19, 20, 21, 22, 45, 46, 47, 48, 49, 50, 51, 52, 53, 54, 55, 56, 57, 58, 59, 60, 61, 62, 63, 64, 65, 66, 67, 68, 69, 70, 71, 72, 73, 74, 75, 76, 77, 78, 79, 80, 81, 82, 83, 84, 85, 86, 87, 88, 89, 90, 91, 92, 93, 94, 95, 96, 97, 98, 99, 100, 101, 102] (fun (g : Nat × (List FleetPeaks) × Int × Bool × Int × Value) => [(12, g.2.2.2.2.2), (13, .int .i64 g.2.2.1), (14, .bool g.2.2.2.1), (45, .int .i64 g.2.2.2.2.1)]) (fun g wl => Hd O w wl S [.own rFleetPeaks g.2.2.2.2.2 44 g.2.1, .fz (.sl (Rp.sl rFlight) v1 p0), .blk b9 [.bool p1.Tails, .int .i64 p1.Days, v3, v4, .int .i64 p1.Least] 26, .fz (.sl Rp.str v3 p1.Hide), .fz (.sl rGrain v4 p1.Grains)] ∧ loopN B2493 g.1 (g.2.1, g.2.2.1, g.2.2.2.1, g.2.2.2.2.1) = some j1452) (fun g => g.1) (n2494, [], 0, false, 0, .slice none 0 0) (zK rfl (zK rfl (zK rfl (zK rfl zQ)))) ⟨H.pick [4, 0, 1, 2, 3] (by decide), hF⟩ ?_
  clear H hF
  rintro ⟨n2494, g2487, g2489, g2490, g2491, v2488⟩ ρ w2497 ⟨H, hF⟩
  obtain ⟨n2498, rfl, hF⟩ := yX hF
  have hF := yY eB2495 hF
  refine zD fun K2499 hK2499 => ?_
  refine zC ?_
  obtain ⟨x2500, e2501, hF⟩ := zH hF
  refine zA rfl rfl (zT (xK (a := g2491) (b := x1454) rfl rfl) (congrArg Value.bool e2501)) ?_
  refine (zI (zB (hK2499 _ _ ?_)))
  refine zD fun K2503 hK2503 => ?_
  refine yF (b := x2500) rfl (fun c2504 => ?_) (fun c2504 => ?_)
  ·have hF := zW c2504 hF
   refine (yA (zB (hK2503 _ _ ?_)))
   obtain ⟨j2858, hF, hK2857⟩ := zJ hF
   refine yL [12, 13, 14, 16, 17, 18, 19, 20, 21, 22, 47, 48, 49, 50, 51, 52, 53, 54, 55, 56, 57, 58, 59, 60, 61, 62, 63, 64, 65, 66, 67, 68, 69, 70, 71, 72, 73, 74, 75, 76, 77, 78, 79, 80, 81, 82, 83, 84, 85, 86, 87, 88, 89, 90, 91, 92, 93, 94, 95, 96, 97, 98, 99, 100, 101] (fun (g : Value) => [(12, g), (13, .int .i64 j2858.2.1), (14, .bool j2858.2.2)]) (fun g wl => Hd O w wl S [.own rFleetPeaks g 44 j2858.1, .fz (.sl (Rp.sl rFlight) v1 p0), .blk b9 [.bool p1.Tails, .int .i64 p1.Days, v3, v4, .int .i64 p1.Least] 26, .fz (.sl Rp.str v3 p1.Hide), .fz (.sl rGrain v4 p1.Grains)]) ?_ ?_
   ·skip
    refine yK ?_
    refine zD fun K2859 hK2859 => ?_
    refine zC ?_
    obtain ⟨x2860, e2861, hF⟩ := zJ hF
    obtain ⟨b2862, o2863, c2864, cs2865, q2866, h2869, h2867, h2868, h2870⟩ := wB (H.item (i := 1) rfl) e2861
    obtain ⟨v2871, rfl, h2872⟩ := h2869
    have H := H.fzs [.at b2862 (o2863 + g2491.toNat * 1) _, .sl rFlight v2871 x2860] ⟨⟨h2867, h2868, h2870⟩, h2872, trivial⟩
    refine zA rfl rfl (xG u41 sz22 q2866 rfl (yD e2861).1 (yD e2861).2.1 rfl rfl) ?_
    refine zA rfl rfl (zU one22 rfl (Cells.get (H.item (i := 5) rfl).2.2 (i := 0) rfl)) ?_
    refine zA rfl rfl (zF (v := v2871) rfl) ?_
    refine (zI (zB (hK2859 _ _ ?_)))
    refine zD fun K2875 hK2875 => ?_
    refine zC ?_
    refine xE rfl rfl (xR zero44 H) ?_
    rintro _ w2878 ⟨b2876, rfl, H⟩
    refine (zI (zB (hK2875 _ _ ?_)))
    obtain ⟨j3196, hF, hK3195⟩ := zJ hF
    refine yL [13, 14, 18, 19, 20, 21, 22, 49, 50, 51, 52, 53, 54, 55, 56, 57, 58, 59, 60, 61, 62, 63, 64, 65, 66, 67, 68, 69, 70, 71, 72, 73, 74, 75, 76, 77, 78, 79, 80, 81, 82, 83, 84, 85, 86, 87, 88, 89, 90, 91, 92, 93, 94, 95, 96, 97] (fun (g : Value × Value) => [(13, .int .i64 j3196.1), (14, .bool j3196.2.1)]) (fun g wl => Hd O w wl S [.own rFleetPeaks v2488 44 g2487, .fz (.sl (Rp.sl rFlight) v1 p0), .blk b9 [.bool p1.Tails, .int .i64 p1.Days, v3, v4, .int .i64 p1.Least] 26, .fz (.sl Rp.str v3 p1.Hide), .fz (.sl rGrain v4 p1.Grains), .blk b2876 [g.1, g.2, .int .i64 0] 44, .own (Rp.int .i64) g.1 3 j3196.2.2.1, .own (Rp.int .i64) g.2 3 j3196.2.2.2]) ?_ ?_
    ·skip
     refine zD fun K3197 hK3197 => ?_
     refine zC ?_
     refine zA rfl rfl (zG (v := v2871) rfl) ?_
     obtain ⟨x3198, e3199, hF⟩ := zH hF
     obtain ⟨a3200, c3201, q3202⟩ := SlF.len ((H.item (i := 6) rfl))
     refine zA rfl rfl (zT (xI u22 q3202) (congrArg (Value.int .i64) e3199)) ?_
     refine zA rfl rfl (zG (v := .int .i64 0) rfl) ?_
     refine (zI (zB (hK3197 _ _ ?_)))
     refine yK ?_
     have H := own_nil H (Rp.int .i64) 3
     have H := own_nil H (Rp.int .i64) 3
     unfold F_fleet_peaksOf_L3 at hF
     obtain ⟨B3507, n3508, eB3509, hF⟩ := yT hF
     refine xC [13, 14, 18, 19, 20, 21, 22, 51, 52, 53, 54, 55, 56, 57, 58, 59, 60, 61, 62, 63, 64, 65, 66, 67, 68, 69, 70, 71, 72, 73, 74, 75, 76, 77, 78, 79, 80, 81, 82, 83, 84, 85, 86, 87, 88, 89, 90, 91, 92, 93, 94, 95, 96, 97] (fun (g : Nat × Int × Bool × Int × (List Int) × (List Int) × Value × Value) => [(13, .int .i64 g.2.1), (14, .bool g.2.2.1), (51, .int .i64 g.2.2.2.1)]) (fun g wl => Hd O w wl S [.own rFleetPeaks v2488 44 g2487, .fz (.sl (Rp.sl rFlight) v1 p0), .blk b9 [.bool p1.Tails, .int .i64 p1.Days, v3, v4, .int .i64 p1.Least] 26, .fz (.sl Rp.str v3 p1.Hide), .fz (.sl rGrain v4 p1.Grains), .fz (.sl rFlight v2871 x2860), .blk b2876 [g.2.2.2.2.2.2.1, g.2.2.2.2.2.2.2, .int .i64 0] 44, .own (Rp.int .i64) g.2.2.2.2.2.2.1 3 g.2.2.2.2.1, .own (Rp.int .i64) g.2.2.2.2.2.2.2 3 g.2.2.2.2.2.1] ∧ loopN B3507 g.1 (g.2.1, g.2.2.1, g.2.2.2.1, g.2.2.2.2.1, g.2.2.2.2.2.1) = some j3196) (fun g => g.1) (n3508, g2489, g2490, 0, [], [], .slice none 0 0, .slice none 0 0) (zK rfl (zK rfl (zK rfl zQ))) ⟨H.pick [0, 1, 2, 3, 4, 6, 7, 8, 9] (by decide), hF⟩ ?_
     clear H hF
     rintro ⟨n3508, g3496, g3497, g3498, g3500, g3503, v3501, v3504⟩ ρ w3511 ⟨H, hF⟩
     obtain ⟨n3512, rfl, hF⟩ := yX hF
     have hF := yY eB3509 hF
     refine zD fun K3513 hK3513 => ?_
     refine zC ?_
     obtain ⟨x3514, e3515, hF⟩ := zH hF
     refine zA rfl rfl (zT (xK (a := g3498) (b := x3198) rfl rfl) (congrArg Value.bool e3515)) ?_
     refine (zI (zB (hK3513 _ _ ?_)))
     refine zD fun K3517 hK3517 => ?_
     refine yF (b := x3514) rfl (fun c3518 => ?_) (fun c3518 => ?_)
     ·have hF := zW c3518 hF
      refine (yA (zB (hK3517 _ _ ?_)))
      obtain ⟨j3649, hF, hK3648⟩ := zJ hF
      refine yL [13, 14, 18, 19, 20, 21, 22, 53, 54, 55, 56, 57, 58, 59, 60, 61, 62, 63, 64, 65, 66, 67, 68, 69, 70, 71, 72, 73, 74, 75, 76, 77, 78, 79, 80, 81, 82, 83, 84, 85, 86, 87, 88, 89, 90, 91, 92, 93, 94, 95, 96] (fun (g : Value × Value) => [(13, .int .i64 j3649.1), (14, .bool j3649.2.1)]) (fun g wl => Hd O w wl S [.own rFleetPeaks v2488 44 g2487, .fz (.sl (Rp.sl rFlight) v1 p0), .blk b9 [.bool p1.Tails, .int .i64 p1.Days, v3, v4, .int .i64 p1.Least] 26, .fz (.sl Rp.str v3 p1.Hide), .fz (.sl rGrain v4 p1.Grains), .fz (.sl rFlight v2871 x2860), .blk b2876 [g.1, g.2, .int .i64 0] 44, .own (Rp.int .i64) g.1 3 j3649.2.2.1, .own (Rp.int .i64) g.2 3 j3649.2.2.2]) ?_ ?_
      ·skip
       refine yK ?_
       refine zD fun K3650 hK3650 => ?_
       refine zC ?_
       refine zA rfl rfl (zG (v := .int .i64 g3498) rfl) ?_
       obtain ⟨x3651, e3652, hF⟩ := zJ hF
       obtain ⟨b3653, o3654, c3655, cs3656, q3657, h3660, h3658, h3659, h3661⟩ := wB (H.item (i := 5) rfl) e3652
       obtain ⟨v3662, rfl, h3663⟩ := rFlight_open h3660
       have H := H.fzs [.at b3653 (o3654 + g3498.toNat * 6) _, .sl rTrack v3662 x3651.Tracks] ⟨⟨h3658, h3659, h3661⟩, h3663, trivial⟩
       refine zA rfl rfl (xG u22 sz70 q3657 rfl (yD e3652).1 (yD e3652).2.1 rfl rfl) ?_
       refine zA rfl rfl (zT (yV (cs := [.string (bs x3651.Tail), .string (bs x3651.Route), .int .i64 x3651.Day, .int .i64 x3651.From, .int .i64 x3651.To, v3662]) agg70 rfl sz70 rfl (H.item (i := 9) rfl).2.2) rfl) ?_
       refine xE rfl rfl (xR zero70 H) ?_
       rintro _ w3668 ⟨b3666, rfl, H⟩
       refine zA rfl rfl (zF (v := .int .i64 g3498) rfl) ?_
       refine xO rfl (xA (vs := [.string (bs x3651.Tail), .string (bs x3651.Route), .int .i64 x3651.Day, .int .i64 x3651.From, .int .i64 x3651.To, v3662]) H 11 rfl sz70 rfl rfl rfl ⟨rfl, rfl, rfl, rfl, rfl, (slf_one (H.item (i := 10) rfl)), trivial⟩ rfl) ?_
       rintro w3669 H
       refine (zI (zB (hK3650 _ _ ?_)))
       refine zD fun K3670 hK3670 => ?_
       refine zC ?_
       refine zA rfl rfl (zT (yV (cs := [.string (bs x3651.Tail), .string (bs x3651.Route), .int .i64 x3651.Day, .int .i64 x3651.From, .int .i64 x3651.To, v3662]) agg70 rfl sz70 rfl (Blk.cells (H.item (i := 11) rfl))) rfl) ?_
       refine zA rfl rfl (zT (yV (cs := [.bool p1.Tails, .int .i64 p1.Days, v3, v4, .int .i64 p1.Least]) agg26 rfl sz26 rfl (Blk.cells (H.item (i := 2) rfl))) rfl) ?_
       obtain ⟨x3671, e3672, hF⟩ := zJ hF
       refine yJ rfl rfl (yC en29 rfl) (F_fleet_masked_w x3651 p1 v3662 v3 v4 _ e3672 _ _ _ (H.enter [] [10, 3, 4] (by decide) rfl)) ?_
       rintro _ w3675 ⟨v3673, rfl, G3676⟩
       have H := H.back1 [10, 3, 4] rfl G3676
       refine ⟨_, rfl, ?_⟩
       refine xO rfl (xA (vs := [.string (bs x3671.Tail), .string (bs x3671.Route), .int .i64 x3671.Day, .int .i64 x3671.From, .int .i64 x3671.To, v3673]) H 11 rfl sz70 rfl rfl rfl ⟨rfl, rfl, rfl, rfl, rfl, (slf_one (H.item (i := 12) rfl)), trivial⟩ rfl) ?_
       rintro w3677 H
       refine (zI (zB (hK3670 _ _ ?_)))
       refine zD fun K3678 hK3678 => ?_
       refine zC ?_
       refine zA rfl rfl (zT (yV (cs := [.string (bs x3671.Tail), .string (bs x3671.Route), .int .i64 x3671.Day, .int .i64 x3671.From, .int .i64 x3671.To, v3673]) agg70 rfl sz70 rfl (Blk.cells (H.item (i := 11) rfl))) rfl) ?_
       refine zA rfl rfl (zG (v := .string (bs p2)) rfl) ?_
       have H3679 := H
       obtain ⟨⟨x3680, x3681⟩, e3682, hF⟩ := zJ hF
       refine yJ rfl rfl (yC en30 rfl) (F_fleet_peak_w x3671 p2 v3673 _ e3682 _ _ _ (H.enter [] [12] (by decide) rfl)) ?_
       rintro _ w3683 ⟨rfl, G3684⟩
       have H := H3679.step (G3684.only : Only [] _ _)
       refine ⟨_, rfl, ?_⟩
       refine zA rfl rfl (zG (v := .tuple #[.int .i64 x3680, .bool x3681]) rfl) ?_
       refine zA rfl rfl (yQ (v := .int .i64 x3680) rfl rfl) ?_
       refine zA rfl rfl (yQ (v := .bool x3681) rfl rfl) ?_
       refine zA rfl rfl (zF (v := .int .i64 x3680) rfl) ?_
       refine zA rfl rfl (zF (v := .bool x3681) rfl) ?_
       refine (zI (zB (hK3678 _ _ ?_)))
       refine zD fun K3689 hK3689 => ?_
       refine zD fun K3690 hK3690 => ?_
       refine zC ?_
       refine zA rfl rfl (zG (v := .bool x3681) rfl) ?_
       obtain ⟨x3691, e3692, hF⟩ := zH hF
       refine zA rfl rfl (zT (xY (p := x3681) rfl) (congrArg Value.bool e3692)) ?_
       refine (zI (zB (hK3690 _ _ ?_)))
       refine yF (b := x3691) rfl (fun c3693 => ?_) (fun c3693 => ?_)
       ·have hF := zW c3693 hF
        have hR := Option.some.inj hF
        subst hR
        refine (xB (yN (yR (zB (And.intro ?_ ?_)))))
        ·repeat' (first | with_reducible exact zN | refine zV rfl ?_ | refine zO rfl rfl ?_)
        exact ⟨(v3501, v3504), (zK rfl (zK rfl zQ)), H.pick [0, 1, 2, 3, 4, 5, 6, 7, 8] (by decide)⟩
       have hF := zX c3693 hF
       refine (yA (zB (hK3689 _ _ ?_)))
       refine zD fun K3694 hK3694 => ?_
       refine zC ?_
       refine zA rfl rfl (zT (yV (cs := [.string (bs x3671.Tail), .string (bs x3671.Route), .int .i64 x3671.Day, .int .i64 x3671.From, .int .i64 x3671.To, v3673]) agg70 rfl sz70 rfl (Blk.cells (H.item (i := 11) rfl))) rfl) ?_
       refine zA rfl rfl (zG (v := .string (bs p2)) rfl) ?_
       obtain ⟨x3695, e3696, hF⟩ := zJ hF
       refine yJ rfl rfl (yC en31 rfl) (F_fleet_trackOf_w x3671 p2 v3673 _ e3696 _ _ _ (H.enter [] [12] (by decide) rfl)) ?_
       rintro _ w3699 ⟨v3697, rfl, G3700⟩
       have H := H.back1 [12] rfl G3700
       refine ⟨_, rfl, ?_⟩
       obtain ⟨x3701, e3702, hF⟩ := zJ hF
       obtain ⟨b3703, o3704, cs3705, q3706, h3707, h3708, h3709, h3710⟩ := ptf_some ((H.item (i := 13) rfl) : PtF _ _ _ _ _) e3702
       obtain ⟨v3711, rfl, h3712⟩ := rTrack_open h3709
       have H := H.fzs [.at b3703 o3704 _, .sl rSample v3711 x3701.Series.Samples] ⟨⟨h3707, h3708, h3710⟩, h3712, trivial⟩
       refine zA rfl rfl (Do_nilCheck (ad := ⟨b3703, o3704, none⟩) (congrArg Value.pointer q3706)) ?_
       refine zA rfl rfl (fa78_1 rfl) ?_
       refine zA rfl rfl (fa76_0 rfl) ?_
       refine zA rfl rfl (zU one3 rfl (Cells.get (H.item (i := 14) rfl).2.2 (i := 1) rfl)) ?_
       refine zA rfl rfl (zF (v := .int .i64 x3701.Series.Den) rfl) ?_
       refine (zI (zB (hK3694 _ _ ?_)))
       obtain ⟨g3721, hF, hK3723⟩ := zJ hF
       refine yL [14, 74, 75, 76, 77, 78, 79, 80, 81, 82, 83] (fun (g : Unit) => [(14, .bool g3721)]) (fun g wl => Hd O w wl S [.own rFleetPeaks v2488 44 g2487, .fz (.sl (Rp.sl rFlight) v1 p0), .blk b9 [.bool p1.Tails, .int .i64 p1.Days, v3, v4, .int .i64 p1.Least] 26, .fz (.sl Rp.str v3 p1.Hide), .fz (.sl rGrain v4 p1.Grains), .fz (.sl rFlight v2871 x2860), .blk b2876 [v3501, v3504, .int .i64 0] 44, .own (Rp.int .i64) v3501 3 g3500, .own (Rp.int .i64) v3504 3 g3503]) ?_ ?_
       ·skip
        refine zC ?_
        refine zA rfl rfl (zG (v := .bool g3497) rfl) ?_
        refine yO (b := g3497) rfl rfl rfl (fun c3724 => ?_) (fun c3724 => ?_)
        ·have hF := zW c3724 hF
         refine zM rfl rfl ?_
         refine zM rfl rfl ?_
         refine zM rfl rfl ?_
         refine zM rfl rfl ?_
         refine zM rfl rfl ?_
         refine zM rfl rfl ?_
         refine zM rfl rfl ?_
         refine zA rfl rfl (yI (v := .bool true) rfl rfl) ?_
         refine zA rfl rfl (zF (v := .bool true) rfl) ?_
         have hR := Option.some.inj hF
         subst hR
         refine (zI (zB (And.intro ?_ ?_)))
         ·repeat' (first | with_reducible exact zN | refine zV rfl ?_ | refine zO rfl rfl ?_)
         exact ⟨(), (zK rfl zQ), H.pick [0, 1, 2, 3, 4, 5, 6, 7, 8] (by decide)⟩
        have hF := zX c3724 hF
        refine zA rfl rfl (zG (v := .int .i64 g3496) rfl) ?_
        obtain ⟨x3725, e3726, hF⟩ := zH hF
        refine zA rfl rfl (zT (Do_neq (a := g3496) (b := 0) rfl rfl) (congrArg Value.bool e3726)) ?_
        refine yO (b := x3725) rfl rfl rfl (fun c3727 => ?_) (fun c3727 => ?_)
        ·have hF := zW c3727 hF
         refine zA rfl rfl (zG (v := .int .i64 x3701.Series.Den) rfl) ?_
         refine zA rfl rfl (zG (v := .int .i64 g3496) rfl) ?_
         obtain ⟨x3728, e3729, hF⟩ := zH hF
         refine zA rfl rfl (zT (Do_neq (a := x3701.Series.Den) (b := g3496) rfl rfl) (congrArg Value.bool e3729)) ?_
         refine zA rfl rfl (yI (v := .bool x3728) rfl rfl) ?_
         refine zA rfl rfl (yH (v := .bool x3728) rfl rfl) ?_
         refine zA rfl rfl (zF (v := .bool x3728) rfl) ?_
         have hR := Option.some.inj hF
         subst hR
         refine (zI (zB (And.intro ?_ ?_)))
         ·repeat' (first | with_reducible exact zN | refine zV rfl ?_ | refine zO rfl rfl ?_)
         exact ⟨(), (zK rfl zQ), H.pick [0, 1, 2, 3, 4, 5, 6, 7, 8] (by decide)⟩
        have hF := zX c3727 hF
        refine zM rfl rfl ?_
        refine zM rfl rfl ?_
        refine zM rfl rfl ?_
        refine zA rfl rfl (yH (v := .bool false) rfl rfl) ?_
        refine zA rfl rfl (yH (v := .bool false) rfl rfl) ?_
        refine zA rfl rfl (zF (v := .bool false) rfl) ?_
        have hR := Option.some.inj hF
        subst hR
        refine (zI (zB (And.intro ?_ ?_)))
        ·repeat' (first | with_reducible exact zN | refine zV rfl ?_ | refine zO rfl rfl ?_)
        exact ⟨(), (zK rfl zQ), H.pick [0, 1, 2, 3, 4, 5, 6, 7, 8] (by decide)⟩
       rintro _ ρ w3722 H
       have hF := hK3723
       refine zD fun K3730 hK3730 => ?_
       refine zC ?_
       refine zA rfl rfl (zG (v := .int .i64 x3701.Series.Den) rfl) ?_
       refine zA rfl rfl (zF (v := .int .i64 x3701.Series.Den) rfl) ?_
       refine (zI (zB (hK3730 _ _ ?_)))
       have H3731 := H
       have H := H.rebase
       have H3732 := H
       have H3733 : Hd (O ++ bks (rest [0, 2, 7, 8] [.own rFleetPeaks v2488 44 g2487, .fz (.sl (Rp.sl rFlight) v1 p0), .blk b9 [.bool p1.Tails, .int .i64 p1.Days, v3, v4, .int .i64 p1.Least] 26, .fz (.sl Rp.str v3 p1.Hide), .fz (.sl rGrain v4 p1.Grains), .fz (.sl rFlight v2871 x2860), .blk b2876 [v3501, v3504, .int .i64 0] 44, .own (Rp.int .i64) v3501 3 g3500, .own (Rp.int .i64) v3504 3 g3503])) w3722 w3722 (bks (Go.Lf.pick ([0, 2, 7, 8] ++ [1, 3, 4, 5]) [.own rFleetPeaks v2488 44 g2487, .fz (.sl (Rp.sl rFlight) v1 p0), .blk b9 [.bool p1.Tails, .int .i64 p1.Days, v3, v4, .int .i64 p1.Least] 26, .fz (.sl Rp.str v3 p1.Hide), .fz (.sl rGrain v4 p1.Grains), .fz (.sl rFlight v2871 x2860), .blk b2876 [v3501, v3504, .int .i64 0] 44, .own (Rp.int .i64) v3501 3 g3500, .own (Rp.int .i64) v3504 3 g3503])) [.own rFleetPeaks v2488 44 g2487, .blk b9 [.bool p1.Tails, .int .i64 p1.Days, v3, v4, .int .i64 p1.Least] 26, .own (Rp.int .i64) v3501 3 g3500, .own (Rp.int .i64) v3504 3 g3503, .fz (.sl (Rp.sl rFlight) v1 p0), .fz (.sl Rp.str v3 p1.Hide), .fz (.sl rGrain v4 p1.Grains), .fz (.sl rFlight v2871 x2860)] := H.enter [0, 2, 7, 8] [1, 3, 4, 5] (by decide) rfl
       have h3734 := H.firmB H3733 (i := 6) rfl (List.mem_append_right _ List.mem_cons_self)
       refine WP_forkM H H3733 [0, 1, 2, 5, 6, 7, 3] 8 4 [10, 9] [11, 12, 13] [.pure, .pure, .pure, .mk (World.heap w3722).size, .eff, .pure, .pure, .pure, .mk (World.heap w3722).size, .eff, .pure, .eff, .pure, .eff] ⟨trivial, trivial, trivial, rfl, trivial, trivial, trivial, trivial, rfl, trivial, trivial, trivial, trivial, trivial, trivial⟩ mixed (by kernel_rfl) (by kernel_rfl) (by kernel_rfl) (by kernel_rfl) (by kernel_rfl) (by decide) ?_
       have H := Hd.hm H3733
       refine MxM.zS rfl rfl rfl (fun w' hw' => fa44_0 rfl) ?_
       refine MxM.zS rfl rfl rfl (fun w' hw' => zU one33 rfl (Cells.get (Blk.cells (h3734 w' hw')) (i := 0) rfl)) ?_
       refine MxM.zS rfl rfl rfl (fun w' hw' => zG (v := .int .i64 x3680) rfl) ?_
       refine MxM.zS rfl rfl rfl (fun w' hw' => fa44_1 rfl) ?_
       refine MxM.zS rfl rfl rfl (fun w' hw' => zU one33 rfl (Cells.get (Blk.cells (h3734 w' hw')) (i := 1) rfl)) ?_
       refine MxM.zS rfl rfl rfl (fun w' hw' => zG (v := .int .i64 g3498) rfl) ?_
       obtain ⟨x3735, e3736, hF⟩ := zH hF
       subst e3736
       refine H.bs_rule (r := (Rp.int .i64)) (xl := [x3680]) (cs := [.int .i64 x3680]) rfl rfl rfl rfl u33 el3 (by decide) (by decide) rfl (xW (vs := [.int .i64 x3680]) (by decide) rfl rfl ⟨rfl, trivial⟩ rfl) ⟨[.int .i64 x3680], [], rfl, rfl, rfl⟩ ?_
       rintro v3738 b3739 w3740 H
       refine MxM.wG fun w3741 hS => ?_
       have H := H.sees hS
       obtain ⟨x3752, e3753, hF⟩ := zH hF
       obtain ⟨x3754, e3755, hF⟩ := zJ hF
       refine MxM.XL_join (du := 93) (dv := 89) (fun v3757 v3760 wl => Hd (O ++ bks (rest [0, 2, 7, 8] [.own rFleetPeaks v2488 44 g2487, .fz (.sl (Rp.sl rFlight) v1 p0), .blk b9 [.bool p1.Tails, .int .i64 p1.Days, v3, v4, .int .i64 p1.Least] 26, .fz (.sl Rp.str v3 p1.Hide), .fz (.sl rGrain v4 p1.Grains), .fz (.sl rFlight v2871 x2860), .blk b2876 [v3501, v3504, .int .i64 0] 44, .own (Rp.int .i64) v3501 3 g3500, .own (Rp.int .i64) v3504 3 g3503])) w3722 wl (bks (Go.Lf.pick ([0, 2, 7, 8] ++ [1, 3, 4, 5]) [.own rFleetPeaks v2488 44 g2487, .fz (.sl (Rp.sl rFlight) v1 p0), .blk b9 [.bool p1.Tails, .int .i64 p1.Days, v3, v4, .int .i64 p1.Least] 26, .fz (.sl Rp.str v3 p1.Hide), .fz (.sl rGrain v4 p1.Grains), .fz (.sl rFlight v2871 x2860), .blk b2876 [v3501, v3504, .int .i64 0] 44, .own (Rp.int .i64) v3501 3 g3500, .own (Rp.int .i64) v3504 3 g3503])) [.own rFleetPeaks v2488 44 g2487, .blk b9 [.bool p1.Tails, .int .i64 p1.Days, v3, v4, .int .i64 p1.Least] 26, .own (Rp.int .i64) v3760 3 x3754, .own (Rp.int .i64) v3504 3 g3503, .fz (.sl (Rp.sl rFlight) v1 p0), .fz (.sl Rp.str v3 p1.Hide), .fz (.sl rGrain v4 p1.Grains), .fz (.sl rFlight v2871 x2860), .own (Rp.int .i64) v3738 3 ([x3680] : List Int), .own (Rp.int .i64) v3757 3 ([g3498] : List Int)]) ?_ ?_ ?_
       ·skip
        subst e3753
        refine H.bs_rule (r := (Rp.int .i64)) (xl := [g3498]) (cs := [.int .i64 g3498]) rfl rfl rfl rfl u33 el3 (by decide) (by decide) rfl (xW (vs := [.int .i64 g3498]) (by decide) rfl rfl ⟨rfl, trivial⟩ rfl) ⟨[.int .i64 g3498], [], rfl, rfl, rfl⟩ ?_
        rintro v3757 b3758 w3759 H
        have H := H.hd
        refine MxM.XL_ex oS rfl rfl rfl (fun w' hw' => Lx_app (H.sees hw') (i := 2) rfl u33 el3 rfl rfl (Sr.of_own ((H.sees hw').item (i := 8) rfl)) e3755) ?_
        rintro w' v3760 w3761 hw' H
        refine ⟨H.only, ?_⟩
        refine MxM.wG fun w3762 hS => ?_
        have H := H.sees hS
        exact ⟨v3757, v3760, rfl, H.only, H⟩
       ·skip
        have H := H.hd
        refine MxM.XL_exA oS rfl rfl rfl (fun w' hw' => Lx_app (H.sees hw') (i := 2) rfl u33 el3 rfl rfl (Sr.of_own ((H.sees hw').item (i := 8) rfl)) e3755) ?_
        rintro w' v3763 w3764 hw' H
        refine ⟨H.only, ?_⟩
        subst e3753
        refine H.bs_ruleA (r := (Rp.int .i64)) (xl := [g3498]) (cs := [.int .i64 g3498]) rfl rfl rfl u33 el3 (by decide) (by decide) rfl (xW (vs := [.int .i64 g3498]) (by decide) rfl rfl ⟨rfl, trivial⟩ rfl) ⟨[.int .i64 g3498], [], rfl, rfl, rfl⟩ ?_
        rintro _ v3766 w3767 H
        refine MxM.wG fun w3768 hS => ?_
        have H := H.sees hS
        exact ⟨v3766, v3763, MxM.upd_comm _ (by decide) _ _, H.only, H⟩
       rintro M' v3757 v3760 w3769 H
       refine MxM.zS rfl rfl rfl (fun w' hw' => fa44_0 rfl) ?_
       obtain ⟨x3770, e3771, hF⟩ := zJ hF
       refine MxM.XL_ex oS rfl rfl rfl (fun w' hw' => Lx_app (H.sees hw') (i := 3) rfl u33 el3 rfl rfl (Sr.of_own ((H.sees hw').item (i := 9) rfl)) e3771) ?_
       rintro w' v3772 w3773 hw' H
       refine ⟨H.only, ?_⟩
       refine MxM.wG fun w3774 hS => ?_
       have H := H.sees hS
       have H := H3732.back [0, 2, 7, 8] [1, 3, 4, 5] rfl H
       have H : Hd O w3722 w3774 (bks [.own rFleetPeaks v2488 44 g2487, .fz (.sl (Rp.sl rFlight) v1 p0), .blk b9 [.bool p1.Tails, .int .i64 p1.Days, v3, v4, .int .i64 p1.Least] 26, .fz (.sl Rp.str v3 p1.Hide), .fz (.sl rGrain v4 p1.Grains), .fz (.sl rFlight v2871 x2860), .blk b2876 [v3501, v3504, .int .i64 0] 44, .own (Rp.int .i64) v3501 3 g3500, .own (Rp.int .i64) v3504 3 g3503]) [.blk b2876 [v3501, v3504, .int .i64 0] 44, .own rFleetPeaks v2488 44 g2487, .blk b9 [.bool p1.Tails, .int .i64 p1.Days, v3, v4, .int .i64 p1.Least] 26, .own (Rp.int .i64) v3760 3 x3754, .own (Rp.int .i64) v3772 3 x3770, .fz (.sl (Rp.sl rFlight) v1 p0), .fz (.sl Rp.str v3 p1.Hide), .fz (.sl rGrain v4 p1.Grains), .fz (.sl rFlight v2871 x2860), .own (Rp.int .i64) v3738 3 ([x3680] : List Int), .own (Rp.int .i64) v3757 3 ([g3498] : List Int)] := H.pick [4, 5, 6, 7, 8, 9, 10, 11, 12, 13, 14] (by decide)
       refine ⟨H.only, ?_⟩
       refine MxM.XL_exU oS rfl rfl (fun w' hw' => Lx_store1 (H.sees hw') 0 rfl sz33 rfl (v := v3760) rfl (own_one ((H.sees hw').item (i := 3) rfl)) rfl) ?_
       rintro w' w3775 hw' H
       refine ⟨H.only, ?_⟩
       refine MxM.zS rfl rfl rfl (fun w' hw' => fa44_1 rfl) ?_
       refine MxM.XL_exU oS rfl rfl (fun w' hw' => Lx_store1 (H.sees hw') 0 rfl sz33 rfl (v := v3772) rfl (own_one ((H.sees hw').item (i := 4) rfl)) rfl) ?_
       rintro w' w3776 hw' H
       refine ⟨H.only, ?_⟩
       refine MxM.wG fun w3777 hS => ?_
       have H := H.sees hS
       have H := H3731.rejoin H
       have hR := Option.some.inj hF
       subst hR
       refine (yU (zB (And.intro ?_ ?_)))
       ·repeat' (first | with_reducible exact zN | refine zV rfl ?_ | refine zO rfl rfl ?_)
       exact ⟨(v3760, v3772), (zK rfl (zK rfl zQ)), H.pick [1, 5, 2, 6, 7, 8, 0, 3, 4] (by decide)⟩
      rintro ⟨v3644, v3646⟩ ρ w3647 H
      have hF := hK3648
      obtain ⟨g3641, g3642, g3643, g3645⟩ := j3649
      refine zC ?_
      obtain ⟨x3778, e3779, hF⟩ := zH hF
      refine zA rfl rfl (xJ (a := g3498) (b := 1) rfl rfl e3779) ?_
      refine zA rfl rfl (zG (v := .int .i64 x3778) rfl) ?_
      refine (zI (zB (And.intro ?_ ?_)))
      ·repeat' (first | with_reducible exact zN | refine zV rfl ?_ | refine zO rfl rfl ?_)
      exact ⟨(n3512, g3641, g3642, x3778, g3643, g3645, v3644, v3646), (zK rfl (zK rfl (zK rfl zQ))), ⟨H.pick [0, 1, 2, 3, 4, 5, 6, 7, 8] (by decide), hF⟩, Nat.lt_succ_self _⟩
     have hF := zX c3518 hF
     have hR := Option.some.inj hF
     subst hR
     refine (xB (yN (yN (yR (zB (And.intro ?_ ?_))))))
     ·repeat' (first | with_reducible exact zN | refine zV rfl ?_ | refine zO rfl rfl ?_)
     exact ⟨(v3501, v3504), (zK rfl (zK rfl zQ)), H.pick [0, 1, 2, 3, 4, 6, 7, 8] (by decide)⟩
    rintro ⟨v3190, v3193⟩ ρ w3194 H
    have hF := hK3195
    obtain ⟨g3186, g3187, g3189, g3192⟩ := j3196
    refine zC ?_
    refine zA rfl rfl (zG (v := v2488) rfl) ?_
    refine zA rfl rfl (zT (yV (cs := [v3190, v3193, .int .i64 0]) agg44 rfl sz44 rfl (Blk.cells (H.item (i := 5) rfl))) rfl) ?_
    have H := H.freeze (i := 6) rfl
    have H := H.freeze (i := 7) rfl
    obtain ⟨x3780, e3781, hF⟩ := zH hF
    subst e3781
    refine xE rfl rfl (Lx_bs (r := rFleetPeaks) (xl := [FleetPeaks.mk g3189 g3192 0]) (cs := [v3190, v3193, .int .i64 0]) u38 el44 (by decide) (by decide) rfl (xW (vs := [.agg [v3190, v3193, .int .i64 0].toArray]) (by decide) rfl rfl ⟨rfl, trivial⟩ rfl) H ⟨[v3190, v3193, .int .i64 0], [], rfl, (rFleetPeaks_mk (x := FleetPeaks.mk g3189 g3192 0) (H.item (i := 6) rfl) (H.item (i := 7) rfl)), rfl⟩) ?_
    rintro v3783 w3784 H
    obtain ⟨x3785, e3786, hF⟩ := zJ hF
    refine xE rfl rfl (Lx_app H (i := 0) rfl u38 el44 rfl rfl (Sr.of_own (H.item (i := 8) rfl)) e3786) ?_
    rintro v3787 w3788 H
    refine zA rfl rfl (zF (v := v3787) rfl) ?_
    have hR := Option.some.inj hF
    subst hR
    refine (zI (yU (zB (And.intro ?_ ?_))))
    ·repeat' (first | with_reducible exact zN | refine zV rfl ?_ | refine zO rfl rfl ?_)
    exact ⟨v3787, (zK rfl (zK rfl (zK rfl zQ))), H.pick [0, 1, 2, 3, 4] (by decide)⟩
   rintro v2853 ρ w2856 H
   have hF := hK2857
   obtain ⟨g2852, g2854, g2855⟩ := j2858
   refine zC ?_
   obtain ⟨x3789, e3790, hF⟩ := zH hF
   refine zA rfl rfl (xJ (a := g2491) (b := 1) rfl rfl e3790) ?_
   refine zA rfl rfl (zG (v := .int .i64 x3789) rfl) ?_
   refine (zI (zB (And.intro ?_ ?_)))
   ·repeat' (first | with_reducible exact zN | refine zV rfl ?_ | refine zO rfl rfl ?_)
   exact ⟨(n2498, g2852, g2854, g2855, x3789, v2853), (zK rfl (zK rfl (zK rfl (zK rfl zQ)))), ⟨H.pick [0, 1, 2, 3, 4] (by decide), hF⟩, Nat.lt_succ_self _⟩
  have hF := zX c2504 hF
  have hR := Option.some.inj hF
  subst hR
  refine (xB (yN (yN (yR (zB (And.intro ?_ ?_))))))
  ·repeat' (first | with_reducible exact zN | refine zV rfl ?_ | refine zO rfl rfl ?_)
  exact ⟨v2488, (zK rfl (zK rfl zQ)), H.pick [0, 2, 3, 4] (by decide)⟩
 rintro v1448 ρ w1450 H
 have hF := hK1451
 obtain ⟨g1447, g1449⟩ := j1452
 refine zD fun K3798 hK3798 => ?_
 refine zD fun K3799 hK3799 => ?_
 refine zC ?_
 refine zA rfl rfl (zG (v := v1448) rfl) ?_
 refine zA rfl rfl (Do_makeFunc rfl) ?_
 have H := H.freeze (i := 0) rfl
 obtain ⟨x3800, e3801, hF⟩ := zJ hF
 refine yJ rfl rfl (yC en32 rfl) (F_slices_ContainsFunc___fleet_peaks_fleet_peaks__fleet_peaksOf_1_w g1447 p1 v1448 b9 v3 v4 _ e3801 _ _ _ (H.enter [1] [0, 2, 3] (by decide) rfl)) ?_
 rintro _ w3802 ⟨rfl, G3803⟩
 have H : Hd O _ w3802 _ [.fz (.sl rFleetPeaks v1448 g1447), .fz (.sl Rp.str v3 p1.Hide), .fz (.sl rGrain v4 p1.Grains), .blk b9 [.bool p1.Tails, .int .i64 p1.Days, v3, v4, .int .i64 p1.Least] 26] := H.back [1] [0, 2, 3] rfl G3803
 refine ⟨_, rfl, ?_⟩
 refine (zI (zB (hK3799 _ _ ?_)))
 refine yF (b := x3800) rfl (fun c3804 => ?_) (fun c3804 => ?_)
 ·have hF := zW c3804 hF
  refine zD fun K3805 hK3805 => ?_
  refine zC ?_
  refine zA rfl rfl (zF (v := .slice none 0 0) rfl) ?_
  refine zA rfl rfl (zF (v := .int .i64 4) rfl) ?_
  refine (zI (zB (hK3805 _ _ ?_)))
  have H := H.fz (.sl rFleetPeaks (.slice none 0 0) []) SlF.nil
  have hR := Option.some.inj hF
  subst hR
  refine (yG (zZ (post2 (v1 := .slice none 0 0) (v2 := .int .i64 4) rfl rfl rfl ?_)))
  exact ⟨.slice none 0 0, rfl, H.pick [4] (by decide)⟩
 have hF := zX c3804 hF
 refine (yA (zB (hK3798 _ _ ?_)))
 refine zD fun K3810 hK3810 => ?_
 refine zD fun K3811 hK3811 => ?_
 refine zC ?_
 refine zA rfl rfl (zG (v := .bool g1449) rfl) ?_
 refine (zI (zB (hK3811 _ _ ?_)))
 refine yF (b := g1449) rfl (fun c3812 => ?_) (fun c3812 => ?_)
 ·have hF := zW c3812 hF
  refine zD fun K3813 hK3813 => ?_
  refine zC ?_
  refine zA rfl rfl (zF (v := .slice none 0 0) rfl) ?_
  refine zA rfl rfl (zF (v := .int .i64 2) rfl) ?_
  refine (zI (zB (hK3813 _ _ ?_)))
  have H := H.fz (.sl rFleetPeaks (.slice none 0 0) []) SlF.nil
  have hR := Option.some.inj hF
  subst hR
  refine (yG (zZ (post2 (v1 := .slice none 0 0) (v2 := .int .i64 2) rfl rfl rfl ?_)))
  exact ⟨.slice none 0 0, rfl, H.pick [4] (by decide)⟩
 have hF := zX c3812 hF
 refine (yA (zB (hK3810 _ _ ?_)))
 refine zD fun K3815 hK3815 => ?_
 refine zC ?_
 refine zA rfl rfl (zG (v := v1448) rfl) ?_
 refine zA rfl rfl (zF (v := v1448) rfl) ?_
 refine zA rfl rfl (zF (v := .int .i64 0) rfl) ?_
 refine (zI (zB (hK3815 _ _ ?_)))
 have hR := Option.some.inj hF
 subst hR
 refine (yG (post2 (v1 := v1448) (v2 := .int .i64 0) rfl rfl rfl ?_))
 exact ⟨v1448, rfl, H.pick [0] (by decide)⟩
end Go.Proofs.YtbjhondbheijiaaGreatDoor.L
namespace Go.Proofs.YtbjhondbheijiaaGreatDoor.L
open Go.RowKit Go.OB Go.Lf
/- orangebox/fleet.sum -/
set_option maxHeartbeats 4000000 in
theorem F_fleet_sum_w (p0 : List Int) (v1 : Value) (r : Int) (hF : F_fleet_sum p0 = some r) (O S : List Nat) (w : World) (H : Hd O w w S [.fz (.sl (Rp.int .i64) v1 p0)]) :
  Calls Tryz.prog 11 ([v1] : List Value).toArray w fun e w' => e = .returned (.int .i64 r) ∧ Hd O w w' S [] := by
 unfold F_fleet_sum at hF
 refine yB 17 Tryz.func11 rfl rfl rfl ?_
 refine zD fun K3 hK3 => ?_
 refine zC ?_
 refine zA rfl rfl (zF (v := .int .i64 0) rfl) ?_
 refine (zI (zB (hK3 _ _ ?_)))
 refine zD fun K4 hK4 => ?_
 refine zC ?_
 refine zA rfl rfl (zF (v := .int .i64 0) rfl) ?_
 refine (zI (zB (hK4 _ _ ?_)))
 obtain ⟨g97, hF, hK99⟩ := zJ hF
 refine yL [3, 5, 6, 7, 8, 9, 10, 11, 12, 13, 14, 15] (fun (g : Unit) => [(3, .int .i64 g97)]) (fun g wl => Hd O w wl S []) ?_ ?_
 ·skip
  refine zD fun K100 hK100 => ?_
  refine zC ?_
  refine zA rfl rfl (zG (v := v1) rfl) ?_
  obtain ⟨x101, e102, hF⟩ := zH hF
  obtain ⟨a103, c104, q105⟩ := SlF.len ((H.item (i := 0) rfl))
  refine zA rfl rfl (zT (xI u33 q105) (congrArg (Value.int .i64) e102)) ?_
  refine zA rfl rfl (zG (v := .int .i64 0) rfl) ?_
  refine (zI (zB (hK100 _ _ ?_)))
  refine yK ?_
  unfold F_fleet_sum_L1 at hF
  obtain ⟨B188, n189, eB190, hF⟩ := yT hF
  refine xC [3, 5, 8, 9, 10, 11, 12, 13, 14, 15] (fun (g : Nat × Int × Int) => [(3, .int .i64 g.2.1), (8, .int .i64 g.2.2)]) (fun g wl => Hd O w wl S [.fz (.sl (Rp.int .i64) v1 p0)] ∧ loopN B188 g.1 (g.2.1, g.2.2) = some g97) (fun g => g.1) (n189, 0, 0) (zK rfl (zK rfl zQ)) ⟨H.pick [0] (by decide), hF⟩ ?_
  clear H hF
  rintro ⟨n189, g186, g187⟩ ρ w192 ⟨H, hF⟩
  obtain ⟨n193, rfl, hF⟩ := yX hF
  have hF := yY eB190 hF
  refine zD fun K194 hK194 => ?_
  refine zC ?_
  obtain ⟨x195, e196, hF⟩ := zH hF
  refine zA rfl rfl (zT (xK (a := g187) (b := x101) rfl rfl) (congrArg Value.bool e196)) ?_
  refine (zI (zB (hK194 _ _ ?_)))
  refine zD fun K198 hK198 => ?_
  refine yF (b := x195) rfl (fun c199 => ?_) (fun c199 => ?_)
  ·have hF := zW c199 hF
   refine (yA (zB (hK198 _ _ ?_)))
   refine zD fun K215 hK215 => ?_
   refine yK ?_
   refine zD fun K216 hK216 => ?_
   refine zC ?_
   obtain ⟨x217, e218, hF⟩ := zJ hF
   obtain ⟨b219, o220, c221, cs222, q223, h226, h224, h225, h227⟩ := wB (H.item (i := 0) rfl) e218
   obtain rfl : cs222 = [.int .i64 x217] := h226
   have H := H.fz (.at b219 (o220 + g187.toNat * 1) _) ⟨h224, h225, h227⟩
   refine zA rfl rfl (xG u33 sz3 q223 rfl (yD e218).1 (yD e218).2.1 rfl rfl) ?_
   refine zA rfl rfl (zU one3 rfl (Cells.get (H.item (i := 1) rfl).2.2 (i := 0) rfl)) ?_
   refine zA rfl rfl (zF (v := .int .i64 x217) rfl) ?_
   refine (zI (zB (hK216 _ _ ?_)))
   refine zC ?_
   refine zA rfl rfl (zG (v := .int .i64 g186) rfl) ?_
   refine zA rfl rfl (zG (v := .int .i64 x217) rfl) ?_
   obtain ⟨x229, e230, hF⟩ := zH hF
   refine zA rfl rfl (xJ (a := g186) (b := x217) rfl rfl e230) ?_
   refine zA rfl rfl (zF (v := .int .i64 x229) rfl) ?_
   refine (zI (yU (zB (hK215 _ _ ?_))))
   refine zC ?_
   obtain ⟨x231, e232, hF⟩ := zH hF
   refine zA rfl rfl (xJ (a := g187) (b := 1) rfl rfl e232) ?_
   refine zA rfl rfl (zG (v := .int .i64 x231) rfl) ?_
   refine (zI (zB (And.intro ?_ ?_)))
   ·repeat' (first | with_reducible exact zN | refine zV rfl ?_ | refine zO rfl rfl ?_)
   exact ⟨(n193, x229, x231), (zK rfl (zK rfl zQ)), ⟨H.pick [0] (by decide), hF⟩, Nat.lt_succ_self _⟩
  have hF := zX c199 hF
  have hR := Option.some.inj hF
  subst hR
  refine (xB (yN (yN (yR (zB (And.intro ?_ ?_))))))
  ·repeat' (first | with_reducible exact zN | refine zV rfl ?_ | refine zO rfl rfl ?_)
  exact ⟨(), (zK rfl zQ), H.pick [] (by decide)⟩
 rintro _ ρ w98 H
 have hF := hK99
 refine zD fun K233 hK233 => ?_
 refine zC ?_
 refine zA rfl rfl (zG (v := .int .i64 g97) rfl) ?_
 refine zA rfl rfl (zF (v := .int .i64 g97) rfl) ?_
 refine (zI (zB (hK233 _ _ ?_)))
 have hR := Option.some.inj hF
 subst hR
 refine (yG (post1 (v1 := .int .i64 g97) rfl rfl ?_))
 exact ⟨rfl, H.pick [] (by decide)⟩
end Go.Proofs.YtbjhondbheijiaaGreatDoor.L
namespace Go.Proofs.YtbjhondbheijiaaGreatDoor.L
open Go.RowKit Go.OB Go.Lf
/- orangebox/fleet.divisor -/
set_option maxHeartbeats 4000000 in
theorem F_fleet_divisor_w (p0 : Int) (p1 : Int) (r : Int) (hF : F_fleet_divisor p0 p1 = some r) (O S : List Nat) (w : World) (H : Hd O w w S []) :
  Calls Tryz.prog 34 ([.int .i64 p0, .int .i64 p1] : List Value).toArray w fun e w' => e = .returned (.int .i64 r) ∧ Hd O w w' S [] := by
 unfold F_fleet_divisor at hF
 refine yB 20 Tryz.func34 rfl rfl rfl ?_
 refine zD fun K1 hK1 => ?_
 refine zC ?_
 refine zA rfl rfl (zF (v := .int .i64 0) rfl) ?_
 refine (zI (zB (hK1 _ _ ?_)))
 refine zD fun K2 hK2 => ?_
 refine zC ?_
 refine zA rfl rfl (zG (v := .int .i64 p0) rfl) ?_
 refine zA rfl rfl (zG (v := .int .i64 p0) rfl) ?_
 obtain ⟨x3, e4, hF⟩ := zH hF
 refine zA rfl rfl (Do_neg (a := p0) rfl e4) ?_
 obtain ⟨x5, e6, hF⟩ := zH hF
 refine zA rfl rfl (Do_max (j := p0) (q := x3) rfl rfl e6) ?_
 refine zA rfl rfl (zG (v := .int .i64 p1) rfl) ?_
 refine zA rfl rfl (zG (v := .int .i64 p1) rfl) ?_
 obtain ⟨x7, e8, hF⟩ := zH hF
 refine zA rfl rfl (Do_neg (a := p1) rfl e8) ?_
 obtain ⟨x9, e10, hF⟩ := zH hF
 refine zA rfl rfl (Do_max (j := p1) (q := x7) rfl rfl e10) ?_
 refine zA rfl rfl (zF (v := .int .i64 x5) rfl) ?_
 refine zA rfl rfl (zF (v := .int .i64 x9) rfl) ?_
 refine (zI (zB (hK2 _ _ ?_)))
 obtain ⟨g47, hF, hK49⟩ := zJ hF
 refine yL [0, 1, 13, 14, 15, 16, 17, 18] (fun (g : Unit) => [(0, .int .i64 g47)]) (fun g wl => Hd O w wl S []) ?_ ?_
 ·skip
  refine yK ?_
  unfold F_fleet_divisor_L1 at hF
  obtain ⟨B82, n83, eB84, hF⟩ := yT hF
  refine xC [0, 1, 13, 14, 15, 16, 17, 18] (fun (g : Nat × Int × Int) => [(0, .int .i64 g.2.1), (1, .int .i64 g.2.2)]) (fun g wl => Hd O w wl S [] ∧ loopN B82 g.1 (g.2.1, g.2.2) = some g47) (fun g => g.1) (n83, x5, x9) (zK rfl (zK rfl zQ)) ⟨H.pick [] (by decide), hF⟩ ?_
  clear H hF
  rintro ⟨n83, g80, g81⟩ ρ w86 ⟨H, hF⟩
  obtain ⟨n87, rfl, hF⟩ := yX hF
  have hF := yY eB84 hF
  refine zD fun K92 hK92 => ?_
  refine zD fun K93 hK93 => ?_
  refine zC ?_
  refine zA rfl rfl (zG (v := .int .i64 g81) rfl) ?_
  obtain ⟨x94, e95, hF⟩ := zH hF
  refine zA rfl rfl (zT (Do_neq (a := g81) (b := 0) rfl rfl) (congrArg Value.bool e95)) ?_
  refine (zI (zB (hK93 _ _ ?_)))
  refine yF (b := x94) rfl (fun c96 => ?_) (fun c96 => ?_)
  ·have hF := zW c96 hF
   refine (yA (zB (hK92 _ _ ?_)))
   refine yK ?_
   have H97 := H
   have H := H.rebase
   have H98 := H
   refine WP_mix0 H [0, 1, 2, 3, 4, 5] [.pure, .pure, .pure, .pure, .pure, .pure] mixed (by kernel_rfl) (by kernel_rfl) (by kernel_rfl) rfl ?_
   refine Mx.zS rfl rfl rfl (fun w' hw' => zG (v := .int .i64 g81) rfl) ?_
   refine Mx.zS rfl rfl rfl (fun w' hw' => zG (v := .int .i64 g80) rfl) ?_
   refine Mx.zS rfl rfl rfl (fun w' hw' => zG (v := .int .i64 g81) rfl) ?_
   obtain ⟨x99, e100, hF⟩ := zJ hF
   refine Mx.zS rfl rfl rfl (fun w' hw' => Do_rem' (j := g80) (q := g81) rfl rfl e100) ?_
   refine Mx.zS rfl rfl rfl (fun w' hw' => zF (v := .int .i64 g81) rfl) ?_
   refine Mx.zS rfl rfl rfl (fun w' hw' => zF (v := .int .i64 x99) rfl) ?_
   refine Mx.wG fun w101 hS => ?_
   have H := H.sees hS
   have H := H97.rejoin H
   refine (yU (zB (And.intro ?_ ?_)))
   ·repeat' (first | with_reducible exact zN | refine zV rfl ?_ | refine zO rfl rfl ?_)
   exact ⟨(n87, g81, x99), (zK rfl (zK rfl zQ)), ⟨H.pick [] (by decide), hF⟩, Nat.lt_succ_self _⟩
  have hF := zX c96 hF
  have hR := Option.some.inj hF
  subst hR
  refine (xB (yN (yN (yR (zB (And.intro ?_ ?_))))))
  ·repeat' (first | with_reducible exact zN | refine zV rfl ?_ | refine zO rfl rfl ?_)
  exact ⟨(), (zK rfl zQ), H.pick [] (by decide)⟩
 rintro _ ρ w48 H
 have hF := hK49
 refine zD fun K102 hK102 => ?_
 refine zC ?_
 refine zA rfl rfl (zG (v := .int .i64 g47) rfl) ?_
 refine zA rfl rfl (zF (v := .int .i64 g47) rfl) ?_
 refine (zI (zB (hK102 _ _ ?_)))
 have hR := Option.some.inj hF
 subst hR
 refine (yG (post1 (v1 := .int .i64 g47) rfl rfl ?_))
 exact ⟨rfl, H.pick [] (by decide)⟩
end Go.Proofs.YtbjhondbheijiaaGreatDoor.L
namespace Go.Proofs.YtbjhondbheijiaaGreatDoor.L
open Go.RowKit Go.OB Go.Lf
/- math/bits.Mul64 -/
set_option maxHeartbeats 4000000 in
theorem F_math_bits_Mul64_w (p0 : Int) (p1 : Int) (r : Int × Int) (hF : F_math_bits_Mul64 p0 p1 = some r) (O S : List Nat) (w : World) (H : Hd O w w S []) :
  Calls Tryz.prog 35 ([.int .u64 p0, .int .u64 p1] : List Value).toArray w fun e w' => e = .returned (.tuple #[.int .u64 r.1, .int .u64 r.2]) ∧ Hd O w w' S [] := by
 unfold F_math_bits_Mul64 at hF
 refine yB 51 Tryz.func35 rfl rfl rfl ?_
 refine zD fun K1 hK1 => ?_
 refine zC ?_
 refine zA rfl rfl (zF (v := .int .u64 0) rfl) ?_
 refine zA rfl rfl (zF (v := .int .u64 0) rfl) ?_
 refine (zI (zB (hK1 _ _ ?_)))
 refine zD fun K2 hK2 => ?_
 refine zC ?_
 refine zA rfl rfl (zG (v := .int .u64 p0) rfl) ?_
 obtain ⟨x3, e4, hF⟩ := zH hF
 refine zA rfl rfl (Do_and (a := p0) (b := 4294967295) rfl rfl e4) ?_
 refine zA rfl rfl (zF (v := .int .u64 x3) rfl) ?_
 refine (zI (zB (hK2 _ _ ?_)))
 refine zD fun K5 hK5 => ?_
 refine zC ?_
 refine zA rfl rfl (zG (v := .int .u64 p0) rfl) ?_
 obtain ⟨x6, e7, hF⟩ := zJ hF
 refine zA rfl rfl (Do_shr' (j := p0) (q := 32) rfl rfl e7) ?_
 refine zA rfl rfl (zF (v := .int .u64 x6) rfl) ?_
 refine (zI (zB (hK5 _ _ ?_)))
 refine zD fun K8 hK8 => ?_
 refine zC ?_
 refine zA rfl rfl (zG (v := .int .u64 p1) rfl) ?_
 obtain ⟨x9, e10, hF⟩ := zH hF
 refine zA rfl rfl (Do_and (a := p1) (b := 4294967295) rfl rfl e10) ?_
 refine zA rfl rfl (zF (v := .int .u64 x9) rfl) ?_
 refine (zI (zB (hK8 _ _ ?_)))
 refine zD fun K11 hK11 => ?_
 refine zC ?_
 refine zA rfl rfl (zG (v := .int .u64 p1) rfl) ?_
 obtain ⟨x12, e13, hF⟩ := zJ hF
 refine zA rfl rfl (Do_shr' (j := p1) (q := 32) rfl rfl e13) ?_
 refine zA rfl rfl (zF (v := .int .u64 x12) rfl) ?_
 refine (zI (zB (hK11 _ _ ?_)))
 refine zD fun K14 hK14 => ?_
 refine zC ?_
 refine zA rfl rfl (zG (v := .int .u64 x3) rfl) ?_
 refine zA rfl rfl (zG (v := .int .u64 x9) rfl) ?_
 obtain ⟨x15, e16, hF⟩ := zH hF
 refine zA rfl rfl (Do_mul (a := x3) (b := x9) rfl rfl e16) ?_
 refine zA rfl rfl (zF (v := .int .u64 x15) rfl) ?_
 refine (zI (zB (hK14 _ _ ?_)))
 refine zD fun K17 hK17 => ?_
 refine zC ?_
 refine zA rfl rfl (zG (v := .int .u64 x6) rfl) ?_
 refine zA rfl rfl (zG (v := .int .u64 x9) rfl) ?_
 obtain ⟨x18, e19, hF⟩ := zH hF
 refine zA rfl rfl (Do_mul (a := x6) (b := x9) rfl rfl e19) ?_
 refine zA rfl rfl (zG (v := .int .u64 x15) rfl) ?_
 obtain ⟨x20, e21, hF⟩ := zJ hF
 refine zA rfl rfl (Do_shr' (j := x15) (q := 32) rfl rfl e21) ?_
 obtain ⟨x22, e23, hF⟩ := zH hF
 refine zA rfl rfl (xJ (a := x18) (b := x20) rfl rfl e23) ?_
 refine zA rfl rfl (zF (v := .int .u64 x22) rfl) ?_
 refine (zI (zB (hK17 _ _ ?_)))
 refine zD fun K24 hK24 => ?_
 refine zC ?_
 refine zA rfl rfl (zG (v := .int .u64 x22) rfl) ?_
 obtain ⟨x25, e26, hF⟩ := zH hF
 refine zA rfl rfl (Do_and (a := x22) (b := 4294967295) rfl rfl e26) ?_
 refine zA rfl rfl (zF (v := .int .u64 x25) rfl) ?_
 refine (zI (zB (hK24 _ _ ?_)))
 refine zD fun K27 hK27 => ?_
 refine zC ?_
 refine zA rfl rfl (zG (v := .int .u64 x22) rfl) ?_
 obtain ⟨x28, e29, hF⟩ := zJ hF
 refine zA rfl rfl (Do_shr' (j := x22) (q := 32) rfl rfl e29) ?_
 refine zA rfl rfl (zF (v := .int .u64 x28) rfl) ?_
 refine (zI (zB (hK27 _ _ ?_)))
 refine zD fun K30 hK30 => ?_
 refine zC ?_
 refine zA rfl rfl (zG (v := .int .u64 x25) rfl) ?_
 refine zA rfl rfl (zG (v := .int .u64 x3) rfl) ?_
 refine zA rfl rfl (zG (v := .int .u64 x12) rfl) ?_
 obtain ⟨x31, e32, hF⟩ := zH hF
 refine zA rfl rfl (Do_mul (a := x3) (b := x12) rfl rfl e32) ?_
 obtain ⟨x33, e34, hF⟩ := zH hF
 refine zA rfl rfl (xJ (a := x25) (b := x31) rfl rfl e34) ?_
 refine zA rfl rfl (zF (v := .int .u64 x33) rfl) ?_
 refine (zI (zB (hK30 _ _ ?_)))
 refine zD fun K35 hK35 => ?_
 refine zC ?_
 refine zA rfl rfl (zG (v := .int .u64 x6) rfl) ?_
 refine zA rfl rfl (zG (v := .int .u64 x12) rfl) ?_
 obtain ⟨x36, e37, hF⟩ := zH hF
 refine zA rfl rfl (Do_mul (a := x6) (b := x12) rfl rfl e37) ?_
 refine zA rfl rfl (zG (v := .int .u64 x28) rfl) ?_
 obtain ⟨x38, e39, hF⟩ := zH hF
 refine zA rfl rfl (xJ (a := x36) (b := x28) rfl rfl e39) ?_
 refine zA rfl rfl (zG (v := .int .u64 x33) rfl) ?_
 obtain ⟨x40, e41, hF⟩ := zJ hF
 refine zA rfl rfl (Do_shr' (j := x33) (q := 32) rfl rfl e41) ?_
 obtain ⟨x42, e43, hF⟩ := zH hF
 refine zA rfl rfl (xJ (a := x38) (b := x40) rfl rfl e43) ?_
 refine zA rfl rfl (zF (v := .int .u64 x42) rfl) ?_
 refine (zI (zB (hK35 _ _ ?_)))
 refine zD fun K44 hK44 => ?_
 refine zC ?_
 refine zA rfl rfl (zG (v := .int .u64 p0) rfl) ?_
 refine zA rfl rfl (zG (v := .int .u64 p1) rfl) ?_
 obtain ⟨x45, e46, hF⟩ := zH hF
 refine zA rfl rfl (Do_mul (a := p0) (b := p1) rfl rfl e46) ?_
 refine zA rfl rfl (zF (v := .int .u64 x45) rfl) ?_
 refine (zI (zB (hK44 _ _ ?_)))
 have hR := Option.some.inj hF
 subst hR
 refine (yG (post2 (v1 := .int .u64 x42) (v2 := .int .u64 x45) rfl rfl rfl ?_))
 exact ⟨rfl, H.pick [] (by decide)⟩
end Go.Proofs.YtbjhondbheijiaaGreatDoor.L
namespace Go.Proofs.YtbjhondbheijiaaGreatDoor.L
open Go.RowKit Go.OB Go.Lf
/- orangebox/fleet.mixed -/
set_option maxHeartbeats 4000000 in
theorem F_fleet_mixed_w (p0 : Int) (p1 : Int) (p2 : Int) (r : Ratio × Bool) (hF : F_fleet_mixed p0 p1 p2 = some r) (O S : List Nat) (w : World) (H : Hd O w w S []) :
  Calls Tryz.prog 12 ([.int .i64 p0, .int .i64 p1, .int .i64 p2] : List Value).toArray w fun e w' => e = .returned (.tuple #[.agg [.int .i64 r.1.Num, .int .i64 r.1.Den].toArray, .bool r.2]) ∧ Hd O w w' S [] := by
 unfold F_fleet_mixed at hF
 refine yB 57 Tryz.func12 rfl rfl rfl ?_
 refine zD fun K1 hK1 => ?_
 refine zC ?_
 refine xE rfl rfl (xR zero28 H) ?_
 rintro _ w4 ⟨b2, rfl, H⟩
 refine zA rfl rfl (zF (v := .bool false) rfl) ?_
 refine (zI (zB (hK1 _ _ ?_)))
 refine zD fun K5 hK5 => ?_
 refine zC ?_
 refine zA rfl rfl (zG (v := .int .i64 p1) rfl) ?_
 refine zA rfl rfl (zG (v := .int .i64 p2) rfl) ?_
 have H6 := H
 obtain ⟨x7, e8, hF⟩ := zJ hF
 refine yJ rfl rfl (yC en34 rfl) (F_fleet_divisor_w p1 p2 _ e8 _ _ _ (H.enter [] [] (by decide) rfl)) ?_
 rintro _ w9 ⟨rfl, G10⟩
 have H := H6.step (G10.only : Only [] _ _)
 refine ⟨_, rfl, ?_⟩
 refine zA rfl rfl (zF (v := .int .i64 x7) rfl) ?_
 refine (zI (zB (hK5 _ _ ?_)))
 refine zD fun K11 hK11 => ?_
 have H12 := H
 have H := H.rebase
 have H13 := H
 refine WP_mix0 H [0, 1, 2, 3, 4, 5, 6, 7] [.pure, .pure, .pure, .pure, .pure, .pure, .pure, .pure] mixed (by kernel_rfl) (by kernel_rfl) (by kernel_rfl) rfl ?_
 refine Mx.zS rfl rfl rfl (fun w' hw' => zG (v := .int .i64 p1) rfl) ?_
 refine Mx.zS rfl rfl rfl (fun w' hw' => zG (v := .int .i64 x7) rfl) ?_
 obtain ⟨x14, e15, hF⟩ := zJ hF
 refine Mx.zS rfl rfl rfl (fun w' hw' => Do_quo' (j := p1) (q := x7) rfl rfl e15) ?_
 refine Mx.zS rfl rfl rfl (fun w' hw' => zG (v := .int .i64 p2) rfl) ?_
 refine Mx.zS rfl rfl rfl (fun w' hw' => zG (v := .int .i64 x7) rfl) ?_
 obtain ⟨x16, e17, hF⟩ := zJ hF
 refine Mx.zS rfl rfl rfl (fun w' hw' => Do_quo' (j := p2) (q := x7) rfl rfl e17) ?_
 refine Mx.zS rfl rfl rfl (fun w' hw' => zF (v := .int .i64 x14) rfl) ?_
 refine Mx.zS rfl rfl rfl (fun w' hw' => zF (v := .int .i64 x16) rfl) ?_
 refine Mx.wG fun w18 hS => ?_
 have H := H.sees hS
 have H := H12.rejoin H
 refine (zB (hK11 _ _ ?_))
 refine zD fun K19 hK19 => ?_
 refine zC ?_
 refine zA rfl rfl (zG (v := .int .i64 p0) rfl) ?_
 refine zA rfl rfl (zG (v := .int .i64 p0) rfl) ?_
 obtain ⟨x20, e21, hF⟩ := zH hF
 refine zA rfl rfl (Do_neg (a := p0) rfl e21) ?_
 obtain ⟨x22, e23, hF⟩ := zH hF
 refine zA rfl rfl (Do_max (j := p0) (q := x20) rfl rfl e23) ?_
 obtain ⟨x24, e25, hF⟩ := zH hF
 refine zA rfl rfl (Do_conv u3 u51 rfl e25) ?_
 refine zA rfl rfl (zG (v := .int .i64 x16) rfl) ?_
 obtain ⟨x26, e27, hF⟩ := zH hF
 refine zA rfl rfl (Do_conv u3 u51 rfl e27) ?_
 have H28 := H
 obtain ⟨⟨x29, x30⟩, e31, hF⟩ := zJ hF
 refine yJ rfl rfl (yC en35 rfl) (F_math_bits_Mul64_w x24 x26 _ e31 _ _ _ (H.enter [] [] (by decide) rfl)) ?_
 rintro _ w32 ⟨rfl, G33⟩
 have H := H28.step (G33.only : Only [] _ _)
 refine ⟨_, rfl, ?_⟩
 refine zA rfl rfl (zG (v := .tuple #[.int .u64 x29, .int .u64 x30]) rfl) ?_
 refine zA rfl rfl (yQ (v := .int .u64 x29) rfl rfl) ?_
 refine zA rfl rfl (yQ (v := .int .u64 x30) rfl rfl) ?_
 refine zA rfl rfl (zF (v := .int .u64 x29) rfl) ?_
 refine zA rfl rfl (zF (v := .int .u64 x30) rfl) ?_
 refine (zI (zB (hK19 _ _ ?_)))
 refine zD fun K51 hK51 => ?_
 obtain ⟨g63, hF, hK65⟩ := zJ hF
 refine yL [32, 33, 34, 35, 36, 37, 38, 39, 40, 41] (fun (g : Unit) => [(41, .bool g63)]) (fun g wl => Hd O w wl S [.blk b2 [.int .i64 0, .int .i64 0] 28]) ?_ ?_
 ·skip
  refine zC ?_
  refine zA rfl rfl (zG (v := .int .u64 x29) rfl) ?_
  obtain ⟨x66, e67, hF⟩ := zH hF
  refine zA rfl rfl (zT (wF (a := x29) (b := 0) rfl rfl) (congrArg Value.bool e67)) ?_
  refine yO (b := x66) rfl rfl rfl (fun c68 => ?_) (fun c68 => ?_)
  ·have hF := zW c68 hF
   refine zM rfl rfl ?_
   refine zM rfl rfl ?_
   refine zM rfl rfl ?_
   refine zM rfl rfl ?_
   refine zM rfl rfl ?_
   refine zM rfl rfl ?_
   refine zA rfl rfl (yI (v := .bool true) rfl rfl) ?_
   have hR := Option.some.inj hF
   subst hR
   refine (zI (zB (And.intro ?_ ?_)))
   ·repeat' (first | with_reducible exact zN | refine zV rfl ?_ | refine zO rfl rfl ?_)
   exact ⟨(), (zK rfl zQ), H.pick [0] (by decide)⟩
  have hF := zX c68 hF
  refine zA rfl rfl (zG (v := .int .u64 x30) rfl) ?_
  refine zA rfl rfl (zG (v := .int .i64 x16) rfl) ?_
  obtain ⟨x69, e70, hF⟩ := zH hF
  refine zA rfl rfl (Do_conv u3 u51 rfl e70) ?_
  obtain ⟨x71, e72, hF⟩ := zH hF
  refine zA rfl rfl (Do_mul (a := 2) (b := x69) rfl rfl e72) ?_
  obtain ⟨x73, e74, hF⟩ := zH hF
  refine zA rfl rfl (xJ (a := 4611686018427387904) (b := x71) rfl rfl e74) ?_
  obtain ⟨x75, e76, hF⟩ := zH hF
  refine zA rfl rfl (zT (wF (a := x30) (b := x73) rfl rfl) (congrArg Value.bool e76)) ?_
  refine zA rfl rfl (yH (v := .bool x75) rfl rfl) ?_
  have hR := Option.some.inj hF
  subst hR
  refine (zI (zB (And.intro ?_ ?_)))
  ·repeat' (first | with_reducible exact zN | refine zV rfl ?_ | refine zO rfl rfl ?_)
  exact ⟨(), (zK rfl zQ), H.pick [0] (by decide)⟩
 rintro _ ρ w64 H
 have hF := hK65
 refine yF (b := g63) rfl (fun c77 => ?_) (fun c77 => ?_)
 ·have hF := zW c77 hF
  refine zD fun K78 hK78 => ?_
  refine zC ?_
  refine zA rfl rfl (Do_build (cs := [.int .i64 0, .int .i64 0]) bz28) ?_
  refine xO rfl (xA (vs := [.int .i64 0, .int .i64 0]) H 0 rfl sz28 rfl rfl rfl ⟨rfl, rfl, trivial⟩ rfl) ?_
  rintro w79 H
  refine zA rfl rfl (zF (v := .bool false) rfl) ?_
  refine (zI (zB (hK78 _ _ ?_)))
  have hR := Option.some.inj hF
  subst hR
  refine (yG (zZ (postc1 (v1 := .bool false) rfl rfl (xH agg28 sz28 rfl (Blk.cells (H.item (i := 0) rfl))) rfl ?_)))
  exact ⟨rfl, H.pick [] (by decide)⟩
 have hF := zX c77 hF
 refine (yA (zB (hK51 _ _ ?_)))
 refine zD fun K80 hK80 => ?_
 refine zC ?_
 refine zA rfl rfl (zG (v := .int .u64 x30) rfl) ?_
 obtain ⟨x81, e82, hF⟩ := zH hF
 refine zA rfl rfl (Do_conv u51 u3 rfl e82) ?_
 refine zA rfl rfl (zF (v := .int .i64 x81) rfl) ?_
 refine (zI (zB (hK80 _ _ ?_)))
 obtain ⟨g89, hF, hK91⟩ := zJ hF
 refine yL [11, 45, 46, 47, 48] (fun (g : Unit) => [(11, .int .i64 g89)]) (fun g wl => Hd O w wl S [.blk b2 [.int .i64 0, .int .i64 0] 28]) ?_ ?_
 ·skip
  refine zD fun K92 hK92 => ?_
  refine zC ?_
  refine zA rfl rfl (zG (v := .int .i64 p0) rfl) ?_
  obtain ⟨x93, e94, hF⟩ := zH hF
  refine zA rfl rfl (zT (xK (a := p0) (b := 0) rfl rfl) (congrArg Value.bool e94)) ?_
  refine (zI (zB (hK92 _ _ ?_)))
  refine yF (b := x93) rfl (fun c95 => ?_) (fun c95 => ?_)
  ·have hF := zW c95 hF
   refine zC ?_
   refine zA rfl rfl (zG (v := .int .i64 x81) rfl) ?_
   obtain ⟨x96, e97, hF⟩ := zH hF
   refine zA rfl rfl (Do_neg (a := x81) rfl e97) ?_
   refine zA rfl rfl (zF (v := .int .i64 x96) rfl) ?_
   have hR := Option.some.inj hF
   subst hR
   refine (zI (zB (And.intro ?_ ?_)))
   ·repeat' (first | with_reducible exact zN | refine zV rfl ?_ | refine zO rfl rfl ?_)
   exact ⟨(), (zK rfl zQ), H.pick [0] (by decide)⟩
  have hF := zX c95 hF
  have hR := Option.some.inj hF
  subst hR
  refine (yA (zB (And.intro ?_ ?_)))
  ·repeat' (first | with_reducible exact zN | refine zV rfl ?_ | refine zO rfl rfl ?_)
  exact ⟨(), (zK rfl zQ), H.pick [0] (by decide)⟩
 rintro _ ρ w90 H
 have hF := hK91
 refine zD fun K98 hK98 => ?_
 refine zC ?_
 refine zA rfl rfl (zG (v := .int .i64 g89) rfl) ?_
 refine zA rfl rfl (zG (v := .int .i64 x14) rfl) ?_
 obtain ⟨x99, e100, hF⟩ := zH hF
 refine zA rfl rfl (xJ (a := g89) (b := x14) rfl rfl e100) ?_
 refine zA rfl rfl (zF (v := .int .i64 x99) rfl) ?_
 refine (zI (zB (hK98 _ _ ?_)))
 refine zD fun K101 hK101 => ?_
 refine zC ?_
 refine zA rfl rfl (zG (v := .int .i64 x99) rfl) ?_
 refine zA rfl rfl (zG (v := .int .i64 x16) rfl) ?_
 refine zA rfl rfl (Do_build (cs := [.int .i64 x99, .int .i64 x16]) (bt28_0_1 _ _)) ?_
 refine zA rfl rfl (zG (v := .int .i64 x99) rfl) ?_
 have H102 := H
 obtain ⟨x103, e104, hF⟩ := zJ hF
 refine yJ rfl rfl (yC en21 rfl) (F_fleet_within_w x99 (-4611686018427387904) 4611686018427387904 _ e104 _ _ _ (H.enter [] [] (by decide) rfl)) ?_
 rintro _ w105 ⟨rfl, G106⟩
 have H := H102.step (G106.only : Only [] _ _)
 refine ⟨_, rfl, ?_⟩
 refine xO rfl (xA (vs := [.int .i64 x99, .int .i64 x16]) H 0 rfl sz28 rfl rfl rfl ⟨rfl, rfl, trivial⟩ rfl) ?_
 rintro w107 H
 refine zA rfl rfl (zF (v := .bool x103) rfl) ?_
 refine (zI (zB (hK101 _ _ ?_)))
 have hR := Option.some.inj hF
 subst hR
 refine (yG (postc1 (v1 := .bool x103) rfl rfl (xH agg28 sz28 rfl (Blk.cells (H.item (i := 0) rfl))) rfl ?_))
 exact ⟨rfl, H.pick [] (by decide)⟩
end Go.Proofs.YtbjhondbheijiaaGreatDoor.L
