/- Walks: what each function computes, for every argument; no condition but those that stand in the statements. -/
import Derived.Test.YtbjhondbheijiaaGreatZV0
import Derived.Test.YtbjhondbheijiaaGreatZV2
import Derived.Test.YtbjhondbheijiaaGreatZV1
namespace Go.Proofs.YtbjhondbheijiaaGreat.L
open Go.RowKit Go.OB Go.Lf
/- slices.ContainsFunc[[]orangebox/fleet.peaks,orangebox/fleet.peaks]@orangebox/fleet.peaksOf$1 -/
set_option maxHeartbeats 4000000 in
theorem F_slices_ContainsFunc___fleet_peaks_fleet_peaks__fleet_peaksOf_1_w (p0 : List FleetPeaks) (p1c0 : Mask) (v1 : Value) (b3 : Nat) (v4 : Value) (v5 : Value) (r : Bool) (hF : F_slices_ContainsFunc___fleet_peaks_fleet_peaks__fleet_peaksOf_1 p0 p1c0 = some r) (O S : List Nat) (w : World) (H : Hd O w w S [.blk b3 [.bool p1c0.Tails, .int .i64 p1c0.Days, v4, v5, .int .i64 p1c0.Least] 26, .fz (.sl rFleetPeaks v1 p0), .fz (.sl Rp.str v4 p1c0.Hide), .fz (.sl rGrain v5 p1c0.Grains)]) :
    Calls Tryz.prog 28 ([v1, .func (.func 29) #[] [.pointer (some ⟨b3, 0, none⟩)].toArray] : List Value).toArray w fun e w' => e = .returned (.bool r) ∧ Hd O w w' S [.blk b3 [.bool p1c0.Tails, .int .i64 p1c0.Days, v4, v5, .int .i64 p1c0.Least] 26] := by
  unfold F_slices_ContainsFunc___fleet_peaks_fleet_peaks__fleet_peaksOf_1 at hF
  refine calls_of_WP 9 Tryz.func28 rfl rfl rfl ?_
  refine WP_seq_k fun K9 hK9 => ?_
  refine WP_region ?_
  refine RL_do rfl rfl (Do_assign (v := .bool false) rfl) ?_
  refine (RL_nil (thenQ_n (hK9 _ _ ?_)))
  refine WP_seq_k fun K10 hK10 => ?_
  refine WP_region ?_
  refine RL_do rfl rfl (Do_move (v := v1) rfl) ?_
  refine RL_do rfl rfl (Do_move (v := .func (.func 29) #[] [.pointer (some ⟨b3, 0, none⟩)].toArray) rfl) ?_
  obtain ⟨x11, e12, hF⟩ := bindO_some hF
  refine RL_call rfl rfl (DoC_func en50 rfl) (F_slices_IndexFunc___fleet_peaks_fleet_peaks__fleet_peaksOf_1_w p0 p1c0 v1 b3 v4 v5 _ e12 _ _ _ (H.enter [0] [1, 2, 3] (by decide) rfl)) ?_
  rintro _ w13 ⟨rfl, G14⟩
  have H : Hd O _ w13 _ [.fz (.sl rFleetPeaks v1 p0), .fz (.sl Rp.str v4 p1c0.Hide), .fz (.sl rGrain v5 p1c0.Grains), .blk b3 [.bool p1c0.Tails, .int .i64 p1c0.Days, v4, v5, .int .i64 p1c0.Least] 26] := H.back [0] [1, 2, 3] rfl G14
  refine ⟨_, rfl, ?_⟩
  obtain ⟨x15, e16, hF⟩ := letO_some hF
  refine RL_do rfl rfl (Do_as (Do_geq (a := x11) (b := 0) rfl rfl) (congrArg Value.bool e16)) ?_
  refine RL_do rfl rfl (Do_assign (v := .bool x15) rfl) ?_
  refine (RL_nil (thenQ_n (hK10 _ _ ?_)))
  have hR := Option.some.inj hF
  subst hR
  refine (WP_ret (post1 (v1 := .bool x15) rfl rfl ?_))
  exact ⟨rfl, H.pick [3] (by decide)⟩
end Go.Proofs.YtbjhondbheijiaaGreat.L
namespace Go.Proofs.YtbjhondbheijiaaGreat.L
open Go.RowKit Go.OB Go.Lf
/- orangebox/fleet.peaksOf -/
set_option maxHeartbeats 4000000 in
theorem F_fleet_peaksOf_w (p0 : List (List Flight)) (p1 : Mask) (p2 : Str) (v1 : Value) (v3 : Value) (v4 : Value) (r : (List FleetPeaks) × Int) (hF : F_fleet_peaksOf p0 p1 p2 = some r) (O S : List Nat) (w : World) (H : Hd O w w S [.fz (.sl (Rp.sl rFlight) v1 p0), .fz (.sl Rp.str v3 p1.Hide), .fz (.sl rGrain v4 p1.Grains)]) :
    Calls Tryz.prog 9 ([v1, .agg [.bool p1.Tails, .int .i64 p1.Days, v3, v4, .int .i64 p1.Least].toArray, .string (bs p2)] : List Value).toArray w fun e w' => ∃ u7, e = .returned (.tuple #[u7, .int .i64 r.2]) ∧ Hd O w w' S [.fz (.sl rFleetPeaks u7 r.1)] := by
  unfold F_fleet_peaksOf at hF
  refine calls_of_WP 108 Tryz.func9 rfl rfl rfl ?_
  refine WP_seq_k fun K8 hK8 => ?_
  refine WP_region ?_
  refine RL_ex rfl rfl (Lx_box (cs := [.bool p1.Tails, .int .i64 p1.Days, v3, v4, .int .i64 p1.Least]) rfl H) ?_
  rintro _ w11 ⟨b9, rfl, H⟩
  refine RL_do rfl rfl (Do_assign (v := .slice none 0 0) rfl) ?_
  refine RL_do rfl rfl (Do_assign (v := .int .i64 0) rfl) ?_
  refine (RL_nil (thenQ_n (hK8 _ _ ?_)))
  obtain ⟨k152, ek153, hF⟩ := joinO_some hF
  refine WP_seqS [6, 7, 9, 10, 23, 24, 25, 26, 27, 28, 29, 30, 31, 32, 33, 34] (fun (g : Unit) => []) (fun g wl => Hd O w wl S [.fz (.sl (Rp.sl rFlight) v1 p0), .blk b9 [.bool p1.Tails, .int .i64 p1.Days, v3, v4, .int .i64 p1.Least] 26, .fz (.sl Rp.str v3 p1.Hide), .fz (.sl rGrain v4 p1.Grains)] ∧ k152 () = some r) ?_ ?_
  · skip
    refine WP_seq_k fun K154 hK154 => ?_
    refine WP_region ?_
    refine RL_do rfl rfl (Do_move (v := v1) rfl) ?_
    obtain ⟨x155, e156, hF⟩ := letO_some hF
    obtain ⟨a157, c158, q159⟩ := SlF.len ((H.item (i := 0) rfl))
    refine RL_do rfl rfl (Do_as (Do_len u39 q159) (congrArg (Value.int .i64) e156)) ?_
    refine RL_do rfl rfl (Do_move (v := .int .i64 0) rfl) ?_
    refine (RL_nil (thenQ_n (hK154 _ _ ?_)))
    refine WP_block ?_
    unfold F_fleet_peaksOf_L1 at hF
    obtain ⟨B288, n289, eB290, hF⟩ := loopO_some hF
    refine WP_loopS [6, 7, 9, 10, 25, 26, 27, 28, 29, 30, 31, 32, 33, 34] (fun (g : Nat × Int) => [(25, .int .i64 g.2)]) (fun g wl => Hd O w wl S [.fz (.sl (Rp.sl rFlight) v1 p0), .blk b9 [.bool p1.Tails, .int .i64 p1.Days, v3, v4, .int .i64 p1.Least] 26, .fz (.sl Rp.str v3 p1.Hide), .fz (.sl rGrain v4 p1.Grains)] ∧ loopN B288 g.1 g.2 = some r) (fun g => g.1) (n289, 0) (Sl_cons rfl Sl_nil) ⟨H.pick [0, 3, 1, 2] (by decide), hF⟩ ?_
    clear H hF
    rintro ⟨n289, g287⟩ ρ w292 ⟨H, hF⟩
    obtain ⟨n293, rfl, hF⟩ := loopN_pos hF
    have hF := loop_body eB290 hF
    refine WP_seq_k fun K294 hK294 => ?_
    refine WP_region ?_
    obtain ⟨x295, e296, hF⟩ := letO_some hF
    refine RL_do rfl rfl (Do_as (Do_lss (a := g287) (b := x155) rfl rfl) (congrArg Value.bool e296)) ?_
    refine (RL_nil (thenQ_n (hK294 _ _ ?_)))
    refine WP_seq_k fun K298 hK298 => ?_
    refine WP_ifb (b := x295) rfl (fun c299 => ?_) (fun c299 => ?_)
    · have hF := iteB_t c299 hF
      refine (WP_skip (thenQ_n (hK298 _ _ ?_)))
      refine WP_seq_k fun K327 hK327 => ?_
      refine WP_block ?_
      refine WP_seq_k fun K328 hK328 => ?_
      refine WP_region ?_
      obtain ⟨x329, e330, hF⟩ := bindO_some hF
      obtain ⟨b331, o332, c333, cs334, q335, h338, h336, h337, h339⟩ := rd_at (H.item (i := 0) rfl) e330
      obtain ⟨v340, rfl, h341⟩ := h338
      have H := H.fzs [.at b331 (o332 + g287.toNat * 1) _, .sl rFlight v340 x329] ⟨⟨h336, h337, h339⟩, h341, trivial⟩
      refine RL_do rfl rfl (Do_idx u39 sz22 q335 rfl (at_some e330).1 (at_some e330).2.1 rfl rfl) ?_
      refine RL_do rfl rfl (Do_load one22 rfl (Cells.get (H.item (i := 4) rfl).2.2 (i := 0) rfl)) ?_
      refine RL_do rfl rfl (Do_assign (v := v340) rfl) ?_
      refine (RL_nil (thenQ_n (hK328 _ _ ?_)))
      refine WP_seq_k fun K344 hK344 => ?_
      refine WP_region ?_
      refine RL_do rfl rfl (Do_move (v := v340) rfl) ?_
      have H345 := H
      obtain ⟨x346, e347, hF⟩ := bindO_some hF
      refine RL_call rfl rfl (DoC_func en22 rfl) (F_fleet_checkFlights_w x329 v340 _ e347 _ _ _ (H.enter [] [5] (by decide) rfl)) ?_
      rintro _ w348 ⟨rfl, G349⟩
      have H := H345.step (G349.only : Only [] _ _)
      refine ⟨_, rfl, ?_⟩
      refine RL_do rfl rfl (Do_assign (v := .int .i64 x346) rfl) ?_
      refine (RL_nil (thenQ_n (hK344 _ _ ?_)))
      refine WP_seq_k fun K350 hK350 => ?_
      refine WP_region ?_
      refine RL_do rfl rfl (Do_move (v := .int .i64 x346) rfl) ?_
      obtain ⟨x351, e352, hF⟩ := letO_some hF
      refine RL_do rfl rfl (Do_as (Do_neq (a := x346) (b := 0) rfl rfl) (congrArg Value.bool e352)) ?_
      refine (RL_nil (thenQ_n (hK350 _ _ ?_)))
      refine WP_ifb (b := x351) rfl (fun c353 => ?_) (fun c353 => ?_)
      · have hF := iteB_t c353 hF
        refine WP_seq_k fun K354 hK354 => ?_
        refine WP_region ?_
        refine RL_do rfl rfl (Do_move (v := .int .i64 x346) rfl) ?_
        refine RL_do rfl rfl (Do_assign (v := .slice none 0 0) rfl) ?_
        refine RL_do rfl rfl (Do_assign (v := .int .i64 x346) rfl) ?_
        refine (RL_nil (thenQ_n (hK354 _ _ ?_)))
        have H := H.fz (.sl rFleetPeaks (.slice none 0 0) []) SlF.nil
        have hR := Option.some.inj hF
        subst hR
        refine (WP_ret (blockQ_r (thenQ_r (thenQ_r (blockQ_r (thenQ_r (post2 (v1 := .slice none 0 0) (v2 := .int .i64 x346) rfl rfl rfl ?_)))))))
        exact ⟨.slice none 0 0, rfl, H.pick [6] (by decide)⟩
      · have hF := iteB_f c353 hF
        refine (WP_skip (blockQ_n (thenQ_n (hK327 _ _ ?_))))
        refine WP_region ?_
        obtain ⟨x356, e357, hF⟩ := letO_some hF
        refine RL_do rfl rfl (Do_add (a := g287) (b := 1) rfl rfl e357) ?_
        refine RL_do rfl rfl (Do_move (v := .int .i64 x356) rfl) ?_
        refine (RL_nil (thenQ_n (And.intro ?_ ?_)))
        · repeat' (first | with_reducible exact Fr_refl | refine Fr_upd rfl ?_ | refine Fr_over rfl rfl ?_)
        · exact ⟨(n293, x356), (Sl_cons rfl Sl_nil), ⟨H.pick [0, 1, 2, 3] (by decide), hF⟩, Nat.lt_succ_self _⟩
    · have hF := iteB_f c299 hF
      refine (WP_exit (thenQ_x (thenQ_x (blockQ_eq (thenQ_n (And.intro ?_ ?_))))))
      · repeat' (first | with_reducible exact Fr_refl | refine Fr_upd rfl ?_ | refine Fr_over rfl rfl ?_)
      · exact ⟨(), Sl_nil, ⟨H.pick [0, 1, 2, 3] (by decide), hF⟩⟩
  · rintro _ ρ w151 ⟨H, hF⟩
    have hF := join_body ek153 hF
    refine WP_seq_k fun K369 hK369 => ?_
    refine WP_seq_k fun K370 hK370 => ?_
    refine WP_region ?_
    refine RL_do rfl rfl (Do_as (Do_loads (cs := [.bool p1.Tails, .int .i64 p1.Days, v3, v4, .int .i64 p1.Least]) agg26 rfl sz26 rfl (Blk.cells (H.item (i := 1) rfl))) rfl) ?_
    have H371 := H
    obtain ⟨x372, e373, hF⟩ := bindO_some hF
    refine RL_call rfl rfl (DoC_func en23 rfl) (F_fleet_CheckMask_w p1 v3 v4 _ e373 _ _ _ (H.enter [] [2, 3] (by decide) rfl)) ?_
    rintro _ w374 ⟨rfl, G375⟩
    have H := H371.step (G375.only : Only [] _ _)
    refine ⟨_, rfl, ?_⟩
    refine RL_do rfl rfl (Do_assign (v := .int .i64 x372) rfl) ?_
    refine (RL_nil (thenQ_n (hK370 _ _ ?_)))
    refine WP_seq_k fun K376 hK376 => ?_
    refine WP_region ?_
    refine RL_do rfl rfl (Do_move (v := .int .i64 x372) rfl) ?_
    obtain ⟨x377, e378, hF⟩ := letO_some hF
    refine RL_do rfl rfl (Do_as (Do_neq (a := x372) (b := 0) rfl rfl) (congrArg Value.bool e378)) ?_
    refine (RL_nil (thenQ_n (hK376 _ _ ?_)))
    refine WP_ifb (b := x377) rfl (fun c379 => ?_) (fun c379 => ?_)
    · have hF := iteB_t c379 hF
      refine WP_seq_k fun K380 hK380 => ?_
      refine WP_region ?_
      refine RL_do rfl rfl (Do_move (v := .int .i64 x372) rfl) ?_
      refine RL_do rfl rfl (Do_assign (v := .slice none 0 0) rfl) ?_
      refine RL_do rfl rfl (Do_assign (v := .int .i64 x372) rfl) ?_
      refine (RL_nil (thenQ_n (hK380 _ _ ?_)))
      have H := H.fz (.sl rFleetPeaks (.slice none 0 0) []) SlF.nil
      have hR := Option.some.inj hF
      subst hR
      refine (WP_ret (thenQ_r (post2 (v1 := .slice none 0 0) (v2 := .int .i64 x372) rfl rfl rfl ?_)))
      exact ⟨.slice none 0 0, rfl, H.pick [4] (by decide)⟩
    · have hF := iteB_f c379 hF
      refine (WP_skip (thenQ_n (hK369 _ _ ?_)))
      refine WP_seq_k fun K392 hK392 => ?_
      refine WP_seq_k fun K393 hK393 => ?_
      refine WP_region ?_
      refine RL_do rfl rfl (Do_move (v := .string (bs p2)) rfl) ?_
      have H394 := H
      obtain ⟨x395, e396, hF⟩ := bindO_some hF
      refine RL_call rfl rfl (DoC_func en24 rfl) (F_event_IsName_w p2 _ e396 _ _ _ (H.enter [] [] (by decide) rfl)) ?_
      rintro _ w397 ⟨rfl, G398⟩
      have H := H394.step (G398.only : Only [] _ _)
      refine ⟨_, rfl, ?_⟩
      obtain ⟨x399, e400, hF⟩ := letO_some hF
      refine RL_do rfl rfl (Do_as (Do_not (p := x395) rfl) (congrArg Value.bool e400)) ?_
      refine (RL_nil (thenQ_n (hK393 _ _ ?_)))
      refine WP_ifb (b := x399) rfl (fun c401 => ?_) (fun c401 => ?_)
      · have hF := iteB_t c401 hF
        refine WP_seq_k fun K402 hK402 => ?_
        refine WP_region ?_
        refine RL_do rfl rfl (Do_assign (v := .slice none 0 0) rfl) ?_
        refine RL_do rfl rfl (Do_assign (v := .int .i64 8) rfl) ?_
        refine (RL_nil (thenQ_n (hK402 _ _ ?_)))
        have H := H.fz (.sl rFleetPeaks (.slice none 0 0) []) SlF.nil
        have hR := Option.some.inj hF
        subst hR
        refine (WP_ret (thenQ_r (post2 (v1 := .slice none 0 0) (v2 := .int .i64 8) rfl rfl rfl ?_)))
        exact ⟨.slice none 0 0, rfl, H.pick [4] (by decide)⟩
      · have hF := iteB_f c401 hF
        refine (WP_skip (thenQ_n (hK392 _ _ ?_)))
        refine WP_seq_k fun K404 hK404 => ?_
        refine WP_region ?_
        refine RL_do rfl rfl (Do_assign (v := .slice none 0 0) rfl) ?_
        refine (RL_nil (thenQ_n (hK404 _ _ ?_)))
        refine WP_seq_k fun K405 hK405 => ?_
        refine WP_region ?_
        refine RL_do rfl rfl (Do_assign (v := .int .i64 0) rfl) ?_
        refine RL_do rfl rfl (Do_assign (v := .bool false) rfl) ?_
        refine (RL_nil (thenQ_n (hK405 _ _ ?_)))
        obtain ⟨j1452, hF, hK1451⟩ := bindO_some hF
        refine WP_seqS [12, 13, 14, 16, 17, 18, 19, 20, 21, 22, 43, 44, 45, 46, 47, 48, 49, 50, 51, 52, 53, 54, 55, 56, 57, 58, 59, 60, 61, 62, 63, 64, 65, 66, 67, 68, 69, 70, 71, 72, 73, 74, 75, 76, 77, 78, 79, 80, 81, 82, 83, 84, 85, 86, 87, 88, 89, 90, 91, 92, 93, 94, 95, 96, 97, 98, 99, 100, 101, 102] (fun (g : Value) => [(12, g), (14, .bool j1452.2)]) (fun g wl => Hd O w wl S [.own rFleetPeaks g 44 j1452.1, .blk b9 [.bool p1.Tails, .int .i64 p1.Days, v3, v4, .int .i64 p1.Least] 26, .fz (.sl Rp.str v3 p1.Hide), .fz (.sl rGrain v4 p1.Grains)]) ?_ ?_
        · skip
          refine WP_seq_k fun K1453 hK1453 => ?_
          refine WP_region ?_
          refine RL_do rfl rfl (Do_move (v := v1) rfl) ?_
          obtain ⟨x1454, e1455, hF⟩ := letO_some hF
          obtain ⟨a1456, c1457, q1458⟩ := SlF.len ((H.item (i := 0) rfl))
          refine RL_do rfl rfl (Do_as (Do_len u39 q1458) (congrArg (Value.int .i64) e1455)) ?_
          refine RL_do rfl rfl (Do_move (v := .int .i64 0) rfl) ?_
          refine (RL_nil (thenQ_n (hK1453 _ _ ?_)))
          refine WP_block ?_
          have H := own_nil H rFleetPeaks 44
          unfold F_fleet_peaksOf_L2 at hF
          obtain ⟨B2493, n2494, eB2495, hF⟩ := loopO_some hF
          refine WP_loopS [12, 13, 14, 16, 17, 18, 19, 20, 21, 22, 45, 46, 47, 48, 49, 50, 51, 52, 53, 54, 55, 56, 57, 58, 59, 60, 61, 62, 63, 64, 65, 66, 67, 68, 69, 70, 71, 72, 73, 74, 75, 76, 77, 78, 79, 80, 81, 82, 83, 84, 85, 86, 87, 88, 89, 90, 91, 92, 93, 94, 95, 96, 97, 98, 99, 100, 101, 102] (fun (g : Nat × (List FleetPeaks) × Int × Bool × Int × Value) => [(12, g.2.2.2.2.2), (13, .int .i64 g.2.2.1), (14, .bool g.2.2.2.1), (45, .int .i64 g.2.2.2.2.1)]) (fun g wl => Hd O w wl S [.own rFleetPeaks g.2.2.2.2.2 44 g.2.1, .fz (.sl (Rp.sl rFlight) v1 p0), .blk b9 [.bool p1.Tails, .int .i64 p1.Days, v3, v4, .int .i64 p1.Least] 26, .fz (.sl Rp.str v3 p1.Hide), .fz (.sl rGrain v4 p1.Grains)] ∧ loopN B2493 g.1 (g.2.1, g.2.2.1, g.2.2.2.1, g.2.2.2.2.1) = some j1452) (fun g => g.1) (n2494, [], 0, false, 0, .slice none 0 0) (Sl_cons rfl (Sl_cons rfl (Sl_cons rfl (Sl_cons rfl Sl_nil)))) ⟨H.pick [4, 0, 1, 2, 3] (by decide), hF⟩ ?_
          clear H hF
          rintro ⟨n2494, g2487, g2489, g2490, g2491, v2488⟩ ρ w2497 ⟨H, hF⟩
          obtain ⟨n2498, rfl, hF⟩ := loopN_pos hF
          have hF := loop_body eB2495 hF
          refine WP_seq_k fun K2499 hK2499 => ?_
          refine WP_region ?_
          obtain ⟨x2500, e2501, hF⟩ := letO_some hF
          refine RL_do rfl rfl (Do_as (Do_lss (a := g2491) (b := x1454) rfl rfl) (congrArg Value.bool e2501)) ?_
          refine (RL_nil (thenQ_n (hK2499 _ _ ?_)))
          refine WP_seq_k fun K2503 hK2503 => ?_
          refine WP_ifb (b := x2500) rfl (fun c2504 => ?_) (fun c2504 => ?_)
          · have hF := iteB_t c2504 hF
            refine (WP_skip (thenQ_n (hK2503 _ _ ?_)))
            obtain ⟨j2858, hF, hK2857⟩ := bindO_some hF
            refine WP_seqS [12, 13, 14, 16, 17, 18, 19, 20, 21, 22, 47, 48, 49, 50, 51, 52, 53, 54, 55, 56, 57, 58, 59, 60, 61, 62, 63, 64, 65, 66, 67, 68, 69, 70, 71, 72, 73, 74, 75, 76, 77, 78, 79, 80, 81, 82, 83, 84, 85, 86, 87, 88, 89, 90, 91, 92, 93, 94, 95, 96, 97, 98, 99, 100, 101] (fun (g : Value) => [(12, g), (13, .int .i64 j2858.2.1), (14, .bool j2858.2.2)]) (fun g wl => Hd O w wl S [.own rFleetPeaks g 44 j2858.1, .fz (.sl (Rp.sl rFlight) v1 p0), .blk b9 [.bool p1.Tails, .int .i64 p1.Days, v3, v4, .int .i64 p1.Least] 26, .fz (.sl Rp.str v3 p1.Hide), .fz (.sl rGrain v4 p1.Grains)]) ?_ ?_
            · skip
              refine WP_block ?_
              refine WP_seq_k fun K2859 hK2859 => ?_
              refine WP_region ?_
              obtain ⟨x2860, e2861, hF⟩ := bindO_some hF
              obtain ⟨b2862, o2863, c2864, cs2865, q2866, h2869, h2867, h2868, h2870⟩ := rd_at (H.item (i := 1) rfl) e2861
              obtain ⟨v2871, rfl, h2872⟩ := h2869
              have H := H.fzs [.at b2862 (o2863 + g2491.toNat * 1) _, .sl rFlight v2871 x2860] ⟨⟨h2867, h2868, h2870⟩, h2872, trivial⟩
              refine RL_do rfl rfl (Do_idx u39 sz22 q2866 rfl (at_some e2861).1 (at_some e2861).2.1 rfl rfl) ?_
              refine RL_do rfl rfl (Do_load one22 rfl (Cells.get (H.item (i := 5) rfl).2.2 (i := 0) rfl)) ?_
              refine RL_do rfl rfl (Do_assign (v := v2871) rfl) ?_
              refine (RL_nil (thenQ_n (hK2859 _ _ ?_)))
              refine WP_seq_k fun K2875 hK2875 => ?_
              refine WP_region ?_
              refine RL_ex rfl rfl (Lx_alloc zero44 H) ?_
              rintro _ w2878 ⟨b2876, rfl, H⟩
              refine (RL_nil (thenQ_n (hK2875 _ _ ?_)))
              obtain ⟨j3196, hF, hK3195⟩ := bindO_some hF
              refine WP_seqS [13, 14, 18, 19, 20, 21, 22, 49, 50, 51, 52, 53, 54, 55, 56, 57, 58, 59, 60, 61, 62, 63, 64, 65, 66, 67, 68, 69, 70, 71, 72, 73, 74, 75, 76, 77, 78, 79, 80, 81, 82, 83, 84, 85, 86, 87, 88, 89, 90, 91, 92, 93, 94, 95, 96, 97] (fun (g : Value × Value) => [(13, .int .i64 j3196.1), (14, .bool j3196.2.1)]) (fun g wl => Hd O w wl S [.own rFleetPeaks v2488 44 g2487, .fz (.sl (Rp.sl rFlight) v1 p0), .blk b9 [.bool p1.Tails, .int .i64 p1.Days, v3, v4, .int .i64 p1.Least] 26, .fz (.sl Rp.str v3 p1.Hide), .fz (.sl rGrain v4 p1.Grains), .blk b2876 [g.1, g.2, .int .i64 0] 44, .own (Rp.int .i64) g.1 3 j3196.2.2.1, .own (Rp.int .i64) g.2 3 j3196.2.2.2]) ?_ ?_
              · skip
                refine WP_seq_k fun K3197 hK3197 => ?_
                refine WP_region ?_
                refine RL_do rfl rfl (Do_move (v := v2871) rfl) ?_
                obtain ⟨x3198, e3199, hF⟩ := letO_some hF
                obtain ⟨a3200, c3201, q3202⟩ := SlF.len ((H.item (i := 6) rfl))
                refine RL_do rfl rfl (Do_as (Do_len u22 q3202) (congrArg (Value.int .i64) e3199)) ?_
                refine RL_do rfl rfl (Do_move (v := .int .i64 0) rfl) ?_
                refine (RL_nil (thenQ_n (hK3197 _ _ ?_)))
                refine WP_block ?_
                have H := own_nil H (Rp.int .i64) 3
                have H := own_nil H (Rp.int .i64) 3
                unfold F_fleet_peaksOf_L3 at hF
                obtain ⟨B3507, n3508, eB3509, hF⟩ := loopO_some hF
                refine WP_loopS [13, 14, 18, 19, 20, 21, 22, 51, 52, 53, 54, 55, 56, 57, 58, 59, 60, 61, 62, 63, 64, 65, 66, 67, 68, 69, 70, 71, 72, 73, 74, 75, 76, 77, 78, 79, 80, 81, 82, 83, 84, 85, 86, 87, 88, 89, 90, 91, 92, 93, 94, 95, 96, 97] (fun (g : Nat × Int × Bool × Int × (List Int) × (List Int) × Value × Value) => [(13, .int .i64 g.2.1), (14, .bool g.2.2.1), (51, .int .i64 g.2.2.2.1)]) (fun g wl => Hd O w wl S [.own rFleetPeaks v2488 44 g2487, .fz (.sl (Rp.sl rFlight) v1 p0), .blk b9 [.bool p1.Tails, .int .i64 p1.Days, v3, v4, .int .i64 p1.Least] 26, .fz (.sl Rp.str v3 p1.Hide), .fz (.sl rGrain v4 p1.Grains), .fz (.sl rFlight v2871 x2860), .blk b2876 [g.2.2.2.2.2.2.1, g.2.2.2.2.2.2.2, .int .i64 0] 44, .own (Rp.int .i64) g.2.2.2.2.2.2.1 3 g.2.2.2.2.1, .own (Rp.int .i64) g.2.2.2.2.2.2.2 3 g.2.2.2.2.2.1] ∧ loopN B3507 g.1 (g.2.1, g.2.2.1, g.2.2.2.1, g.2.2.2.2.1, g.2.2.2.2.2.1) = some j3196) (fun g => g.1) (n3508, g2489, g2490, 0, [], [], .slice none 0 0, .slice none 0 0) (Sl_cons rfl (Sl_cons rfl (Sl_cons rfl Sl_nil))) ⟨H.pick [0, 1, 2, 3, 4, 6, 7, 8, 9] (by decide), hF⟩ ?_
                clear H hF
                rintro ⟨n3508, g3496, g3497, g3498, g3500, g3503, v3501, v3504⟩ ρ w3511 ⟨H, hF⟩
                obtain ⟨n3512, rfl, hF⟩ := loopN_pos hF
                have hF := loop_body eB3509 hF
                refine WP_seq_k fun K3513 hK3513 => ?_
                refine WP_region ?_
                obtain ⟨x3514, e3515, hF⟩ := letO_some hF
                refine RL_do rfl rfl (Do_as (Do_lss (a := g3498) (b := x3198) rfl rfl) (congrArg Value.bool e3515)) ?_
                refine (RL_nil (thenQ_n (hK3513 _ _ ?_)))
                refine WP_seq_k fun K3517 hK3517 => ?_
                refine WP_ifb (b := x3514) rfl (fun c3518 => ?_) (fun c3518 => ?_)
                · have hF := iteB_t c3518 hF
                  refine (WP_skip (thenQ_n (hK3517 _ _ ?_)))
                  obtain ⟨j3649, hF, hK3648⟩ := bindO_some hF
                  refine WP_seqS [13, 14, 18, 19, 20, 21, 22, 53, 54, 55, 56, 57, 58, 59, 60, 61, 62, 63, 64, 65, 66, 67, 68, 69, 70, 71, 72, 73, 74, 75, 76, 77, 78, 79, 80, 81, 82, 83, 84, 85, 86, 87, 88, 89, 90, 91, 92, 93, 94, 95, 96] (fun (g : Value × Value) => [(13, .int .i64 j3649.1), (14, .bool j3649.2.1)]) (fun g wl => Hd O w wl S [.own rFleetPeaks v2488 44 g2487, .fz (.sl (Rp.sl rFlight) v1 p0), .blk b9 [.bool p1.Tails, .int .i64 p1.Days, v3, v4, .int .i64 p1.Least] 26, .fz (.sl Rp.str v3 p1.Hide), .fz (.sl rGrain v4 p1.Grains), .fz (.sl rFlight v2871 x2860), .blk b2876 [g.1, g.2, .int .i64 0] 44, .own (Rp.int .i64) g.1 3 j3649.2.2.1, .own (Rp.int .i64) g.2 3 j3649.2.2.2]) ?_ ?_
                  · skip
                    refine WP_block ?_
                    refine WP_seq_k fun K3650 hK3650 => ?_
                    refine WP_region ?_
                    refine RL_do rfl rfl (Do_move (v := .int .i64 g3498) rfl) ?_
                    obtain ⟨x3651, e3652, hF⟩ := bindO_some hF
                    obtain ⟨b3653, o3654, c3655, cs3656, q3657, h3660, h3658, h3659, h3661⟩ := rd_at (H.item (i := 5) rfl) e3652
                    obtain ⟨v3662, rfl, h3663⟩ := rFlight_open h3660
                    have H := H.fzs [.at b3653 (o3654 + g3498.toNat * 6) _, .sl rTrack v3662 x3651.Tracks] ⟨⟨h3658, h3659, h3661⟩, h3663, trivial⟩
                    refine RL_do rfl rfl (Do_idx u22 sz66 q3657 rfl (at_some e3652).1 (at_some e3652).2.1 rfl rfl) ?_
                    refine RL_do rfl rfl (Do_as (Do_loads (cs := [.string (bs x3651.Tail), .string (bs x3651.Route), .int .i64 x3651.Day, .int .i64 x3651.From, .int .i64 x3651.To, v3662]) agg66 rfl sz66 rfl (H.item (i := 9) rfl).2.2) rfl) ?_
                    refine RL_ex rfl rfl (Lx_alloc zero66 H) ?_
                    rintro _ w3668 ⟨b3666, rfl, H⟩
                    refine RL_do rfl rfl (Do_assign (v := .int .i64 g3498) rfl) ?_
                    refine RL_exU rfl (Lx_storeN (vs := [.string (bs x3651.Tail), .string (bs x3651.Route), .int .i64 x3651.Day, .int .i64 x3651.From, .int .i64 x3651.To, v3662]) H 11 rfl sz66 rfl rfl rfl ⟨rfl, rfl, rfl, rfl, rfl, (slf_one (H.item (i := 10) rfl)), trivial⟩ rfl) ?_
                    rintro w3669 H
                    refine (RL_nil (thenQ_n (hK3650 _ _ ?_)))
                    refine WP_seq_k fun K3670 hK3670 => ?_
                    refine WP_region ?_
                    refine RL_do rfl rfl (Do_as (Do_loads (cs := [.string (bs x3651.Tail), .string (bs x3651.Route), .int .i64 x3651.Day, .int .i64 x3651.From, .int .i64 x3651.To, v3662]) agg66 rfl sz66 rfl (Blk.cells (H.item (i := 11) rfl))) rfl) ?_
                    refine RL_do rfl rfl (Do_as (Do_loads (cs := [.bool p1.Tails, .int .i64 p1.Days, v3, v4, .int .i64 p1.Least]) agg26 rfl sz26 rfl (Blk.cells (H.item (i := 2) rfl))) rfl) ?_
                    obtain ⟨x3671, e3672, hF⟩ := bindO_some hF
                    refine RL_call rfl rfl (DoC_func en25 rfl) (F_fleet_masked_w x3651 p1 v3662 v3 v4 _ e3672 _ _ _ (H.enter [] [10, 3, 4] (by decide) rfl)) ?_
                    rintro _ w3675 ⟨v3673, rfl, G3676⟩
                    have H := H.back1 [10, 3, 4] rfl G3676
                    refine ⟨_, rfl, ?_⟩
                    refine RL_exU rfl (Lx_storeN (vs := [.string (bs x3671.Tail), .string (bs x3671.Route), .int .i64 x3671.Day, .int .i64 x3671.From, .int .i64 x3671.To, v3673]) H 11 rfl sz66 rfl rfl rfl ⟨rfl, rfl, rfl, rfl, rfl, (slf_one (H.item (i := 12) rfl)), trivial⟩ rfl) ?_
                    rintro w3677 H
                    refine (RL_nil (thenQ_n (hK3670 _ _ ?_)))
                    refine WP_seq_k fun K3678 hK3678 => ?_
                    refine WP_region ?_
                    refine RL_do rfl rfl (Do_as (Do_loads (cs := [.string (bs x3671.Tail), .string (bs x3671.Route), .int .i64 x3671.Day, .int .i64 x3671.From, .int .i64 x3671.To, v3673]) agg66 rfl sz66 rfl (Blk.cells (H.item (i := 11) rfl))) rfl) ?_
                    refine RL_do rfl rfl (Do_move (v := .string (bs p2)) rfl) ?_
                    have H3679 := H
                    obtain ⟨⟨x3680, x3681⟩, e3682, hF⟩ := bindO_some hF
                    refine RL_call rfl rfl (DoC_func en26 rfl) (F_fleet_peak_w x3671 p2 v3673 _ e3682 _ _ _ (H.enter [] [12] (by decide) rfl)) ?_
                    rintro _ w3683 ⟨rfl, G3684⟩
                    have H := H3679.step (G3684.only : Only [] _ _)
                    refine ⟨_, rfl, ?_⟩
                    refine RL_do rfl rfl (Do_move (v := .tuple #[.int .i64 x3680, .bool x3681]) rfl) ?_
                    refine RL_do rfl rfl (Do_extract (v := .int .i64 x3680) rfl rfl) ?_
                    refine RL_do rfl rfl (Do_extract (v := .bool x3681) rfl rfl) ?_
                    refine RL_do rfl rfl (Do_assign (v := .int .i64 x3680) rfl) ?_
                    refine RL_do rfl rfl (Do_assign (v := .bool x3681) rfl) ?_
                    refine (RL_nil (thenQ_n (hK3678 _ _ ?_)))
                    refine WP_seq_k fun K3689 hK3689 => ?_
                    refine WP_seq_k fun K3690 hK3690 => ?_
                    refine WP_region ?_
                    refine RL_do rfl rfl (Do_move (v := .bool x3681) rfl) ?_
                    obtain ⟨x3691, e3692, hF⟩ := letO_some hF
                    refine RL_do rfl rfl (Do_as (Do_not (p := x3681) rfl) (congrArg Value.bool e3692)) ?_
                    refine (RL_nil (thenQ_n (hK3690 _ _ ?_)))
                    refine WP_ifb (b := x3691) rfl (fun c3693 => ?_) (fun c3693 => ?_)
                    · have hF := iteB_t c3693 hF
                      have hR := Option.some.inj hF
                      subst hR
                      refine (WP_exit (thenQ_x (blockQ_eq (thenQ_n (And.intro ?_ ?_)))))
                      · repeat' (first | with_reducible exact Fr_refl | refine Fr_upd rfl ?_ | refine Fr_over rfl rfl ?_)
                      · exact ⟨(v3501, v3504), (Sl_cons rfl (Sl_cons rfl Sl_nil)), H.pick [0, 1, 2, 3, 4, 5, 6, 7, 8] (by decide)⟩
                    · have hF := iteB_f c3693 hF
                      refine (WP_skip (thenQ_n (hK3689 _ _ ?_)))
                      refine WP_seq_k fun K3694 hK3694 => ?_
                      refine WP_region ?_
                      refine RL_do rfl rfl (Do_as (Do_loads (cs := [.string (bs x3671.Tail), .string (bs x3671.Route), .int .i64 x3671.Day, .int .i64 x3671.From, .int .i64 x3671.To, v3673]) agg66 rfl sz66 rfl (Blk.cells (H.item (i := 11) rfl))) rfl) ?_
                      refine RL_do rfl rfl (Do_move (v := .string (bs p2)) rfl) ?_
                      obtain ⟨x3695, e3696, hF⟩ := bindO_some hF
                      refine RL_call rfl rfl (DoC_func en27 rfl) (F_fleet_trackOf_w x3671 p2 v3673 _ e3696 _ _ _ (H.enter [] [12] (by decide) rfl)) ?_
                      rintro _ w3699 ⟨v3697, rfl, G3700⟩
                      have H := H.back1 [12] rfl G3700
                      refine ⟨_, rfl, ?_⟩
                      obtain ⟨x3701, e3702, hF⟩ := bindO_some hF
                      obtain ⟨b3703, o3704, cs3705, q3706, h3707, h3708, h3709, h3710⟩ := ptf_some ((H.item (i := 13) rfl) : PtF _ _ _ _ _) e3702
                      obtain ⟨v3711, rfl, h3712⟩ := rTrack_open h3709
                      have H := H.fzs [.at b3703 o3704 _, .sl rSample v3711 x3701.Series.Samples] ⟨⟨h3707, h3708, h3710⟩, h3712, trivial⟩
                      refine RL_do rfl rfl (Do_nilCheck (ad := ⟨b3703, o3704, none⟩) (congrArg Value.pointer q3706)) ?_
                      refine RL_do rfl rfl (fa74_1 rfl) ?_
                      refine RL_do rfl rfl (fa72_0 rfl) ?_
                      refine RL_do rfl rfl (Do_load one3 rfl (Cells.get (H.item (i := 14) rfl).2.2 (i := 1) rfl)) ?_
                      refine RL_do rfl rfl (Do_assign (v := .int .i64 x3701.Series.Den) rfl) ?_
                      refine (RL_nil (thenQ_n (hK3694 _ _ ?_)))
                      obtain ⟨g3721, hF, hK3723⟩ := bindO_some hF
                      refine WP_seqS [14, 74, 75, 76, 77, 78, 79, 80, 81, 82, 83] (fun (g : Unit) => [(14, .bool g3721)]) (fun g wl => Hd O w wl S [.own rFleetPeaks v2488 44 g2487, .fz (.sl (Rp.sl rFlight) v1 p0), .blk b9 [.bool p1.Tails, .int .i64 p1.Days, v3, v4, .int .i64 p1.Least] 26, .fz (.sl Rp.str v3 p1.Hide), .fz (.sl rGrain v4 p1.Grains), .fz (.sl rFlight v2871 x2860), .blk b2876 [v3501, v3504, .int .i64 0] 44, .own (Rp.int .i64) v3501 3 g3500, .own (Rp.int .i64) v3504 3 g3503]) ?_ ?_
                      · skip
                        refine WP_region ?_
                        refine RL_do rfl rfl (Do_move (v := .bool g3497) rfl) ?_
                        refine RL_splitb (b := g3497) rfl rfl rfl (fun c3724 => ?_) (fun c3724 => ?_)
                        · have hF := iteB_t c3724 hF
                          refine RL_off rfl rfl ?_
                          refine RL_off rfl rfl ?_
                          refine RL_off rfl rfl ?_
                          refine RL_off rfl rfl ?_
                          refine RL_off rfl rfl ?_
                          refine RL_off rfl rfl ?_
                          refine RL_off rfl rfl ?_
                          refine RL_do rfl rfl (Do_pick_t (v := .bool true) rfl rfl) ?_
                          refine RL_do rfl rfl (Do_assign (v := .bool true) rfl) ?_
                          have hR := Option.some.inj hF
                          subst hR
                          refine (RL_nil (thenQ_n (And.intro ?_ ?_)))
                          · repeat' (first | with_reducible exact Fr_refl | refine Fr_upd rfl ?_ | refine Fr_over rfl rfl ?_)
                          · exact ⟨(), (Sl_cons rfl Sl_nil), H.pick [0, 1, 2, 3, 4, 5, 6, 7, 8] (by decide)⟩
                        · have hF := iteB_f c3724 hF
                          refine RL_do rfl rfl (Do_move (v := .int .i64 g3496) rfl) ?_
                          obtain ⟨x3725, e3726, hF⟩ := letO_some hF
                          refine RL_do rfl rfl (Do_as (Do_neq (a := g3496) (b := 0) rfl rfl) (congrArg Value.bool e3726)) ?_
                          refine RL_splitb (b := x3725) rfl rfl rfl (fun c3727 => ?_) (fun c3727 => ?_)
                          · have hF := iteB_t c3727 hF
                            refine RL_do rfl rfl (Do_move (v := .int .i64 x3701.Series.Den) rfl) ?_
                            refine RL_do rfl rfl (Do_move (v := .int .i64 g3496) rfl) ?_
                            obtain ⟨x3728, e3729, hF⟩ := letO_some hF
                            refine RL_do rfl rfl (Do_as (Do_neq (a := x3701.Series.Den) (b := g3496) rfl rfl) (congrArg Value.bool e3729)) ?_
                            refine RL_do rfl rfl (Do_pick_t (v := .bool x3728) rfl rfl) ?_
                            refine RL_do rfl rfl (Do_pick_f (v := .bool x3728) rfl rfl) ?_
                            refine RL_do rfl rfl (Do_assign (v := .bool x3728) rfl) ?_
                            have hR := Option.some.inj hF
                            subst hR
                            refine (RL_nil (thenQ_n (And.intro ?_ ?_)))
                            · repeat' (first | with_reducible exact Fr_refl | refine Fr_upd rfl ?_ | refine Fr_over rfl rfl ?_)
                            · exact ⟨(), (Sl_cons rfl Sl_nil), H.pick [0, 1, 2, 3, 4, 5, 6, 7, 8] (by decide)⟩
                          · have hF := iteB_f c3727 hF
                            refine RL_off rfl rfl ?_
                            refine RL_off rfl rfl ?_
                            refine RL_off rfl rfl ?_
                            refine RL_do rfl rfl (Do_pick_f (v := .bool false) rfl rfl) ?_
                            refine RL_do rfl rfl (Do_pick_f (v := .bool false) rfl rfl) ?_
                            refine RL_do rfl rfl (Do_assign (v := .bool false) rfl) ?_
                            have hR := Option.some.inj hF
                            subst hR
                            refine (RL_nil (thenQ_n (And.intro ?_ ?_)))
                            · repeat' (first | with_reducible exact Fr_refl | refine Fr_upd rfl ?_ | refine Fr_over rfl rfl ?_)
                            · exact ⟨(), (Sl_cons rfl Sl_nil), H.pick [0, 1, 2, 3, 4, 5, 6, 7, 8] (by decide)⟩
                      · rintro _ ρ w3722 H
                        have hF := hK3723
                        refine WP_seq_k fun K3730 hK3730 => ?_
                        refine WP_region ?_
                        refine RL_do rfl rfl (Do_move (v := .int .i64 x3701.Series.Den) rfl) ?_
                        refine RL_do rfl rfl (Do_assign (v := .int .i64 x3701.Series.Den) rfl) ?_
                        refine (RL_nil (thenQ_n (hK3730 _ _ ?_)))
                        have H3731 := H
                        have H := H.rebase
                        have H3732 := H
                        have H3733 : Hd (O ++ bks (rest [0, 2, 7, 8] [.own rFleetPeaks v2488 44 g2487, .fz (.sl (Rp.sl rFlight) v1 p0), .blk b9 [.bool p1.Tails, .int .i64 p1.Days, v3, v4, .int .i64 p1.Least] 26, .fz (.sl Rp.str v3 p1.Hide), .fz (.sl rGrain v4 p1.Grains), .fz (.sl rFlight v2871 x2860), .blk b2876 [v3501, v3504, .int .i64 0] 44, .own (Rp.int .i64) v3501 3 g3500, .own (Rp.int .i64) v3504 3 g3503])) w3722 w3722 (bks (Go.Lf.pick ([0, 2, 7, 8] ++ [1, 3, 4, 5]) [.own rFleetPeaks v2488 44 g2487, .fz (.sl (Rp.sl rFlight) v1 p0), .blk b9 [.bool p1.Tails, .int .i64 p1.Days, v3, v4, .int .i64 p1.Least] 26, .fz (.sl Rp.str v3 p1.Hide), .fz (.sl rGrain v4 p1.Grains), .fz (.sl rFlight v2871 x2860), .blk b2876 [v3501, v3504, .int .i64 0] 44, .own (Rp.int .i64) v3501 3 g3500, .own (Rp.int .i64) v3504 3 g3503])) [.own rFleetPeaks v2488 44 g2487, .blk b9 [.bool p1.Tails, .int .i64 p1.Days, v3, v4, .int .i64 p1.Least] 26, .own (Rp.int .i64) v3501 3 g3500, .own (Rp.int .i64) v3504 3 g3503, .fz (.sl (Rp.sl rFlight) v1 p0), .fz (.sl Rp.str v3 p1.Hide), .fz (.sl rGrain v4 p1.Grains), .fz (.sl rFlight v2871 x2860)] := H.enter [0, 2, 7, 8] [1, 3, 4, 5] (by decide) rfl
                        have h3734 := H.firmB H3733 (i := 6) rfl (List.mem_append_right _ List.mem_cons_self)
                        refine WP_forkM H H3733 [0, 1, 2, 5, 6, 7, 3] 8 4 [10, 9] [11, 12, 13] [.pure, .pure, .pure, .mk (World.heap w3722).size, .eff, .pure, .pure, .pure, .mk (World.heap w3722).size, .eff, .pure, .eff, .pure, .eff] ⟨trivial, trivial, trivial, rfl, trivial, trivial, trivial, trivial, rfl, trivial, trivial, trivial, trivial, trivial, trivial⟩ mixed (by kernel_rfl) (by kernel_rfl) (by kernel_rfl) (by kernel_rfl) (by kernel_rfl) (by decide) ?_
                        have H := Hd.hm H3733
                        refine MxM.XL_pure rfl rfl rfl (fun w' hw' => fa44_0 rfl) ?_
                        refine MxM.XL_pure rfl rfl rfl (fun w' hw' => Do_load one42 rfl (Cells.get (Blk.cells (h3734 w' hw')) (i := 0) rfl)) ?_
                        refine MxM.XL_pure rfl rfl rfl (fun w' hw' => Do_move (v := .int .i64 x3680) rfl) ?_
                        refine MxM.XL_pure rfl rfl rfl (fun w' hw' => fa44_1 rfl) ?_
                        refine MxM.XL_pure rfl rfl rfl (fun w' hw' => Do_load one42 rfl (Cells.get (Blk.cells (h3734 w' hw')) (i := 1) rfl)) ?_
                        refine MxM.XL_pure rfl rfl rfl (fun w' hw' => Do_move (v := .int .i64 g3498) rfl) ?_
                        obtain ⟨x3735, e3736, hF⟩ := letO_some hF
                        subst e3736
                        refine H.bs_rule (r := (Rp.int .i64)) (xl := [x3680]) (cs := [.int .i64 x3680]) rfl rfl rfl rfl u42 el3 (by decide) (by decide) rfl (fillB_parts (vs := [.int .i64 x3680]) (by decide) rfl rfl ⟨rfl, trivial⟩ rfl) ⟨[.int .i64 x3680], [], rfl, rfl, rfl⟩ ?_
                        rintro v3738 b3739 w3740 H
                        refine MxM.XL_nil fun w3741 hS => ?_
                        have H := H.sees hS
                        obtain ⟨x3752, e3753, hF⟩ := letO_some hF
                        obtain ⟨x3754, e3755, hF⟩ := bindO_some hF
                        refine MxM.XL_join (du := 93) (dv := 89) (fun v3757 v3760 wl => Hd (O ++ bks (rest [0, 2, 7, 8] [.own rFleetPeaks v2488 44 g2487, .fz (.sl (Rp.sl rFlight) v1 p0), .blk b9 [.bool p1.Tails, .int .i64 p1.Days, v3, v4, .int .i64 p1.Least] 26, .fz (.sl Rp.str v3 p1.Hide), .fz (.sl rGrain v4 p1.Grains), .fz (.sl rFlight v2871 x2860), .blk b2876 [v3501, v3504, .int .i64 0] 44, .own (Rp.int .i64) v3501 3 g3500, .own (Rp.int .i64) v3504 3 g3503])) w3722 wl (bks (Go.Lf.pick ([0, 2, 7, 8] ++ [1, 3, 4, 5]) [.own rFleetPeaks v2488 44 g2487, .fz (.sl (Rp.sl rFlight) v1 p0), .blk b9 [.bool p1.Tails, .int .i64 p1.Days, v3, v4, .int .i64 p1.Least] 26, .fz (.sl Rp.str v3 p1.Hide), .fz (.sl rGrain v4 p1.Grains), .fz (.sl rFlight v2871 x2860), .blk b2876 [v3501, v3504, .int .i64 0] 44, .own (Rp.int .i64) v3501 3 g3500, .own (Rp.int .i64) v3504 3 g3503])) [.own rFleetPeaks v2488 44 g2487, .blk b9 [.bool p1.Tails, .int .i64 p1.Days, v3, v4, .int .i64 p1.Least] 26, .own (Rp.int .i64) v3760 3 x3754, .own (Rp.int .i64) v3504 3 g3503, .fz (.sl (Rp.sl rFlight) v1 p0), .fz (.sl Rp.str v3 p1.Hide), .fz (.sl rGrain v4 p1.Grains), .fz (.sl rFlight v2871 x2860), .own (Rp.int .i64) v3738 3 ([x3680] : List Int), .own (Rp.int .i64) v3757 3 ([g3498] : List Int)]) ?_ ?_ ?_
                        · skip
                          subst e3753
                          refine H.bs_rule (r := (Rp.int .i64)) (xl := [g3498]) (cs := [.int .i64 g3498]) rfl rfl rfl rfl u42 el3 (by decide) (by decide) rfl (fillB_parts (vs := [.int .i64 g3498]) (by decide) rfl rfl ⟨rfl, trivial⟩ rfl) ⟨[.int .i64 g3498], [], rfl, rfl, rfl⟩ ?_
                          rintro v3757 b3758 w3759 H
                          have H := H.hd
                          refine MxM.XL_ex oS rfl rfl rfl (fun w' hw' => Lx_app (H.sees hw') (i := 2) rfl u42 el3 rfl rfl (Sr.of_own ((H.sees hw').item (i := 8) rfl)) e3755) ?_
                          rintro w' v3760 w3761 hw' H
                          refine ⟨H.only, ?_⟩
                          refine MxM.XL_nil fun w3762 hS => ?_
                          have H := H.sees hS
                          exact ⟨v3757, v3760, rfl, H.only, H⟩
                        · skip
                          have H := H.hd
                          refine MxM.XL_exA oS rfl rfl rfl (fun w' hw' => Lx_app (H.sees hw') (i := 2) rfl u42 el3 rfl rfl (Sr.of_own ((H.sees hw').item (i := 8) rfl)) e3755) ?_
                          rintro w' v3763 w3764 hw' H
                          refine ⟨H.only, ?_⟩
                          subst e3753
                          refine H.bs_ruleA (r := (Rp.int .i64)) (xl := [g3498]) (cs := [.int .i64 g3498]) rfl rfl rfl u42 el3 (by decide) (by decide) rfl (fillB_parts (vs := [.int .i64 g3498]) (by decide) rfl rfl ⟨rfl, trivial⟩ rfl) ⟨[.int .i64 g3498], [], rfl, rfl, rfl⟩ ?_
                          rintro _ v3766 w3767 H
                          refine MxM.XL_nil fun w3768 hS => ?_
                          have H := H.sees hS
                          exact ⟨v3766, v3763, MxM.upd_comm _ (by decide) _ _, H.only, H⟩
                        · rintro M' v3757 v3760 w3769 H
                          refine MxM.XL_pure rfl rfl rfl (fun w' hw' => fa44_0 rfl) ?_
                          obtain ⟨x3770, e3771, hF⟩ := bindO_some hF
                          refine MxM.XL_ex oS rfl rfl rfl (fun w' hw' => Lx_app (H.sees hw') (i := 3) rfl u42 el3 rfl rfl (Sr.of_own ((H.sees hw').item (i := 9) rfl)) e3771) ?_
                          rintro w' v3772 w3773 hw' H
                          refine ⟨H.only, ?_⟩
                          refine MxM.XL_nil fun w3774 hS => ?_
                          have H := H.sees hS
                          have H := H3732.back [0, 2, 7, 8] [1, 3, 4, 5] rfl H
                          have H : Hd O w3722 w3774 (bks [.own rFleetPeaks v2488 44 g2487, .fz (.sl (Rp.sl rFlight) v1 p0), .blk b9 [.bool p1.Tails, .int .i64 p1.Days, v3, v4, .int .i64 p1.Least] 26, .fz (.sl Rp.str v3 p1.Hide), .fz (.sl rGrain v4 p1.Grains), .fz (.sl rFlight v2871 x2860), .blk b2876 [v3501, v3504, .int .i64 0] 44, .own (Rp.int .i64) v3501 3 g3500, .own (Rp.int .i64) v3504 3 g3503]) [.blk b2876 [v3501, v3504, .int .i64 0] 44, .own rFleetPeaks v2488 44 g2487, .blk b9 [.bool p1.Tails, .int .i64 p1.Days, v3, v4, .int .i64 p1.Least] 26, .own (Rp.int .i64) v3760 3 x3754, .own (Rp.int .i64) v3772 3 x3770, .fz (.sl (Rp.sl rFlight) v1 p0), .fz (.sl Rp.str v3 p1.Hide), .fz (.sl rGrain v4 p1.Grains), .fz (.sl rFlight v2871 x2860), .own (Rp.int .i64) v3738 3 ([x3680] : List Int), .own (Rp.int .i64) v3757 3 ([g3498] : List Int)] := H.pick [4, 5, 6, 7, 8, 9, 10, 11, 12, 13, 14] (by decide)
                          refine ⟨H.only, ?_⟩
                          refine MxM.XL_exU oS rfl rfl (fun w' hw' => Lx_store1 (H.sees hw') 0 rfl sz42 rfl (v := v3760) rfl (own_one ((H.sees hw').item (i := 3) rfl)) rfl) ?_
                          rintro w' w3775 hw' H
                          refine ⟨H.only, ?_⟩
                          refine MxM.XL_pure rfl rfl rfl (fun w' hw' => fa44_1 rfl) ?_
                          refine MxM.XL_exU oS rfl rfl (fun w' hw' => Lx_store1 (H.sees hw') 0 rfl sz42 rfl (v := v3772) rfl (own_one ((H.sees hw').item (i := 4) rfl)) rfl) ?_
                          rintro w' w3776 hw' H
                          refine ⟨H.only, ?_⟩
                          refine MxM.XL_nil fun w3777 hS => ?_
                          have H := H.sees hS
                          have H := H3731.rejoin H
                          have hR := Option.some.inj hF
                          subst hR
                          refine (blockQ_n (thenQ_n (And.intro ?_ ?_)))
                          · repeat' (first | with_reducible exact Fr_refl | refine Fr_upd rfl ?_ | refine Fr_over rfl rfl ?_)
                          · exact ⟨(v3760, v3772), (Sl_cons rfl (Sl_cons rfl Sl_nil)), H.pick [1, 5, 2, 6, 7, 8, 0, 3, 4] (by decide)⟩
                  · rintro ⟨v3644, v3646⟩ ρ w3647 H
                    have hF := hK3648
                    obtain ⟨g3641, g3642, g3643, g3645⟩ := j3649
                    refine WP_region ?_
                    obtain ⟨x3778, e3779, hF⟩ := letO_some hF
                    refine RL_do rfl rfl (Do_add (a := g3498) (b := 1) rfl rfl e3779) ?_
                    refine RL_do rfl rfl (Do_move (v := .int .i64 x3778) rfl) ?_
                    refine (RL_nil (thenQ_n (And.intro ?_ ?_)))
                    · repeat' (first | with_reducible exact Fr_refl | refine Fr_upd rfl ?_ | refine Fr_over rfl rfl ?_)
                    · exact ⟨(n3512, g3641, g3642, x3778, g3643, g3645, v3644, v3646), (Sl_cons rfl (Sl_cons rfl (Sl_cons rfl Sl_nil))), ⟨H.pick [0, 1, 2, 3, 4, 5, 6, 7, 8] (by decide), hF⟩, Nat.lt_succ_self _⟩
                · have hF := iteB_f c3518 hF
                  have hR := Option.some.inj hF
                  subst hR
                  refine (WP_exit (thenQ_x (thenQ_x (blockQ_eq (thenQ_n (And.intro ?_ ?_))))))
                  · repeat' (first | with_reducible exact Fr_refl | refine Fr_upd rfl ?_ | refine Fr_over rfl rfl ?_)
                  · exact ⟨(v3501, v3504), (Sl_cons rfl (Sl_cons rfl Sl_nil)), H.pick [0, 1, 2, 3, 4, 6, 7, 8] (by decide)⟩
              · rintro ⟨v3190, v3193⟩ ρ w3194 H
                have hF := hK3195
                obtain ⟨g3186, g3187, g3189, g3192⟩ := j3196
                refine WP_region ?_
                refine RL_do rfl rfl (Do_move (v := v2488) rfl) ?_
                refine RL_do rfl rfl (Do_as (Do_loads (cs := [v3190, v3193, .int .i64 0]) agg44 rfl sz44 rfl (Blk.cells (H.item (i := 5) rfl))) rfl) ?_
                have H := H.freeze (i := 6) rfl
                have H := H.freeze (i := 7) rfl
                obtain ⟨x3780, e3781, hF⟩ := letO_some hF
                subst e3781
                refine RL_ex rfl rfl (Lx_bs (r := rFleetPeaks) (xl := [FleetPeaks.mk g3189 g3192 0]) (cs := [v3190, v3193, .int .i64 0]) u36 el44 (by decide) (by decide) rfl (fillB_parts (vs := [.agg [v3190, v3193, .int .i64 0].toArray]) (by decide) rfl rfl ⟨rfl, trivial⟩ rfl) H ⟨[v3190, v3193, .int .i64 0], [], rfl, (rFleetPeaks_mk (x := FleetPeaks.mk g3189 g3192 0) (H.item (i := 6) rfl) (H.item (i := 7) rfl)), rfl⟩) ?_
                rintro v3783 w3784 H
                obtain ⟨x3785, e3786, hF⟩ := bindO_some hF
                refine RL_ex rfl rfl (Lx_app H (i := 0) rfl u36 el44 rfl rfl (Sr.of_own (H.item (i := 8) rfl)) e3786) ?_
                rintro v3787 w3788 H
                refine RL_do rfl rfl (Do_assign (v := v3787) rfl) ?_
                have hR := Option.some.inj hF
                subst hR
                refine (RL_nil (blockQ_n (thenQ_n (And.intro ?_ ?_))))
                · repeat' (first | with_reducible exact Fr_refl | refine Fr_upd rfl ?_ | refine Fr_over rfl rfl ?_)
                · exact ⟨v3787, (Sl_cons rfl (Sl_cons rfl (Sl_cons rfl Sl_nil))), H.pick [0, 1, 2, 3, 4] (by decide)⟩
            · rintro v2853 ρ w2856 H
              have hF := hK2857
              obtain ⟨g2852, g2854, g2855⟩ := j2858
              refine WP_region ?_
              obtain ⟨x3789, e3790, hF⟩ := letO_some hF
              refine RL_do rfl rfl (Do_add (a := g2491) (b := 1) rfl rfl e3790) ?_
              refine RL_do rfl rfl (Do_move (v := .int .i64 x3789) rfl) ?_
              refine (RL_nil (thenQ_n (And.intro ?_ ?_)))
              · repeat' (first | with_reducible exact Fr_refl | refine Fr_upd rfl ?_ | refine Fr_over rfl rfl ?_)
              · exact ⟨(n2498, g2852, g2854, g2855, x3789, v2853), (Sl_cons rfl (Sl_cons rfl (Sl_cons rfl (Sl_cons rfl Sl_nil)))), ⟨H.pick [0, 1, 2, 3, 4] (by decide), hF⟩, Nat.lt_succ_self _⟩
          · have hF := iteB_f c2504 hF
            have hR := Option.some.inj hF
            subst hR
            refine (WP_exit (thenQ_x (thenQ_x (blockQ_eq (thenQ_n (And.intro ?_ ?_))))))
            · repeat' (first | with_reducible exact Fr_refl | refine Fr_upd rfl ?_ | refine Fr_over rfl rfl ?_)
            · exact ⟨v2488, (Sl_cons rfl (Sl_cons rfl Sl_nil)), H.pick [0, 2, 3, 4] (by decide)⟩
        · rintro v1448 ρ w1450 H
          have hF := hK1451
          obtain ⟨g1447, g1449⟩ := j1452
          refine WP_seq_k fun K3798 hK3798 => ?_
          refine WP_seq_k fun K3799 hK3799 => ?_
          refine WP_region ?_
          refine RL_do rfl rfl (Do_move (v := v1448) rfl) ?_
          refine RL_do rfl rfl (Do_makeFunc rfl) ?_
          have H := H.freeze (i := 0) rfl
          obtain ⟨x3800, e3801, hF⟩ := bindO_some hF
          refine RL_call rfl rfl (DoC_func en28 rfl) (F_slices_ContainsFunc___fleet_peaks_fleet_peaks__fleet_peaksOf_1_w g1447 p1 v1448 b9 v3 v4 _ e3801 _ _ _ (H.enter [1] [0, 2, 3] (by decide) rfl)) ?_
          rintro _ w3802 ⟨rfl, G3803⟩
          have H : Hd O _ w3802 _ [.fz (.sl rFleetPeaks v1448 g1447), .fz (.sl Rp.str v3 p1.Hide), .fz (.sl rGrain v4 p1.Grains), .blk b9 [.bool p1.Tails, .int .i64 p1.Days, v3, v4, .int .i64 p1.Least] 26] := H.back [1] [0, 2, 3] rfl G3803
          refine ⟨_, rfl, ?_⟩
          refine (RL_nil (thenQ_n (hK3799 _ _ ?_)))
          refine WP_ifb (b := x3800) rfl (fun c3804 => ?_) (fun c3804 => ?_)
          · have hF := iteB_t c3804 hF
            refine WP_seq_k fun K3805 hK3805 => ?_
            refine WP_region ?_
            refine RL_do rfl rfl (Do_assign (v := .slice none 0 0) rfl) ?_
            refine RL_do rfl rfl (Do_assign (v := .int .i64 4) rfl) ?_
            refine (RL_nil (thenQ_n (hK3805 _ _ ?_)))
            have H := H.fz (.sl rFleetPeaks (.slice none 0 0) []) SlF.nil
            have hR := Option.some.inj hF
            subst hR
            refine (WP_ret (thenQ_r (post2 (v1 := .slice none 0 0) (v2 := .int .i64 4) rfl rfl rfl ?_)))
            exact ⟨.slice none 0 0, rfl, H.pick [4] (by decide)⟩
          · have hF := iteB_f c3804 hF
            refine (WP_skip (thenQ_n (hK3798 _ _ ?_)))
            refine WP_seq_k fun K3810 hK3810 => ?_
            refine WP_seq_k fun K3811 hK3811 => ?_
            refine WP_region ?_
            refine RL_do rfl rfl (Do_move (v := .bool g1449) rfl) ?_
            refine (RL_nil (thenQ_n (hK3811 _ _ ?_)))
            refine WP_ifb (b := g1449) rfl (fun c3812 => ?_) (fun c3812 => ?_)
            · have hF := iteB_t c3812 hF
              refine WP_seq_k fun K3813 hK3813 => ?_
              refine WP_region ?_
              refine RL_do rfl rfl (Do_assign (v := .slice none 0 0) rfl) ?_
              refine RL_do rfl rfl (Do_assign (v := .int .i64 2) rfl) ?_
              refine (RL_nil (thenQ_n (hK3813 _ _ ?_)))
              have H := H.fz (.sl rFleetPeaks (.slice none 0 0) []) SlF.nil
              have hR := Option.some.inj hF
              subst hR
              refine (WP_ret (thenQ_r (post2 (v1 := .slice none 0 0) (v2 := .int .i64 2) rfl rfl rfl ?_)))
              exact ⟨.slice none 0 0, rfl, H.pick [4] (by decide)⟩
            · have hF := iteB_f c3812 hF
              refine (WP_skip (thenQ_n (hK3810 _ _ ?_)))
              refine WP_seq_k fun K3815 hK3815 => ?_
              refine WP_region ?_
              refine RL_do rfl rfl (Do_move (v := v1448) rfl) ?_
              refine RL_do rfl rfl (Do_assign (v := v1448) rfl) ?_
              refine RL_do rfl rfl (Do_assign (v := .int .i64 0) rfl) ?_
              refine (RL_nil (thenQ_n (hK3815 _ _ ?_)))
              have hR := Option.some.inj hF
              subst hR
              refine (WP_ret (post2 (v1 := v1448) (v2 := .int .i64 0) rfl rfl rfl ?_))
              exact ⟨v1448, rfl, H.pick [0] (by decide)⟩
end Go.Proofs.YtbjhondbheijiaaGreat.L
namespace Go.Proofs.YtbjhondbheijiaaGreat.L
open Go.RowKit Go.OB Go.Lf
/- slices.Clone[[]int,int] -/
set_option maxHeartbeats 4000000 in
theorem F_slices_Clone___int_int__w (p0 : List Int) (v1 : Value) (r : (List Int)) (hF : F_slices_Clone___int_int_ p0 = some r) (O S : List Nat) (w : World) (H : Hd O w w S [.fz (.sl (Rp.int .i64) v1 p0)]) :
    Calls Tryz.prog 30 ([v1] : List Value).toArray w fun e w' => ∃ u3, e = .returned (u3) ∧ Hd O w w' S [.own (Rp.int .i64) u3 3 r] := by
  unfold F_slices_Clone___int_int_ at hF
  refine calls_of_WP 8 Tryz.func30 rfl rfl rfl ?_
  refine WP_seq_k fun K4 hK4 => ?_
  refine WP_region ?_
  refine RL_do rfl rfl (Do_assign (v := .slice none 0 0) rfl) ?_
  refine (RL_nil (thenQ_n (hK4 _ _ ?_)))
  refine WP_seq_k fun K13 hK13 => ?_
  refine WP_seq_k fun K14 hK14 => ?_
  refine WP_region ?_
  refine RL_do rfl rfl (Do_move (v := v1) rfl) ?_
  obtain ⟨a15, c16, q17, e190⟩ := slf_nilq (H.item (i := 0) rfl)
  obtain ⟨x18, e19, hF⟩ := nilO_some hF e190
  refine RL_do rfl rfl (Do_as (Do_eqlnils u42 q17 rfl) (congrArg Value.bool e19)) ?_
  refine (RL_nil (thenQ_n (hK14 _ _ ?_)))
  refine WP_ifb (b := x18) rfl (fun c20 => ?_) (fun c20 => ?_)
  · have hF := iteB_t c20 hF
    refine WP_seq_k fun K21 hK21 => ?_
    refine WP_region ?_
    refine RL_do rfl rfl (Do_assign (v := .slice none 0 0) rfl) ?_
    refine (RL_nil (thenQ_n (hK21 _ _ ?_)))
    have H := own_nil H (Rp.int .i64) 3
    have hR := Option.some.inj hF
    subst hR
    refine (WP_ret (thenQ_r (post1 (v1 := .slice none 0 0) rfl rfl ?_)))
    exact ⟨.slice none 0 0, rfl, H.pick [1] (by decide)⟩
  · have hF := iteB_f c20 hF
    refine (WP_skip (thenQ_n (hK13 _ _ ?_)))
    refine WP_seq_k fun K23 hK23 => ?_
    refine WP_region ?_
    refine RL_ex rfl rfl (Lx_bs0 (r := (Rp.int .i64)) u42 el3 H) ?_
    rintro v25 w26 H
    refine RL_do rfl rfl (Do_move (v := v1) rfl) ?_
    obtain ⟨x27, e28, hF⟩ := bindO_some hF
    refine RL_ex rfl rfl (Lx_app H (i := 1) rfl u42 el3 rfl rfl (Sr.of_rd (H.item (i := 0) rfl)) e28) ?_
    rintro v29 w30 H
    refine RL_do rfl rfl (Do_assign (v := v29) rfl) ?_
    refine (RL_nil (thenQ_n (hK23 _ _ ?_)))
    have hR := Option.some.inj hF
    subst hR
    refine (WP_ret (post1 (v1 := v29) rfl rfl ?_))
    exact ⟨v29, rfl, H.pick [1] (by decide)⟩
end Go.Proofs.YtbjhondbheijiaaGreat.L
namespace Go.Proofs.YtbjhondbheijiaaGreat.L
open Go.RowKit Go.OB Go.Lf
/- orangebox/fleet.quantile -/
set_option maxHeartbeats 4000000 in
theorem F_fleet_quantile_w (p0 : List Int) (p1 : Int) (p2 : Int) (v1 : Value) (r : Int) (hF : F_fleet_quantile p0 p1 p2 = some r) (O S : List Nat) (w : World) (H : Hd O w w S [.fz (.sl (Rp.int .i64) v1 p0)]) :
    Calls Tryz.prog 11 ([v1, .int .i64 p1, .int .i64 p2] : List Value).toArray w fun e w' => e = .returned (.int .i64 r) ∧ Hd O w w' S [] := by
  unfold F_fleet_quantile at hF
  refine calls_of_WP 27 Tryz.func11 rfl rfl rfl ?_
  refine WP_seq_k fun K3 hK3 => ?_
  refine WP_region ?_
  refine RL_do rfl rfl (Do_assign (v := .int .i64 0) rfl) ?_
  refine (RL_nil (thenQ_n (hK3 _ _ ?_)))
  refine WP_seq_k fun K4 hK4 => ?_
  refine WP_region ?_
  refine RL_do rfl rfl (Do_move (v := v1) rfl) ?_
  obtain ⟨x5, e6, hF⟩ := bindO_some hF
  refine RL_call rfl rfl (DoC_func en30 rfl) (F_slices_Clone___int_int__w p0 v1 _ e6 _ _ _ (H.enter [] [0] (by decide) rfl)) ?_
  rintro _ w9 ⟨v7, rfl, G10⟩
  have H := H.back1 [0] rfl G10
  refine ⟨_, rfl, ?_⟩
  refine RL_do rfl rfl (Do_assign (v := v7) rfl) ?_
  refine (RL_nil (thenQ_n (hK4 _ _ ?_)))
  refine WP_seq_k fun K11 hK11 => ?_
  refine WP_region ?_
  refine RL_do rfl rfl (Do_move (v := v7) rfl) ?_
  obtain ⟨x12, e13, hF⟩ := bindO_some hF
  refine RL_call rfl rfl (DoC_func en31 rfl) (E.X_Sort_w x5 v7 _ e13 _ _ _ (H.enter [1] [] (by decide) rfl)) ?_
  rintro _ w14 ⟨rfl, G15⟩
  have H : Hd O _ w14 _ [.fz (.sl (Rp.int .i64) v1 p0), .own (Rp.int .i64) v7 3 x12] := H.back [1] [] rfl G15
  refine ⟨_, rfl, ?_⟩
  refine (RL_nil (thenQ_n (hK11 _ _ ?_)))
  refine WP_seq_k fun K16 hK16 => ?_
  refine WP_region ?_
  refine RL_do rfl rfl (Do_move (v := .int .i64 p1) rfl) ?_
  refine RL_do rfl rfl (Do_move (v := v7) rfl) ?_
  obtain ⟨x17, e18, hF⟩ := letO_some hF
  obtain ⟨a19, c20, q21⟩ := Sr.len (Sr.of_own (H.item (i := 1) rfl))
  refine RL_do rfl rfl (Do_as (Do_len u42 q21) (congrArg (Value.int .i64) e18)) ?_
  obtain ⟨x22, e23, hF⟩ := letO_some hF
  refine RL_do rfl rfl (Do_mul (a := p1) (b := x17) rfl rfl e23) ?_
  refine RL_do rfl rfl (Do_move (v := .int .i64 p2) rfl) ?_
  obtain ⟨x24, e25, hF⟩ := letO_some hF
  refine RL_do rfl rfl (Do_add (a := x22) (b := p2) rfl rfl e25) ?_
  obtain ⟨x26, e27, hF⟩ := letO_some hF
  refine RL_do rfl rfl (Do_sub (a := x24) (b := 1) rfl rfl e27) ?_
  refine RL_do rfl rfl (Do_move (v := .int .i64 p2) rfl) ?_
  obtain ⟨x28, e29, hF⟩ := bindO_some hF
  refine RL_do rfl rfl (Do_quo' (j := x26) (q := p2) rfl rfl e29) ?_
  refine RL_do rfl rfl (Do_assign (v := .int .i64 x28) rfl) ?_
  refine (RL_nil (thenQ_n (hK16 _ _ ?_)))
  refine WP_seq_k fun K30 hK30 => ?_
  refine WP_region ?_
  refine RL_do rfl rfl (Do_move (v := v7) rfl) ?_
  refine RL_do rfl rfl (Do_move (v := .int .i64 x28) rfl) ?_
  obtain ⟨x31, e32, hF⟩ := letO_some hF
  refine RL_do rfl rfl (Do_max (j := x28) (q := 1) rfl rfl e32) ?_
  obtain ⟨x33, e34, hF⟩ := letO_some hF
  refine RL_do rfl rfl (Do_sub (a := x31) (b := 1) rfl rfl e34) ?_
  obtain ⟨x35, e36, hF⟩ := bindO_some hF
  obtain ⟨b37, c39, cs40, q41, h44, h45⟩ := own_at (H.item (i := 1) rfl) e36
  obtain rfl : cs40 = [.int .i64 x35] := h44
  refine RL_do rfl rfl (Do_idx u42 sz3 q41 rfl (at_some e36).1 (at_some e36).2.1 rfl rfl) ?_
  refine RL_do rfl rfl (Do_load one3 rfl (Cells.get h45 (i := 0) rfl)) ?_
  refine RL_do rfl rfl (Do_assign (v := .int .i64 x35) rfl) ?_
  refine (RL_nil (thenQ_n (hK30 _ _ ?_)))
  have hR := Option.some.inj hF
  subst hR
  refine (WP_ret (post1 (v1 := .int .i64 x35) rfl rfl ?_))
  exact ⟨rfl, H.pick [] (by decide)⟩
end Go.Proofs.YtbjhondbheijiaaGreat.L
namespace Go.Proofs.YtbjhondbheijiaaGreat.L
open Go.RowKit Go.OB Go.Lf
/- orangebox/fleet.Quantile -/
set_option maxHeartbeats 4000000 in
theorem F_fleet_Quantile_w (p0 : List Flight) (p1 : Mask) (p2 : Str) (p3 : Int) (p4 : Int) (v1 : Value) (v3 : Value) (v4 : Value) (r : Int × Int) (hF : F_fleet_Quantile p0 p1 p2 p3 p4 = some r) (O S : List Nat) (w : World) (H : Hd O w w S [.fz (.sl rFlight v1 p0), .fz (.sl Rp.str v3 p1.Hide), .fz (.sl rGrain v4 p1.Grains)]) :
    Calls Tryz.prog 4 ([v1, .agg [.bool p1.Tails, .int .i64 p1.Days, v3, v4, .int .i64 p1.Least].toArray, .string (bs p2), .int .i64 p3, .int .i64 p4] : List Value).toArray w fun e w' => e = .returned (.tuple #[.int .i64 r.1, .int .i64 r.2]) ∧ Hd O w w' S [] := by
  unfold F_fleet_Quantile at hF
  refine calls_of_WP 41 Tryz.func4 rfl rfl rfl ?_
  refine WP_seq_k fun K7 hK7 => ?_
  refine WP_region ?_
  refine RL_ex rfl rfl (Lx_box (cs := [.bool p1.Tails, .int .i64 p1.Days, v3, v4, .int .i64 p1.Least]) rfl H) ?_
  rintro _ w10 ⟨b8, rfl, H⟩
  refine RL_do rfl rfl (Do_assign (v := .int .i64 0) rfl) ?_
  refine RL_do rfl rfl (Do_assign (v := .int .i64 0) rfl) ?_
  refine (RL_nil (thenQ_n (hK7 _ _ ?_)))
  refine WP_seq_k fun K11 hK11 => ?_
  refine WP_region ?_
  refine RL_do rfl rfl (Do_move (v := v1) rfl) ?_
  obtain ⟨x12, e13, hF⟩ := letO_some hF
  subst e13
  refine RL_ex rfl rfl (Lx_bs (r := (Rp.sl rFlight)) (xl := [p0]) (cs := [v1]) u39 el22 (by decide) (by decide) rfl (fillB_ones rfl rfl ⟨(slf_one (H.item (i := 0) rfl)), trivial⟩) H ⟨[v1], [], rfl, ⟨_, rfl, (H.item (i := 0) rfl)⟩, rfl⟩) ?_
  rintro v15 w16 H
  refine RL_do rfl rfl (Do_as (Do_loads (cs := [.bool p1.Tails, .int .i64 p1.Days, v3, v4, .int .i64 p1.Least]) agg26 rfl sz26 rfl (Blk.cells (H.item (i := 3) rfl))) rfl) ?_
  refine RL_do rfl rfl (Do_move (v := .string (bs p2)) rfl) ?_
  have H := H.freeze (i := 4) rfl
  obtain ⟨⟨x17, x18⟩, e19, hF⟩ := bindO_some hF
  refine RL_call rfl rfl (DoC_func en9 rfl) (F_fleet_peaksOf_w ([p0] : List (List Flight)) p1 p2 v15 v3 v4 _ e19 _ _ _ (H.enter [] [4, 1, 2] (by decide) rfl)) ?_
  rintro _ w22 ⟨v20, rfl, G23⟩
  have H := H.back1 [4, 1, 2] rfl G23
  refine ⟨_, rfl, ?_⟩
  refine RL_do rfl rfl (Do_move (v := .tuple #[v20, .int .i64 x18]) rfl) ?_
  refine RL_do rfl rfl (Do_extract (v := v20) rfl rfl) ?_
  refine RL_do rfl rfl (Do_extract (v := .int .i64 x18) rfl rfl) ?_
  refine RL_do rfl rfl (Do_assign (v := v20) rfl) ?_
  refine RL_do rfl rfl (Do_assign (v := .int .i64 x18) rfl) ?_
  refine (RL_nil (thenQ_n (hK11 _ _ ?_)))
  refine WP_seq_k fun K29 hK29 => ?_
  refine WP_seq_k fun K30 hK30 => ?_
  refine WP_region ?_
  refine RL_do rfl rfl (Do_move (v := .int .i64 x18) rfl) ?_
  obtain ⟨x31, e32, hF⟩ := letO_some hF
  refine RL_do rfl rfl (Do_as (Do_neq (a := x18) (b := 0) rfl rfl) (congrArg Value.bool e32)) ?_
  refine (RL_nil (thenQ_n (hK30 _ _ ?_)))
  refine WP_ifb (b := x31) rfl (fun c33 => ?_) (fun c33 => ?_)
  · have hF := iteB_t c33 hF
    refine WP_seq_k fun K34 hK34 => ?_
    refine WP_region ?_
    refine RL_do rfl rfl (Do_move (v := .int .i64 x18) rfl) ?_
    refine RL_do rfl rfl (Do_assign (v := .int .i64 0) rfl) ?_
    refine RL_do rfl rfl (Do_assign (v := .int .i64 x18) rfl) ?_
    refine (RL_nil (thenQ_n (hK34 _ _ ?_)))
    have hR := Option.some.inj hF
    subst hR
    refine (WP_ret (thenQ_r (post2 (v1 := .int .i64 0) (v2 := .int .i64 x18) rfl rfl rfl ?_)))
    exact ⟨rfl, H.pick [] (by decide)⟩
  · have hF := iteB_f c33 hF
    refine (WP_skip (thenQ_n (hK29 _ _ ?_)))
    refine WP_seq_k fun K55 hK55 => ?_
    obtain ⟨g71, hF, hK73⟩ := bindO_some hF
    refine WP_seqS [25, 26, 27, 28, 29, 30, 31, 32, 33] (fun (g : Unit) => [(33, .bool g71)]) (fun g wl => Hd O w wl S [.fz (.sl rFleetPeaks v20 x17)]) ?_ ?_
    · skip
      refine WP_region ?_
      refine RL_do rfl rfl (Do_move (v := .int .i64 p4) rfl) ?_
      have H74 := H
      obtain ⟨x75, e76, hF⟩ := bindO_some hF
      refine RL_call rfl rfl (DoC_func en10 rfl) (F_fleet_within_w p4 1 1000000 _ e76 _ _ _ (H.enter [] [] (by decide) rfl)) ?_
      rintro _ w77 ⟨rfl, G78⟩
      have H := H74.step (G78.only : Only [] _ _)
      refine ⟨_, rfl, ?_⟩
      obtain ⟨x79, e80, hF⟩ := letO_some hF
      refine RL_do rfl rfl (Do_as (Do_not (p := x75) rfl) (congrArg Value.bool e80)) ?_
      refine RL_splitb (b := x79) rfl rfl rfl (fun c81 => ?_) (fun c81 => ?_)
      · have hF := iteB_t c81 hF
        refine RL_off rfl rfl ?_
        refine RL_off rfl rfl ?_
        refine RL_off rfl rfl ?_
        refine RL_off rfl rfl ?_
        refine RL_do rfl rfl (Do_pick_t (v := .bool true) rfl rfl) ?_
        have hR := Option.some.inj hF
        subst hR
        refine (RL_nil (thenQ_n (And.intro ?_ ?_)))
        · repeat' (first | with_reducible exact Fr_refl | refine Fr_upd rfl ?_ | refine Fr_over rfl rfl ?_)
        · exact ⟨(), (Sl_cons rfl Sl_nil), H.pick [5] (by decide)⟩
      · have hF := iteB_f c81 hF
        refine RL_do rfl rfl (Do_move (v := .int .i64 p3) rfl) ?_
        refine RL_do rfl rfl (Do_move (v := .int .i64 p4) rfl) ?_
        have H82 := H
        obtain ⟨x83, e84, hF⟩ := bindO_some hF
        refine RL_call rfl rfl (DoC_func en10 rfl) (F_fleet_within_w p3 0 p4 _ e84 _ _ _ (H.enter [] [] (by decide) rfl)) ?_
        rintro _ w85 ⟨rfl, G86⟩
        have H := H82.step (G86.only : Only [] _ _)
        refine ⟨_, rfl, ?_⟩
        obtain ⟨x87, e88, hF⟩ := letO_some hF
        refine RL_do rfl rfl (Do_as (Do_not (p := x83) rfl) (congrArg Value.bool e88)) ?_
        refine RL_do rfl rfl (Do_pick_f (v := .bool x87) rfl rfl) ?_
        have hR := Option.some.inj hF
        subst hR
        refine (RL_nil (thenQ_n (And.intro ?_ ?_)))
        · repeat' (first | with_reducible exact Fr_refl | refine Fr_upd rfl ?_ | refine Fr_over rfl rfl ?_)
        · exact ⟨(), (Sl_cons rfl Sl_nil), H.pick [5] (by decide)⟩
    · rintro _ ρ w72 H
      have hF := hK73
      refine WP_ifb (b := g71) rfl (fun c89 => ?_) (fun c89 => ?_)
      · have hF := iteB_t c89 hF
        refine WP_seq_k fun K90 hK90 => ?_
        refine WP_region ?_
        refine RL_do rfl rfl (Do_assign (v := .int .i64 0) rfl) ?_
        refine RL_do rfl rfl (Do_assign (v := .int .i64 9) rfl) ?_
        refine (RL_nil (thenQ_n (hK90 _ _ ?_)))
        have hR := Option.some.inj hF
        subst hR
        refine (WP_ret (thenQ_r (post2 (v1 := .int .i64 0) (v2 := .int .i64 9) rfl rfl rfl ?_)))
        exact ⟨rfl, H.pick [] (by decide)⟩
      · have hF := iteB_f c89 hF
        refine (WP_skip (thenQ_n (hK55 _ _ ?_)))
        refine WP_seq_k fun K91 hK91 => ?_
        refine WP_region ?_
        refine RL_do rfl rfl (Do_move (v := v20) rfl) ?_
        obtain ⟨x92, e93, hF⟩ := bindO_some hF
        obtain ⟨b94, o95, c96, cs97, q98, h101, h99, h100, h102⟩ := rd_at (H.item (i := 0) rfl) e93
        obtain ⟨v103, v104, rfl, h105, h106⟩ := rFleetPeaks_open h101
        have H := H.fzs [.at b94 (o95 + (0 : Int).toNat * 3) _, .sl (Rp.int .i64) v103 x92.l, .sl (Rp.int .i64) v104 x92.flights] ⟨⟨h99, h100, h102⟩, h105, h106, trivial⟩
        refine RL_do rfl rfl (Do_idx u36 sz44 q98 rfl (at_some e93).1 (at_some e93).2.1 rfl rfl) ?_
        refine RL_do rfl rfl (fa44_0 rfl) ?_
        refine RL_do rfl rfl (Do_load one42 rfl (Cells.get (H.item (i := 1) rfl).2.2 (i := 0) rfl)) ?_
        refine RL_do rfl rfl (Do_move (v := .int .i64 p3) rfl) ?_
        refine RL_do rfl rfl (Do_move (v := .int .i64 p4) rfl) ?_
        have H110 := H
        obtain ⟨x111, e112, hF⟩ := bindO_some hF
        refine RL_call rfl rfl (DoC_func en11 rfl) (F_fleet_quantile_w x92.l p3 p4 v103 _ e112 _ _ _ (H.enter [] [2] (by decide) rfl)) ?_
        rintro _ w113 ⟨rfl, G114⟩
        have H := H110.step (G114.only : Only [] _ _)
        refine ⟨_, rfl, ?_⟩
        refine RL_do rfl rfl (Do_assign (v := .int .i64 x111) rfl) ?_
        refine RL_do rfl rfl (Do_assign (v := .int .i64 0) rfl) ?_
        refine (RL_nil (thenQ_n (hK91 _ _ ?_)))
        have hR := Option.some.inj hF
        subst hR
        refine (WP_ret (post2 (v1 := .int .i64 x111) (v2 := .int .i64 0) rfl rfl rfl ?_))
        exact ⟨rfl, H.pick [] (by decide)⟩
end Go.Proofs.YtbjhondbheijiaaGreat.L
namespace Go.Proofs.YtbjhondbheijiaaGreat.L
open Go.RowKit Go.OB Go.Lf
/- orangebox/orangeboxref9.outside -/
set_option maxHeartbeats 4000000 in
theorem F_ref9_outside_w (p0 : Int) (p1 : Int) (p2 : Int) (r : Bool) (hF : F_ref9_outside p0 p1 p2 = some r) (O S : List Nat) (w : World) (H : Hd O w w S []) :
    Calls Tryz.prog 14 ([.int .i64 p0, .int .i64 p1, .int .i64 p2] : List Value).toArray w fun e w' => e = .returned (.bool r) ∧ Hd O w w' S [] := by
  unfold F_ref9_outside at hF
  refine calls_of_WP 15 Tryz.func14 rfl rfl rfl ?_
  refine WP_seq_k fun K1 hK1 => ?_
  refine WP_region ?_
  refine RL_do rfl rfl (Do_assign (v := .bool false) rfl) ?_
  refine (RL_nil (thenQ_n (hK1 _ _ ?_)))
  obtain ⟨g7, hF, hK9⟩ := bindO_some hF
  refine WP_seqS [6, 7, 8, 9, 10, 11, 12, 13, 14] (fun (g : Unit) => [(6, .bool g7)]) (fun g wl => Hd O w wl S []) ?_ ?_
  · skip
    refine WP_region ?_
    refine RL_do rfl rfl (Do_move (v := .int .i64 p0) rfl) ?_
    refine RL_do rfl rfl (Do_move (v := .int .i64 p1) rfl) ?_
    obtain ⟨x10, e11, hF⟩ := letO_some hF
    refine RL_do rfl rfl (Do_as (Do_lss (a := p0) (b := p1) rfl rfl) (congrArg Value.bool e11)) ?_
    refine RL_splitb (b := x10) rfl rfl rfl (fun c12 => ?_) (fun c12 => ?_)
    · have hF := iteB_t c12 hF
      refine RL_off rfl rfl ?_
      refine RL_off rfl rfl ?_
      refine RL_off rfl rfl ?_
      refine RL_do rfl rfl (Do_pick_t (v := .bool true) rfl rfl) ?_
      refine RL_do rfl rfl (Do_assign (v := .bool true) rfl) ?_
      have hR := Option.some.inj hF
      subst hR
      refine (RL_nil (thenQ_n (And.intro ?_ ?_)))
      · repeat' (first | with_reducible exact Fr_refl | refine Fr_upd rfl ?_ | refine Fr_over rfl rfl ?_)
      · exact ⟨(), (Sl_cons rfl Sl_nil), H.pick [] (by decide)⟩
    · have hF := iteB_f c12 hF
      refine RL_do rfl rfl (Do_move (v := .int .i64 p0) rfl) ?_
      refine RL_do rfl rfl (Do_move (v := .int .i64 p2) rfl) ?_
      obtain ⟨x13, e14, hF⟩ := letO_some hF
      refine RL_do rfl rfl (Do_as (Do_gtr (a := p0) (b := p2) rfl rfl) (congrArg Value.bool e14)) ?_
      refine RL_do rfl rfl (Do_pick_f (v := .bool x13) rfl rfl) ?_
      refine RL_do rfl rfl (Do_assign (v := .bool x13) rfl) ?_
      have hR := Option.some.inj hF
      subst hR
      refine (RL_nil (thenQ_n (And.intro ?_ ?_)))
      · repeat' (first | with_reducible exact Fr_refl | refine Fr_upd rfl ?_ | refine Fr_over rfl rfl ?_)
      · exact ⟨(), (Sl_cons rfl Sl_nil), H.pick [] (by decide)⟩
  · rintro _ ρ w8 H
    have hF := hK9
    have hR := Option.some.inj hF
    subst hR
    refine (WP_ret (post1 (v1 := .bool g7) rfl rfl ?_))
    exact ⟨rfl, H.pick [] (by decide)⟩
end Go.Proofs.YtbjhondbheijiaaGreat.L
namespace Go.Proofs.YtbjhondbheijiaaGreat.L
open Go.RowKit Go.OB Go.Lf
/- orangebox/orangeboxref6.words -/
set_option maxHeartbeats 4000000 in
theorem F_ref6_words_w (r : (List Str)) (hF : F_ref6_words = some r) (O S : List Nat) (w : World) (H : Hd O w w S []) :
    Calls Tryz.prog 82 ([] : List Value).toArray w fun e w' => ∃ u1, e = .returned (u1) ∧ Hd O w w' S [.own Rp.str u1 9 r] := by
  unfold F_ref6_words at hF
  refine calls_of_WP 2 Tryz.func82 rfl rfl rfl ?_
  refine WP_seq_k fun K2 hK2 => ?_
  refine WP_region ?_
  refine RL_do rfl rfl (Do_assign (v := .slice none 0 0) rfl) ?_
  refine (RL_nil (thenQ_n (hK2 _ _ ?_)))
  refine WP_seq_k fun K3 hK3 => ?_
  refine WP_region ?_
  obtain ⟨x4, e5, hF⟩ := letO_some hF
  subst e5
  refine RL_ex rfl rfl (Lx_bs (r := Rp.str) (xl := [[112, 104, 97, 115, 101], [109, 111, 118, 101], [114, 117, 108, 101], [105, 102], [111, 114], [97, 110, 100], [116, 114, 117, 101], [102, 97, 108, 115, 101], [115, 116, 101, 97, 100, 121], [110, 111, 116], [102, 111, 114], [119, 105, 116, 104, 105, 110], [99, 111, 117, 110, 116], [111, 102], [114, 105, 115, 101, 115], [115, 105, 110, 99, 101]]) (cs := [.string (bs [112, 104, 97, 115, 101]), .string (bs [109, 111, 118, 101]), .string (bs [114, 117, 108, 101]), .string (bs [105, 102]), .string (bs [111, 114]), .string (bs [97, 110, 100]), .string (bs [116, 114, 117, 101]), .string (bs [102, 97, 108, 115, 101]), .string (bs [115, 116, 101, 97, 100, 121]), .string (bs [110, 111, 116]), .string (bs [102, 111, 114]), .string (bs [119, 105, 116, 104, 105, 110]), .string (bs [99, 111, 117, 110, 116]), .string (bs [111, 102]), .string (bs [114, 105, 115, 101, 115]), .string (bs [115, 105, 110, 99, 101])]) u23 el9 (by decide) (by decide) rfl (fillB_parts (vs := [.string (bs [112, 104, 97, 115, 101]), .string (bs [109, 111, 118, 101]), .string (bs [114, 117, 108, 101]), .string (bs [105, 102]), .string (bs [111, 114]), .string (bs [97, 110, 100]), .string (bs [116, 114, 117, 101]), .string (bs [102, 97, 108, 115, 101]), .string (bs [115, 116, 101, 97, 100, 121]), .string (bs [110, 111, 116]), .string (bs [102, 111, 114]), .string (bs [119, 105, 116, 104, 105, 110]), .string (bs [99, 111, 117, 110, 116]), .string (bs [111, 102]), .string (bs [114, 105, 115, 101, 115]), .string (bs [115, 105, 110, 99, 101])]) (by decide) rfl rfl ⟨rfl, rfl, rfl, rfl, rfl, rfl, rfl, rfl, rfl, rfl, rfl, rfl, rfl, rfl, rfl, rfl, trivial⟩ rfl) H ⟨[.string (bs [112, 104, 97, 115, 101])], [.string (bs [109, 111, 118, 101]), .string (bs [114, 117, 108, 101]), .string (bs [105, 102]), .string (bs [111, 114]), .string (bs [97, 110, 100]), .string (bs [116, 114, 117, 101]), .string (bs [102, 97, 108, 115, 101]), .string (bs [115, 116, 101, 97, 100, 121]), .string (bs [110, 111, 116]), .string (bs [102, 111, 114]), .string (bs [119, 105, 116, 104, 105, 110]), .string (bs [99, 111, 117, 110, 116]), .string (bs [111, 102]), .string (bs [114, 105, 115, 101, 115]), .string (bs [115, 105, 110, 99, 101])], rfl, rfl, ⟨[.string (bs [109, 111, 118, 101])], [.string (bs [114, 117, 108, 101]), .string (bs [105, 102]), .string (bs [111, 114]), .string (bs [97, 110, 100]), .string (bs [116, 114, 117, 101]), .string (bs [102, 97, 108, 115, 101]), .string (bs [115, 116, 101, 97, 100, 121]), .string (bs [110, 111, 116]), .string (bs [102, 111, 114]), .string (bs [119, 105, 116, 104, 105, 110]), .string (bs [99, 111, 117, 110, 116]), .string (bs [111, 102]), .string (bs [114, 105, 115, 101, 115]), .string (bs [115, 105, 110, 99, 101])], rfl, rfl, ⟨[.string (bs [114, 117, 108, 101])], [.string (bs [105, 102]), .string (bs [111, 114]), .string (bs [97, 110, 100]), .string (bs [116, 114, 117, 101]), .string (bs [102, 97, 108, 115, 101]), .string (bs [115, 116, 101, 97, 100, 121]), .string (bs [110, 111, 116]), .string (bs [102, 111, 114]), .string (bs [119, 105, 116, 104, 105, 110]), .string (bs [99, 111, 117, 110, 116]), .string (bs [111, 102]), .string (bs [114, 105, 115, 101, 115]), .string (bs [115, 105, 110, 99, 101])], rfl, rfl, ⟨[.string (bs [105, 102])], [.string (bs [111, 114]), .string (bs [97, 110, 100]), .string (bs [116, 114, 117, 101]), .string (bs [102, 97, 108, 115, 101]), .string (bs [115, 116, 101, 97, 100, 121]), .string (bs [110, 111, 116]), .string (bs [102, 111, 114]), .string (bs [119, 105, 116, 104, 105, 110]), .string (bs [99, 111, 117, 110, 116]), .string (bs [111, 102]), .string (bs [114, 105, 115, 101, 115]), .string (bs [115, 105, 110, 99, 101])], rfl, rfl, ⟨[.string (bs [111, 114])], [.string (bs [97, 110, 100]), .string (bs [116, 114, 117, 101]), .string (bs [102, 97, 108, 115, 101]), .string (bs [115, 116, 101, 97, 100, 121]), .string (bs [110, 111, 116]), .string (bs [102, 111, 114]), .string (bs [119, 105, 116, 104, 105, 110]), .string (bs [99, 111, 117, 110, 116]), .string (bs [111, 102]), .string (bs [114, 105, 115, 101, 115]), .string (bs [115, 105, 110, 99, 101])], rfl, rfl, ⟨[.string (bs [97, 110, 100])], [.string (bs [116, 114, 117, 101]), .string (bs [102, 97, 108, 115, 101]), .string (bs [115, 116, 101, 97, 100, 121]), .string (bs [110, 111, 116]), .string (bs [102, 111, 114]), .string (bs [119, 105, 116, 104, 105, 110]), .string (bs [99, 111, 117, 110, 116]), .string (bs [111, 102]), .string (bs [114, 105, 115, 101, 115]), .string (bs [115, 105, 110, 99, 101])], rfl, rfl, ⟨[.string (bs [116, 114, 117, 101])], [.string (bs [102, 97, 108, 115, 101]), .string (bs [115, 116, 101, 97, 100, 121]), .string (bs [110, 111, 116]), .string (bs [102, 111, 114]), .string (bs [119, 105, 116, 104, 105, 110]), .string (bs [99, 111, 117, 110, 116]), .string (bs [111, 102]), .string (bs [114, 105, 115, 101, 115]), .string (bs [115, 105, 110, 99, 101])], rfl, rfl, ⟨[.string (bs [102, 97, 108, 115, 101])], [.string (bs [115, 116, 101, 97, 100, 121]), .string (bs [110, 111, 116]), .string (bs [102, 111, 114]), .string (bs [119, 105, 116, 104, 105, 110]), .string (bs [99, 111, 117, 110, 116]), .string (bs [111, 102]), .string (bs [114, 105, 115, 101, 115]), .string (bs [115, 105, 110, 99, 101])], rfl, rfl, ⟨[.string (bs [115, 116, 101, 97, 100, 121])], [.string (bs [110, 111, 116]), .string (bs [102, 111, 114]), .string (bs [119, 105, 116, 104, 105, 110]), .string (bs [99, 111, 117, 110, 116]), .string (bs [111, 102]), .string (bs [114, 105, 115, 101, 115]), .string (bs [115, 105, 110, 99, 101])], rfl, rfl, ⟨[.string (bs [110, 111, 116])], [.string (bs [102, 111, 114]), .string (bs [119, 105, 116, 104, 105, 110]), .string (bs [99, 111, 117, 110, 116]), .string (bs [111, 102]), .string (bs [114, 105, 115, 101, 115]), .string (bs [115, 105, 110, 99, 101])], rfl, rfl, ⟨[.string (bs [102, 111, 114])], [.string (bs [119, 105, 116, 104, 105, 110]), .string (bs [99, 111, 117, 110, 116]), .string (bs [111, 102]), .string (bs [114, 105, 115, 101, 115]), .string (bs [115, 105, 110, 99, 101])], rfl, rfl, ⟨[.string (bs [119, 105, 116, 104, 105, 110])], [.string (bs [99, 111, 117, 110, 116]), .string (bs [111, 102]), .string (bs [114, 105, 115, 101, 115]), .string (bs [115, 105, 110, 99, 101])], rfl, rfl, ⟨[.string (bs [99, 111, 117, 110, 116])], [.string (bs [111, 102]), .string (bs [114, 105, 115, 101, 115]), .string (bs [115, 105, 110, 99, 101])], rfl, rfl, ⟨[.string (bs [111, 102])], [.string (bs [114, 105, 115, 101, 115]), .string (bs [115, 105, 110, 99, 101])], rfl, rfl, ⟨[.string (bs [114, 105, 115, 101, 115])], [.string (bs [115, 105, 110, 99, 101])], rfl, rfl, ⟨[.string (bs [115, 105, 110, 99, 101])], [], rfl, rfl, rfl⟩⟩⟩⟩⟩⟩⟩⟩⟩⟩⟩⟩⟩⟩⟩⟩) ?_
  rintro v7 w8 H
  refine RL_do rfl rfl (Do_assign (v := v7) rfl) ?_
  refine (RL_nil (thenQ_n (hK3 _ _ ?_)))
  have hR := Option.some.inj hF
  subst hR
  refine (WP_ret (post1 (v1 := v7) rfl rfl ?_))
  exact ⟨v7, rfl, H.pick [0] (by decide)⟩
end Go.Proofs.YtbjhondbheijiaaGreat.L
namespace Go.Proofs.YtbjhondbheijiaaGreat.L
open Go.RowKit Go.OB Go.Lf
/- orangebox/orangeboxref6.Reserved -/
set_option maxHeartbeats 4000000 in
theorem F_ref6_Reserved_w (p0 : Str) (r : Bool) (hF : F_ref6_Reserved p0 = some r) (O S : List Nat) (w : World) (H : Hd O w w S []) :
    Calls Tryz.prog 55 ([.string (bs p0)] : List Value).toArray w fun e w' => e = .returned (.bool r) ∧ Hd O w w' S [] := by
  unfold F_ref6_Reserved at hF
  refine calls_of_WP 18 Tryz.func55 rfl rfl rfl ?_
  refine WP_seq_k fun K1 hK1 => ?_
  refine WP_region ?_
  refine RL_do rfl rfl (Do_assign (v := .bool false) rfl) ?_
  refine (RL_nil (thenQ_n (hK1 _ _ ?_)))
  refine WP_seq_k fun K2 hK2 => ?_
  refine WP_region ?_
  obtain ⟨x3, e4, hF⟩ := bindO_some hF
  refine RL_call rfl rfl (DoC_func en82 rfl) (F_ref6_words_w _ e4 _ _ _ (H.enter [] [] (by decide) rfl)) ?_
  rintro _ w7 ⟨v5, rfl, G8⟩
  have H := H.back1 [] rfl G8
  refine ⟨_, rfl, ?_⟩
  refine RL_do rfl rfl (Do_assign (v := v5) rfl) ?_
  refine (RL_nil (thenQ_n (hK2 _ _ ?_)))
  obtain ⟨k126, ek127, hF⟩ := joinO_some hF
  refine WP_seqS [2, 4, 6, 7, 8, 9, 10, 11, 12, 13, 14, 15, 16, 17] (fun (g : Unit) => []) (fun g wl => Hd O w wl S [] ∧ k126 () = some r) ?_ ?_
  · skip
    refine WP_seq_k fun K128 hK128 => ?_
    refine WP_region ?_
    refine RL_do rfl rfl (Do_assign (v := .int .i64 0) rfl) ?_
    refine (RL_nil (thenQ_n (hK128 _ _ ?_)))
    refine WP_block ?_
    unfold F_ref6_Reserved_L1 at hF
    obtain ⟨B239, n240, eB241, hF⟩ := loopO_some hF
    refine WP_loopS [2, 4, 6, 7, 8, 9, 10, 11, 12, 13, 14, 15, 16, 17] (fun (g : Nat × Int) => [(4, .int .i64 g.2)]) (fun g wl => Hd O w wl S [.own Rp.str v5 9 x3] ∧ loopN B239 g.1 g.2 = some r) (fun g => g.1) (n240, 0) (Sl_cons rfl Sl_nil) ⟨H.pick [0] (by decide), hF⟩ ?_
    clear H hF
    rintro ⟨n240, g238⟩ ρ w243 ⟨H, hF⟩
    obtain ⟨n244, rfl, hF⟩ := loopN_pos hF
    have hF := loop_body eB241 hF
    refine WP_seq_k fun K254 hK254 => ?_
    refine WP_seq_k fun K255 hK255 => ?_
    refine WP_region ?_
    refine RL_do rfl rfl (Do_move (v := .int .i64 g238) rfl) ?_
    refine RL_do rfl rfl (Do_move (v := v5) rfl) ?_
    obtain ⟨x256, e257, hF⟩ := letO_some hF
    obtain ⟨a258, c259, q260⟩ := Sr.len (Sr.of_own (H.item (i := 0) rfl))
    refine RL_do rfl rfl (Do_as (Do_len u23 q260) (congrArg (Value.int .i64) e257)) ?_
    obtain ⟨x261, e262, hF⟩ := letO_some hF
    refine RL_do rfl rfl (Do_as (Do_lss (a := g238) (b := x256) rfl rfl) (congrArg Value.bool e262)) ?_
    refine (RL_nil (thenQ_n (hK255 _ _ ?_)))
    refine WP_ifb (b := x261) rfl (fun c263 => ?_) (fun c263 => ?_)
    · have hF := iteB_t c263 hF
      refine (WP_skip (thenQ_n (hK254 _ _ ?_)))
      refine WP_seq_k fun K280 hK280 => ?_
      refine WP_block ?_
      refine WP_seq_k fun K281 hK281 => ?_
      refine WP_region ?_
      refine RL_do rfl rfl (Do_move (v := v5) rfl) ?_
      refine RL_do rfl rfl (Do_move (v := .int .i64 g238) rfl) ?_
      obtain ⟨x282, e283, hF⟩ := bindO_some hF
      obtain ⟨b284, c286, cs287, q288, h291, h292⟩ := own_at (H.item (i := 0) rfl) e283
      obtain rfl : cs287 = [.string (bs x282)] := h291
      refine RL_do rfl rfl (Do_idx u23 sz9 q288 rfl (at_some e283).1 (at_some e283).2.1 rfl rfl) ?_
      refine RL_do rfl rfl (Do_load one9 rfl (Cells.get h292 (i := 0) rfl)) ?_
      refine RL_do rfl rfl (Do_move (v := .string (bs p0)) rfl) ?_
      obtain ⟨x293, e294, hF⟩ := letO_some hF
      refine RL_do rfl rfl (Do_as (Do_eqls (s1 := x282) (s2 := p0) rfl rfl) (congrArg Value.bool e294)) ?_
      refine (RL_nil (thenQ_n (hK281 _ _ ?_)))
      refine WP_ifb (b := x293) rfl (fun c295 => ?_) (fun c295 => ?_)
      · have hF := iteB_t c295 hF
        refine WP_seq_k fun K296 hK296 => ?_
        refine WP_region ?_
        refine RL_do rfl rfl (Do_assign (v := .bool true) rfl) ?_
        refine (RL_nil (thenQ_n (hK296 _ _ ?_)))
        have hR := Option.some.inj hF
        subst hR
        refine (WP_ret (blockQ_r (thenQ_r (thenQ_r (blockQ_r (thenQ_r (post1 (v1 := .bool true) rfl rfl ?_)))))))
        exact ⟨rfl, H.pick [] (by decide)⟩
      · have hF := iteB_f c295 hF
        refine (WP_skip (blockQ_n (thenQ_n (hK280 _ _ ?_))))
        refine WP_region ?_
        refine RL_do rfl rfl (Do_move (v := .int .i64 g238) rfl) ?_
        obtain ⟨x297, e298, hF⟩ := letO_some hF
        refine RL_do rfl rfl (Do_add (a := g238) (b := 1) rfl rfl e298) ?_
        refine RL_do rfl rfl (Do_assign (v := .int .i64 x297) rfl) ?_
        refine (RL_nil (thenQ_n (And.intro ?_ ?_)))
        · repeat' (first | with_reducible exact Fr_refl | refine Fr_upd rfl ?_ | refine Fr_over rfl rfl ?_)
        · exact ⟨(n244, x297), (Sl_cons rfl Sl_nil), ⟨H.pick [0] (by decide), hF⟩, Nat.lt_succ_self _⟩
    · have hF := iteB_f c263 hF
      refine (WP_exit (thenQ_x (thenQ_x (blockQ_eq (thenQ_n (And.intro ?_ ?_))))))
      · repeat' (first | with_reducible exact Fr_refl | refine Fr_upd rfl ?_ | refine Fr_over rfl rfl ?_)
      · exact ⟨(), Sl_nil, ⟨H.pick [] (by decide), hF⟩⟩
  · rintro _ ρ w125 ⟨H, hF⟩
    have hF := join_body ek127 hF
    refine WP_seq_k fun K299 hK299 => ?_
    refine WP_region ?_
    refine RL_do rfl rfl (Do_assign (v := .bool false) rfl) ?_
    refine (RL_nil (thenQ_n (hK299 _ _ ?_)))
    have hR := Option.some.inj hF
    subst hR
    refine (WP_ret (post1 (v1 := .bool false) rfl rfl ?_))
    exact ⟨rfl, H.pick [] (by decide)⟩
end Go.Proofs.YtbjhondbheijiaaGreat.L
