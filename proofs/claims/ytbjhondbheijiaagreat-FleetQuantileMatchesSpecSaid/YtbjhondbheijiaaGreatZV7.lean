/- Walks: what each function computes, for every argument; no condition but those that stand in the statements. -/
import Derived.Test.YtbjhondbheijiaaGreatZV0
import Derived.Test.YtbjhondbheijiaaGreatZV6
import Derived.Test.YtbjhondbheijiaaGreatZV3
import Derived.Test.YtbjhondbheijiaaGreatZV5
namespace Go.Proofs.YtbjhondbheijiaaGreat.L
open Go.RowKit Go.OB Go.Lf
/- orangebox/orangeboxref9.peaks -/
set_option maxHeartbeats 4000000 in
theorem F_ref9_peaks_w (p0 : List Flight) (p1 : Mask) (p2 : Str) (v1 : Value) (v3 : Value) (v4 : Value) (r : (List Int) × (List Int) × Int × Int) (hF : F_ref9_peaks p0 p1 p2 = some r) (O S : List Nat) (w : World) (H : Hd O w w S [.fz (.sl rFlight v1 p0), .fz (.sl Rp.str v3 p1.Hide), .fz (.sl rGrain v4 p1.Grains)]) :
    Calls Tryz.prog 13 ([v1, .agg [.bool p1.Tails, .int .i64 p1.Days, v3, v4, .int .i64 p1.Least].toArray, .string (bs p2)] : List Value).toArray w fun e w' => ∃ u7 u8, e = .returned (.tuple #[u7, u8, .int .i64 r.2.2.1, .int .i64 r.2.2.2]) ∧ Hd O w w' S [.own (Rp.int .i64) u7 3 r.1, .own (Rp.int .i64) u8 3 r.2.1] := by
  unfold F_ref9_peaks at hF
  refine calls_of_WP 65 Tryz.func13 rfl rfl rfl ?_
  refine WP_seq_k fun K9 hK9 => ?_
  refine WP_region ?_
  refine RL_ex rfl rfl (Lx_box (cs := [.bool p1.Tails, .int .i64 p1.Days, v3, v4, .int .i64 p1.Least]) rfl H) ?_
  rintro _ w12 ⟨b10, rfl, H⟩
  refine RL_do rfl rfl (Do_assign (v := .slice none 0 0) rfl) ?_
  refine RL_do rfl rfl (Do_assign (v := .slice none 0 0) rfl) ?_
  refine RL_do rfl rfl (Do_assign (v := .int .i64 0) rfl) ?_
  refine RL_do rfl rfl (Do_assign (v := .int .i64 0) rfl) ?_
  refine (RL_nil (thenQ_n (hK9 _ _ ?_)))
  refine WP_seq_k fun K13 hK13 => ?_
  refine WP_region ?_
  refine RL_do rfl rfl (Do_assign (v := .slice none 0 0) rfl) ?_
  refine RL_do rfl rfl (Do_assign (v := .slice none 0 0) rfl) ?_
  refine (RL_nil (thenQ_n (hK13 _ _ ?_)))
  refine WP_seq_k fun K14 hK14 => ?_
  refine WP_region ?_
  refine RL_do rfl rfl (Do_assign (v := .int .i64 0) rfl) ?_
  refine (RL_nil (thenQ_n (hK14 _ _ ?_)))
  refine WP_seq_k fun K15 hK15 => ?_
  refine WP_region ?_
  refine RL_do rfl rfl (Do_assign (v := .bool true) rfl) ?_
  refine (RL_nil (thenQ_n (hK15 _ _ ?_)))
  obtain ⟨j245, hF, hK244⟩ := bindO_some hF
  refine WP_seqS [10, 11, 12, 13, 14, 15, 16, 17, 18, 19, 20, 21, 22, 23, 24, 25, 26, 27, 28, 29, 30, 31, 32, 33, 34, 35, 36, 37, 38, 39, 40, 41, 42, 43, 44, 45, 46, 47, 48, 49, 50, 51, 52, 53, 54] (fun (g : Value × Value) => [(10, g.1), (11, g.2), (12, .int .i64 j245.2.2.1), (13, .bool j245.2.2.2)]) (fun g wl => Hd O w wl S [.own (Rp.int .i64) g.1 3 j245.1, .own (Rp.int .i64) g.2 3 j245.2.1, .blk b10 [.bool p1.Tails, .int .i64 p1.Days, v3, v4, .int .i64 p1.Least] 26, .fz (.sl Rp.str v3 p1.Hide), .fz (.sl rGrain v4 p1.Grains)]) ?_ ?_
  · skip
    refine WP_seq_k fun K246 hK246 => ?_
    refine WP_region ?_
    refine RL_do rfl rfl (Do_assign (v := .int .i64 0) rfl) ?_
    refine (RL_nil (thenQ_n (hK246 _ _ ?_)))
    refine WP_block ?_
    have H := own_nil H (Rp.int .i64) 3
    have H := own_nil H (Rp.int .i64) 3
    unfold F_ref9_peaks_L1 at hF
    obtain ⟨B468, n469, eB470, hF⟩ := loopO_some hF
    refine WP_loopS [10, 11, 12, 13, 14, 15, 16, 17, 18, 19, 20, 21, 22, 23, 24, 25, 26, 27, 28, 29, 30, 31, 32, 33, 34, 35, 36, 37, 38, 39, 40, 41, 42, 43, 44, 45, 46, 47, 48, 49, 50, 51, 52, 53, 54] (fun (g : Nat × (List Int) × (List Int) × Int × Bool × Int × Value × Value) => [(10, g.2.2.2.2.2.2.1), (11, g.2.2.2.2.2.2.2), (12, .int .i64 g.2.2.2.1), (13, .bool g.2.2.2.2.1), (14, .int .i64 g.2.2.2.2.2.1)]) (fun g wl => Hd O w wl S [.own (Rp.int .i64) g.2.2.2.2.2.2.1 3 g.2.1, .own (Rp.int .i64) g.2.2.2.2.2.2.2 3 g.2.2.1, .fz (.sl rFlight v1 p0), .blk b10 [.bool p1.Tails, .int .i64 p1.Days, v3, v4, .int .i64 p1.Least] 26, .fz (.sl Rp.str v3 p1.Hide), .fz (.sl rGrain v4 p1.Grains)] ∧ loopN B468 g.1 (g.2.1, g.2.2.1, g.2.2.2.1, g.2.2.2.2.1, g.2.2.2.2.2.1) = some j245) (fun g => g.1) (n469, [], [], 0, true, 0, .slice none 0 0, .slice none 0 0) (Sl_cons rfl (Sl_cons rfl (Sl_cons rfl (Sl_cons rfl (Sl_cons rfl Sl_nil))))) ⟨H.pick [4, 5, 0, 3, 1, 2] (by decide), hF⟩ ?_
    clear H hF
    rintro ⟨n469, g458, g461, g463, g464, g465, v459, v462⟩ ρ w472 ⟨H, hF⟩
    obtain ⟨n473, rfl, hF⟩ := loopN_pos hF
    have hF := loop_body eB470 hF
    refine WP_seq_k fun K483 hK483 => ?_
    refine WP_seq_k fun K484 hK484 => ?_
    refine WP_region ?_
    refine RL_do rfl rfl (Do_move (v := .int .i64 g465) rfl) ?_
    refine RL_do rfl rfl (Do_move (v := v1) rfl) ?_
    obtain ⟨x485, e486, hF⟩ := letO_some hF
    obtain ⟨a487, c488, q489⟩ := SlF.len ((H.item (i := 2) rfl))
    refine RL_do rfl rfl (Do_as (Do_len u22 q489) (congrArg (Value.int .i64) e486)) ?_
    obtain ⟨x490, e491, hF⟩ := letO_some hF
    refine RL_do rfl rfl (Do_as (Do_lss (a := g465) (b := x485) rfl rfl) (congrArg Value.bool e491)) ?_
    refine (RL_nil (thenQ_n (hK484 _ _ ?_)))
    refine WP_ifb (b := x490) rfl (fun c492 => ?_) (fun c492 => ?_)
    · have hF := iteB_t c492 hF
      refine (WP_skip (thenQ_n (hK483 _ _ ?_)))
      obtain ⟨j570, hF, hK569⟩ := bindO_some hF
      refine WP_seqS [10, 11, 12, 13, 15, 16, 17, 24, 25, 26, 27, 28, 29, 30, 31, 32, 33, 34, 35, 36, 37, 38, 39, 40, 41, 42, 43, 44, 45, 46, 47, 48, 49, 50, 51, 52, 53, 54] (fun (g : Value × Value) => [(10, g.1), (11, g.2), (12, .int .i64 j570.2.2.1), (13, .bool j570.2.2.2)]) (fun g wl => Hd O w wl S [.own (Rp.int .i64) g.1 3 j570.1, .own (Rp.int .i64) g.2 3 j570.2.1, .fz (.sl rFlight v1 p0), .blk b10 [.bool p1.Tails, .int .i64 p1.Days, v3, v4, .int .i64 p1.Least] 26, .fz (.sl Rp.str v3 p1.Hide), .fz (.sl rGrain v4 p1.Grains)]) ?_ ?_
      · skip
        refine WP_block ?_
        refine WP_seq_k fun K571 hK571 => ?_
        have H572 := H
        have H := H.rebase
        have H573 := H
        refine WP_mix H [0, 1, 2, 3, 4, 6, 5, 7, 8, 9, 10, 11, 12, 13, 14] [.pure, .pure, .pure, .read, .read, .new, .pure, .read, .pure, .pure, .pure, .pure, .pure, .pure, .pure] mixed (by kernel_rfl) (by kernel_rfl) (by kernel_rfl) (by decide) ?_
        refine Mx.XL_pure rfl rfl rfl (fun w' hw' => Do_move (v := v1) rfl) ?_
        refine Mx.XL_pure rfl rfl rfl (fun w' hw' => Do_move (v := .int .i64 g465) rfl) ?_
        obtain ⟨x574, e575, hF⟩ := bindO_some hF
        obtain ⟨b576, o577, c578, cs579, q580, h583, h581, h582, h584⟩ := rd_at (H.item (i := 2) rfl) e575
        obtain ⟨v585, rfl, h586⟩ := rFlight_open h583
        have H := H.fzs [.at b576 (o577 + g465.toNat * 6) _, .sl rTrack v585 x574.Tracks] ⟨⟨h581, h582, h584⟩, h586, trivial⟩
        refine Mx.XL_pure rfl rfl rfl (fun w' hw' => Do_idx u22 sz66 q580 rfl (at_some e575).1 (at_some e575).2.1 rfl rfl) ?_
        refine Mx.XL_read oS rfl rfl rfl (fun w' hw' => Do_as (Do_loads (cs := [.string (bs x574.Tail), .string (bs x574.Route), .int .i64 x574.Day, .int .i64 x574.From, .int .i64 x574.To, v585]) agg66 rfl sz66 rfl ((H.sees hw').item (i := 6) rfl).2.2) rfl) ?_
        refine Mx.XL_read oS rfl rfl rfl (fun w' hw' => Do_as (Do_loads (cs := [.bool p1.Tails, .int .i64 p1.Days, v3, v4, .int .i64 p1.Least]) agg26 rfl sz26 rfl (Blk.cells ((H.sees hw').item (i := 3) rfl))) rfl) ?_
        refine Mx.XL_pure rfl rfl rfl (fun w' hw' => Do_move (v := .string (bs p2)) rfl) ?_
        obtain ⟨x589, e590, hF⟩ := bindO_some hF
        refine Mx.XL_newC oS rfl rfl rfl (fun w' hw' => DoC_func en36 rfl) (fun w' hw' => F_ref9_masked_w x574 p1 v585 v3 v4 _ e590 _ _ _ ((H.sees hw').enter [] [7, 4, 5] (by decide) rfl)) ?_
        rintro w' _ w593 hw' ⟨v591, rfl, G594⟩
        have H := (H.sees hw').back1 [7, 4, 5] rfl G594
        refine ⟨_, rfl, (G594.only : Only [] _ _).below, ?_⟩
        have H595 := H
        obtain ⟨⟨x596, x597, x598⟩, e599, hF⟩ := bindO_some hF
        refine Mx.XL_call oS rfl rfl rfl (v := .tuple #[.int .i64 x596, .int .i64 x597, .bool x598]) (fun w' hw' => DoC_func en35 rfl) (fun w' hw' => by have q := call_read (F_ref9_peak_w x589 p2 v591 _ e599 _ _ _ ((H.sees hw').enter [] [8] (by decide) rfl)); exact q) ?_
        have H := H595
        refine Mx.XL_pure rfl rfl rfl (fun w' hw' => Do_move (v := .tuple #[.int .i64 x596, .int .i64 x597, .bool x598]) rfl) ?_
        refine Mx.XL_pure rfl rfl rfl (fun w' hw' => Do_extract (v := .int .i64 x596) rfl rfl) ?_
        refine Mx.XL_pure rfl rfl rfl (fun w' hw' => Do_extract (v := .int .i64 x597) rfl rfl) ?_
        refine Mx.XL_pure rfl rfl rfl (fun w' hw' => Do_extract (v := .bool x598) rfl rfl) ?_
        refine Mx.XL_pure rfl rfl rfl (fun w' hw' => Do_assign (v := .int .i64 x596) rfl) ?_
        refine Mx.XL_pure rfl rfl rfl (fun w' hw' => Do_assign (v := .int .i64 x597) rfl) ?_
        refine Mx.XL_pure rfl rfl rfl (fun w' hw' => Do_assign (v := .bool x598) rfl) ?_
        refine Mx.XL_nil fun w600 hS => ?_
        have H := H.sees hS
        have H := H572.rejoin H
        refine (thenQ_n (hK571 _ _ ?_))
        refine WP_seq_k fun K605 hK605 => ?_
        refine WP_seq_k fun K606 hK606 => ?_
        refine WP_region ?_
        refine RL_do rfl rfl (Do_move (v := .bool x598) rfl) ?_
        obtain ⟨x607, e608, hF⟩ := letO_some hF
        refine RL_do rfl rfl (Do_as (Do_not (p := x598) rfl) (congrArg Value.bool e608)) ?_
        refine (RL_nil (thenQ_n (hK606 _ _ ?_)))
        refine WP_ifb (b := x607) rfl (fun c609 => ?_) (fun c609 => ?_)
        · have hF := iteB_t c609 hF
          have hR := Option.some.inj hF
          subst hR
          refine (WP_exit (thenQ_x (blockQ_eq (thenQ_n (And.intro ?_ ?_)))))
          · repeat' (first | with_reducible exact Fr_refl | refine Fr_upd rfl ?_ | refine Fr_over rfl rfl ?_)
          · exact ⟨(v459, v462), (Sl_cons rfl (Sl_cons rfl (Sl_cons rfl (Sl_cons rfl Sl_nil)))), H.pick [0, 1, 2, 3, 4, 5] (by decide)⟩
        · have hF := iteB_f c609 hF
          refine (WP_skip (thenQ_n (hK605 _ _ ?_)))
          refine WP_seq_k fun K610 hK610 => ?_
          refine WP_region ?_
          refine RL_do rfl rfl (Do_move (v := v459) rfl) ?_
          refine RL_do rfl rfl (Do_move (v := .int .i64 x596) rfl) ?_
          obtain ⟨x611, e612, hF⟩ := letO_some hF
          subst e612
          refine RL_ex rfl rfl (Lx_bs (r := (Rp.int .i64)) (xl := [x596]) (cs := [.int .i64 x596]) u42 el3 (by decide) (by decide) rfl (fillB_parts (vs := [.int .i64 x596]) (by decide) rfl rfl ⟨rfl, trivial⟩ rfl) H ⟨[.int .i64 x596], [], rfl, rfl, rfl⟩) ?_
          rintro v614 w615 H
          obtain ⟨x616, e617, hF⟩ := bindO_some hF
          refine RL_ex rfl rfl (Lx_app H (i := 0) rfl u42 el3 rfl rfl (Sr.of_own (H.item (i := 9) rfl)) e617) ?_
          rintro v618 w619 H
          refine RL_do rfl rfl (Do_assign (v := v618) rfl) ?_
          refine (RL_nil (thenQ_n (hK610 _ _ ?_)))
          refine WP_seq_k fun K620 hK620 => ?_
          refine WP_region ?_
          refine RL_do rfl rfl (Do_move (v := v462) rfl) ?_
          refine RL_do rfl rfl (Do_move (v := .int .i64 g465) rfl) ?_
          obtain ⟨x621, e622, hF⟩ := letO_some hF
          subst e622
          refine RL_ex rfl rfl (Lx_bs (r := (Rp.int .i64)) (xl := [g465]) (cs := [.int .i64 g465]) u42 el3 (by decide) (by decide) rfl (fillB_parts (vs := [.int .i64 g465]) (by decide) rfl rfl ⟨rfl, trivial⟩ rfl) H ⟨[.int .i64 g465], [], rfl, rfl, rfl⟩) ?_
          rintro v624 w625 H
          obtain ⟨x626, e627, hF⟩ := bindO_some hF
          refine RL_ex rfl rfl (Lx_app H (i := 1) rfl u42 el3 rfl rfl (Sr.of_own (H.item (i := 10) rfl)) e627) ?_
          rintro v628 w629 H
          refine RL_do rfl rfl (Do_assign (v := v628) rfl) ?_
          refine (RL_nil (thenQ_n (hK620 _ _ ?_)))
          obtain ⟨g634, hF, hK636⟩ := bindO_some hF
          refine WP_seqS [12, 46, 47, 48] (fun (g : Unit) => [(12, .int .i64 g634)]) (fun g wl => Hd O w wl S [.own (Rp.int .i64) v618 3 x616, .own (Rp.int .i64) v628 3 x626, .fz (.sl rFlight v1 p0), .blk b10 [.bool p1.Tails, .int .i64 p1.Days, v3, v4, .int .i64 p1.Least] 26, .fz (.sl Rp.str v3 p1.Hide), .fz (.sl rGrain v4 p1.Grains)]) ?_ ?_
          · skip
            refine WP_seq_k fun K637 hK637 => ?_
            refine WP_region ?_
            refine RL_do rfl rfl (Do_move (v := .int .i64 g463) rfl) ?_
            obtain ⟨x638, e639, hF⟩ := letO_some hF
            refine RL_do rfl rfl (Do_as (Do_eql (a := g463) (b := 0) rfl rfl) (congrArg Value.bool e639)) ?_
            refine (RL_nil (thenQ_n (hK637 _ _ ?_)))
            refine WP_ifb (b := x638) rfl (fun c640 => ?_) (fun c640 => ?_)
            · have hF := iteB_t c640 hF
              refine WP_region ?_
              refine RL_do rfl rfl (Do_move (v := .int .i64 x597) rfl) ?_
              refine RL_do rfl rfl (Do_assign (v := .int .i64 x597) rfl) ?_
              have hR := Option.some.inj hF
              subst hR
              refine (RL_nil (thenQ_n (And.intro ?_ ?_)))
              · repeat' (first | with_reducible exact Fr_refl | refine Fr_upd rfl ?_ | refine Fr_over rfl rfl ?_)
              · exact ⟨(), (Sl_cons rfl Sl_nil), H.pick [0, 1, 2, 3, 4, 5] (by decide)⟩
            · have hF := iteB_f c640 hF
              have hR := Option.some.inj hF
              subst hR
              refine (WP_skip (thenQ_n (And.intro ?_ ?_)))
              · repeat' (first | with_reducible exact Fr_refl | refine Fr_upd rfl ?_ | refine Fr_over rfl rfl ?_)
              · exact ⟨(), (Sl_cons rfl Sl_nil), H.pick [0, 1, 2, 3, 4, 5] (by decide)⟩
          · rintro _ ρ w635 H
            have hF := hK636
            refine WP_region ?_
            refine RL_do rfl rfl (Do_move (v := .bool g464) rfl) ?_
            refine RL_splitb (b := g464) rfl rfl rfl (fun c641 => ?_) (fun c641 => ?_)
            · have hF := iteB_t c641 hF
              refine RL_do rfl rfl (Do_move (v := .int .i64 g634) rfl) ?_
              refine RL_do rfl rfl (Do_move (v := .int .i64 x597) rfl) ?_
              obtain ⟨x642, e643, hF⟩ := letO_some hF
              refine RL_do rfl rfl (Do_as (Do_eql (a := g634) (b := x597) rfl rfl) (congrArg Value.bool e643)) ?_
              refine RL_do rfl rfl (Do_pick_t (v := .bool x642) rfl rfl) ?_
              refine RL_do rfl rfl (Do_assign (v := .bool x642) rfl) ?_
              have hR := Option.some.inj hF
              subst hR
              refine (RL_nil (blockQ_n (thenQ_n (And.intro ?_ ?_))))
              · repeat' (first | with_reducible exact Fr_refl | refine Fr_upd rfl ?_ | refine Fr_over rfl rfl ?_)
              · exact ⟨(v618, v628), (Sl_cons rfl (Sl_cons rfl (Sl_cons rfl (Sl_cons rfl Sl_nil)))), H.pick [0, 1, 2, 3, 4, 5] (by decide)⟩
            · have hF := iteB_f c641 hF
              refine RL_off rfl rfl ?_
              refine RL_off rfl rfl ?_
              refine RL_off rfl rfl ?_
              refine RL_do rfl rfl (Do_pick_f (v := .bool false) rfl rfl) ?_
              refine RL_do rfl rfl (Do_assign (v := .bool false) rfl) ?_
              have hR := Option.some.inj hF
              subst hR
              refine (RL_nil (blockQ_n (thenQ_n (And.intro ?_ ?_))))
              · repeat' (first | with_reducible exact Fr_refl | refine Fr_upd rfl ?_ | refine Fr_over rfl rfl ?_)
              · exact ⟨(v618, v628), (Sl_cons rfl (Sl_cons rfl (Sl_cons rfl (Sl_cons rfl Sl_nil)))), H.pick [0, 1, 2, 3, 4, 5] (by decide)⟩
      · rintro ⟨v563, v565⟩ ρ w568 H
        have hF := hK569
        obtain ⟨g562, g564, g566, g567⟩ := j570
        refine WP_region ?_
        refine RL_do rfl rfl (Do_move (v := .int .i64 g465) rfl) ?_
        obtain ⟨x644, e645, hF⟩ := letO_some hF
        refine RL_do rfl rfl (Do_add (a := g465) (b := 1) rfl rfl e645) ?_
        refine RL_do rfl rfl (Do_assign (v := .int .i64 x644) rfl) ?_
        refine (RL_nil (thenQ_n (And.intro ?_ ?_)))
        · repeat' (first | with_reducible exact Fr_refl | refine Fr_upd rfl ?_ | refine Fr_over rfl rfl ?_)
        · exact ⟨(n473, g562, g564, g566, g567, x644, v563, v565), (Sl_cons rfl (Sl_cons rfl (Sl_cons rfl (Sl_cons rfl (Sl_cons rfl Sl_nil))))), ⟨H.pick [0, 1, 2, 3, 4, 5] (by decide), hF⟩, Nat.lt_succ_self _⟩
    · have hF := iteB_f c492 hF
      have hR := Option.some.inj hF
      subst hR
      refine (WP_exit (thenQ_x (thenQ_x (blockQ_eq (thenQ_n (And.intro ?_ ?_))))))
      · repeat' (first | with_reducible exact Fr_refl | refine Fr_upd rfl ?_ | refine Fr_over rfl rfl ?_)
      · exact ⟨(v459, v462), (Sl_cons rfl (Sl_cons rfl (Sl_cons rfl (Sl_cons rfl Sl_nil)))), H.pick [0, 1, 3, 4, 5] (by decide)⟩
  · rintro ⟨v237, v240⟩ ρ w243 H
    have hF := hK244
    obtain ⟨g236, g239, g241, g242⟩ := j245
    refine WP_seq_k fun K656 hK656 => ?_
    refine WP_seq_k fun K657 hK657 => ?_
    refine WP_region ?_
    refine RL_do rfl rfl (Do_move (v := v237) rfl) ?_
    obtain ⟨x658, e659, hF⟩ := letO_some hF
    obtain ⟨a660, c661, q662⟩ := Sr.len (Sr.of_own (H.item (i := 0) rfl))
    refine RL_do rfl rfl (Do_as (Do_len u42 q662) (congrArg (Value.int .i64) e659)) ?_
    refine RL_do rfl rfl (fa26_4 rfl) ?_
    refine RL_do rfl rfl (Do_load one3 rfl (Cells.get (Blk.cells (H.item (i := 2) rfl)) (i := 4) rfl)) ?_
    obtain ⟨x663, e664, hF⟩ := letO_some hF
    refine RL_do rfl rfl (Do_as (Do_lss (a := x658) (b := p1.Least) rfl rfl) (congrArg Value.bool e664)) ?_
    refine (RL_nil (thenQ_n (hK657 _ _ ?_)))
    refine WP_ifb (b := x663) rfl (fun c665 => ?_) (fun c665 => ?_)
    · have hF := iteB_t c665 hF
      refine WP_seq_k fun K666 hK666 => ?_
      refine WP_region ?_
      refine RL_do rfl rfl (Do_assign (v := .slice none 0 0) rfl) ?_
      refine RL_do rfl rfl (Do_assign (v := .slice none 0 0) rfl) ?_
      refine RL_do rfl rfl (Do_assign (v := .int .i64 0) rfl) ?_
      refine RL_do rfl rfl (Do_assign (v := .int .i64 4) rfl) ?_
      refine (RL_nil (thenQ_n (hK666 _ _ ?_)))
      have H := own_nil H (Rp.int .i64) 3
      have H := own_nil H (Rp.int .i64) 3
      have hR := Option.some.inj hF
      subst hR
      refine (WP_ret (thenQ_r (post4 (v1 := .slice none 0 0) (v2 := .slice none 0 0) (v3 := .int .i64 0) (v4 := .int .i64 4) rfl rfl rfl rfl rfl ?_)))
      exact ⟨.slice none 0 0, .slice none 0 0, rfl, H.pick [5, 6] (by decide)⟩
    · have hF := iteB_f c665 hF
      refine (WP_skip (thenQ_n (hK656 _ _ ?_)))
      refine WP_seq_k fun K674 hK674 => ?_
      refine WP_seq_k fun K675 hK675 => ?_
      refine WP_region ?_
      refine RL_do rfl rfl (Do_move (v := .bool g242) rfl) ?_
      obtain ⟨x676, e677, hF⟩ := letO_some hF
      refine RL_do rfl rfl (Do_as (Do_not (p := g242) rfl) (congrArg Value.bool e677)) ?_
      refine (RL_nil (thenQ_n (hK675 _ _ ?_)))
      refine WP_ifb (b := x676) rfl (fun c678 => ?_) (fun c678 => ?_)
      · have hF := iteB_t c678 hF
        refine WP_seq_k fun K679 hK679 => ?_
        refine WP_region ?_
        refine RL_do rfl rfl (Do_assign (v := .slice none 0 0) rfl) ?_
        refine RL_do rfl rfl (Do_assign (v := .slice none 0 0) rfl) ?_
        refine RL_do rfl rfl (Do_assign (v := .int .i64 0) rfl) ?_
        refine RL_do rfl rfl (Do_assign (v := .int .i64 2) rfl) ?_
        refine (RL_nil (thenQ_n (hK679 _ _ ?_)))
        have H := own_nil H (Rp.int .i64) 3
        have H := own_nil H (Rp.int .i64) 3
        have hR := Option.some.inj hF
        subst hR
        refine (WP_ret (thenQ_r (post4 (v1 := .slice none 0 0) (v2 := .slice none 0 0) (v3 := .int .i64 0) (v4 := .int .i64 2) rfl rfl rfl rfl rfl ?_)))
        exact ⟨.slice none 0 0, .slice none 0 0, rfl, H.pick [5, 6] (by decide)⟩
      · have hF := iteB_f c678 hF
        refine (WP_skip (thenQ_n (hK674 _ _ ?_)))
        refine WP_seq_k fun K682 hK682 => ?_
        refine WP_region ?_
        refine RL_do rfl rfl (Do_move (v := v237) rfl) ?_
        refine RL_do rfl rfl (Do_move (v := v240) rfl) ?_
        refine RL_do rfl rfl (Do_move (v := .int .i64 g241) rfl) ?_
        refine RL_do rfl rfl (Do_assign (v := v237) rfl) ?_
        refine RL_do rfl rfl (Do_assign (v := v240) rfl) ?_
        refine RL_do rfl rfl (Do_assign (v := .int .i64 g241) rfl) ?_
        refine RL_do rfl rfl (Do_assign (v := .int .i64 0) rfl) ?_
        refine (RL_nil (thenQ_n (hK682 _ _ ?_)))
        have hR := Option.some.inj hF
        subst hR
        refine (WP_ret (post4 (v1 := v237) (v2 := v240) (v3 := .int .i64 g241) (v4 := .int .i64 0) rfl rfl rfl rfl rfl ?_))
        exact ⟨v237, v240, rfl, H.pick [0, 1] (by decide)⟩
end Go.Proofs.YtbjhondbheijiaaGreat.L
namespace Go.Proofs.YtbjhondbheijiaaGreat.L
open Go.RowKit Go.OB Go.Lf
/- orangebox/orangeboxref5.Sorted -/
set_option maxHeartbeats 4000000 in
theorem F_ref5_Sorted_w (p0 : List Int) (v1 : Value) (r : (List Int)) (hF : F_ref5_Sorted p0 = some r) (O S : List Nat) (w : World) (H : Hd O w w S [.fz (.sl (Rp.int .i64) v1 p0)]) :
    Calls Tryz.prog 37 ([v1] : List Value).toArray w fun e w' => ∃ u3, e = .returned (u3) ∧ Hd O w w' S [.own (Rp.int .i64) u3 3 r] := by
  unfold F_ref5_Sorted at hF
  refine calls_of_WP 48 Tryz.func37 rfl rfl rfl ?_
  refine WP_seq_k fun K4 hK4 => ?_
  refine WP_region ?_
  refine RL_do rfl rfl (Do_assign (v := .slice none 0 0) rfl) ?_
  refine (RL_nil (thenQ_n (hK4 _ _ ?_)))
  refine WP_seq_k fun K5 hK5 => ?_
  refine WP_region ?_
  refine RL_do rfl rfl (Do_move (v := v1) rfl) ?_
  have H := own_nil H (Rp.int .i64) 3
  obtain ⟨x7, e8, hF⟩ := bindO_some hF
  refine RL_ex rfl rfl (Lx_app H (i := 1) rfl u42 el3 rfl rfl (Sr.of_rd (H.item (i := 0) rfl)) e8) ?_
  rintro v9 w10 H
  refine RL_do rfl rfl (Do_assign (v := v9) rfl) ?_
  refine (RL_nil (thenQ_n (hK5 _ _ ?_)))
  obtain ⟨g854, hF, hK856⟩ := bindO_some hF
  refine WP_seqS [4, 5, 8, 9, 10, 11, 12, 13, 14, 15, 16, 17, 18, 19, 20, 21, 22, 23, 24, 25, 26, 27, 28, 29, 30, 31, 32, 33, 34, 35, 36, 37, 38, 39, 40, 41, 42, 43, 44, 45, 46] (fun (g : Unit) => []) (fun g wl => Hd O w wl S [.own (Rp.int .i64) v9 3 g854]) ?_ ?_
  · skip
    refine WP_seq_k fun K857 hK857 => ?_
    refine WP_region ?_
    refine RL_do rfl rfl (Do_assign (v := .int .i64 1) rfl) ?_
    refine (RL_nil (thenQ_n (hK857 _ _ ?_)))
    refine WP_block ?_
    unfold F_ref5_Sorted_L1 at hF
    obtain ⟨B1696, n1697, eB1698, hF⟩ := loopO_some hF
    refine WP_loopS [4, 5, 8, 9, 10, 11, 12, 13, 14, 15, 16, 17, 18, 19, 20, 21, 22, 23, 24, 25, 26, 27, 28, 29, 30, 31, 32, 33, 34, 35, 36, 37, 38, 39, 40, 41, 42, 43, 44, 45, 46] (fun (g : Nat × Int × (List Int)) => [(4, .int .i64 g.2.1)]) (fun g wl => Hd O w wl S [.own (Rp.int .i64) v9 3 g.2.2] ∧ loopN B1696 g.1 (g.2.1, g.2.2) = some g854) (fun g => g.1) (n1697, 1, x7) (Sl_cons rfl Sl_nil) ⟨H.pick [1] (by decide), hF⟩ ?_
    clear H hF
    rintro ⟨n1697, g1694, g1695⟩ ρ w1700 ⟨H, hF⟩
    obtain ⟨n1701, rfl, hF⟩ := loopN_pos hF
    have hF := loop_body eB1698 hF
    refine WP_seq_k fun K1711 hK1711 => ?_
    refine WP_seq_k fun K1712 hK1712 => ?_
    refine WP_region ?_
    refine RL_do rfl rfl (Do_move (v := .int .i64 g1694) rfl) ?_
    refine RL_do rfl rfl (Do_move (v := v9) rfl) ?_
    obtain ⟨x1713, e1714, hF⟩ := letO_some hF
    obtain ⟨a1715, c1716, q1717⟩ := Sr.len (Sr.of_own (H.item (i := 0) rfl))
    refine RL_do rfl rfl (Do_as (Do_len u42 q1717) (congrArg (Value.int .i64) e1714)) ?_
    obtain ⟨x1718, e1719, hF⟩ := letO_some hF
    refine RL_do rfl rfl (Do_as (Do_lss (a := g1694) (b := x1713) rfl rfl) (congrArg Value.bool e1719)) ?_
    refine (RL_nil (thenQ_n (hK1712 _ _ ?_)))
    refine WP_ifb (b := x1718) rfl (fun c1720 => ?_) (fun c1720 => ?_)
    · have hF := iteB_t c1720 hF
      refine (WP_skip (thenQ_n (hK1711 _ _ ?_)))
      obtain ⟨g2114, hF, hK2116⟩ := bindO_some hF
      refine WP_seqS [5, 14, 15, 16, 17, 18, 19, 20, 21, 22, 23, 24, 25, 26, 27, 28, 29, 30, 31, 32, 33, 34, 35, 36, 37, 38, 39, 40, 41, 42, 43, 44, 45, 46] (fun (g : Unit) => []) (fun g wl => Hd O w wl S [.own (Rp.int .i64) v9 3 g2114]) ?_ ?_
      · skip
        refine WP_block ?_
        refine WP_seq_k fun K2117 hK2117 => ?_
        refine WP_region ?_
        refine RL_do rfl rfl (Do_move (v := .int .i64 g1694) rfl) ?_
        refine RL_do rfl rfl (Do_assign (v := .int .i64 g1694) rfl) ?_
        refine (RL_nil (thenQ_n (hK2117 _ _ ?_)))
        refine WP_block ?_
        unfold F_ref5_Sorted_L2 at hF
        obtain ⟨B2506, n2507, eB2508, hF⟩ := loopO_some hF
        refine WP_loopS [5, 15, 16, 17, 18, 19, 20, 21, 22, 23, 24, 25, 26, 27, 28, 29, 30, 31, 32, 33, 34, 35, 36, 37, 38, 39, 40, 41, 42, 43, 44, 45, 46] (fun (g : Nat × Int × (List Int)) => [(5, .int .i64 g.2.1)]) (fun g wl => Hd O w wl S [.own (Rp.int .i64) v9 3 g.2.2] ∧ loopN B2506 g.1 (g.2.1, g.2.2) = some g2114) (fun g => g.1) (n2507, g1694, g1695) (Sl_cons rfl Sl_nil) ⟨H.pick [0] (by decide), hF⟩ ?_
        clear H hF
        rintro ⟨n2507, g2504, g2505⟩ ρ w2510 ⟨H, hF⟩
        obtain ⟨n2511, rfl, hF⟩ := loopN_pos hF
        have hF := loop_body eB2508 hF
        refine WP_seq_k fun K2549 hK2549 => ?_
        obtain ⟨g2583, hF, hK2585⟩ := bindO_some hF
        refine WP_seqS [15, 16, 17, 18, 19, 20, 21, 22, 23, 24, 25, 26, 27, 28] (fun (g : Unit) => [(28, .bool g2583)]) (fun g wl => Hd O w wl S [.own (Rp.int .i64) v9 3 g2505]) ?_ ?_
        · skip
          have H2586 := H
          have H := H.rebase
          have H2587 := H
          refine WP_mix0 H [0, 1, 2, 3, 4, 5, 6, 7, 8, 9, 10, 11, 12, 13] [.pure, .pure, .pure, .pure, .pure, .pure, .read, .pure, .pure, .pure, .pure, .read, .pure, .pure] mixed (by kernel_rfl) (by kernel_rfl) (by kernel_rfl) rfl ?_
          refine Mx.XL_pure rfl rfl rfl (fun w' hw' => Do_move (v := .int .i64 g2504) rfl) ?_
          obtain ⟨x2588, e2589, hF⟩ := letO_some hF
          refine Mx.XL_pure rfl rfl rfl (fun w' hw' => Do_as (Do_gtr (a := g2504) (b := 0) rfl rfl) (congrArg Value.bool e2589)) ?_
          refine Mx.XL_splitb (b := x2588) rfl rfl rfl rfl (fun c2590 => ?_) (fun c2590 => ?_)
          · have hF := iteB_t c2590 hF
            refine Mx.XL_pure rfl rfl rfl (fun w' hw' => Do_move (v := v9) rfl) ?_
            refine Mx.XL_pure rfl rfl rfl (fun w' hw' => Do_move (v := .int .i64 g2504) rfl) ?_
            obtain ⟨x2591, e2592, hF⟩ := bindO_some hF
            obtain ⟨b2593, c2595, cs2596, q2597, h2600, h2601⟩ := own_at (H.item (i := 0) rfl) e2592
            obtain rfl : cs2596 = [.int .i64 x2591] := h2600
            refine Mx.XL_pure rfl rfl rfl (fun w' hw' => Do_idx u42 sz3 q2597 rfl (at_some e2592).1 (at_some e2592).2.1 rfl rfl) ?_
            refine Mx.XL_read oS rfl rfl rfl (fun w' hw' => Do_load one3 rfl (Cells.get (h2601.sees hw') (i := 0) rfl)) ?_
            refine Mx.XL_pure rfl rfl rfl (fun w' hw' => Do_move (v := v9) rfl) ?_
            refine Mx.XL_pure rfl rfl rfl (fun w' hw' => Do_move (v := .int .i64 g2504) rfl) ?_
            obtain ⟨x2602, e2603, hF⟩ := letO_some hF
            refine Mx.XL_pure rfl rfl rfl (fun w' hw' => Do_sub (a := g2504) (b := 1) rfl rfl e2603) ?_
            obtain ⟨x2604, e2605, hF⟩ := bindO_some hF
            obtain ⟨b2606, c2608, cs2609, q2610, h2613, h2614⟩ := own_at (H.item (i := 0) rfl) e2605
            obtain rfl : cs2609 = [.int .i64 x2604] := h2613
            refine Mx.XL_pure rfl rfl rfl (fun w' hw' => Do_idx u42 sz3 q2610 rfl (at_some e2605).1 (at_some e2605).2.1 rfl rfl) ?_
            refine Mx.XL_read oS rfl rfl rfl (fun w' hw' => Do_load one3 rfl (Cells.get (h2614.sees hw') (i := 0) rfl)) ?_
            obtain ⟨x2615, e2616, hF⟩ := letO_some hF
            refine Mx.XL_pure rfl rfl rfl (fun w' hw' => Do_as (Do_lss (a := x2591) (b := x2604) rfl rfl) (congrArg Value.bool e2616)) ?_
            refine Mx.XL_pure rfl rfl rfl (fun w' hw' => Do_pick_t (v := .bool x2615) rfl rfl) ?_
            refine Mx.XL_nil fun w2617 hS => ?_
            have H := H.sees hS
            have H := H2586.rejoin H
            have hR := Option.some.inj hF
            subst hR
            refine (thenQ_n (And.intro ?_ ?_))
            · repeat' (first | with_reducible exact Fr_refl | refine Fr_upd rfl ?_ | refine Fr_over rfl rfl ?_)
            · exact ⟨(), (Sl_cons rfl Sl_nil), H.pick [0] (by decide)⟩
          · have hF := iteB_f c2590 hF
            refine Mx.XL_offp rfl rfl rfl ?_
            refine Mx.XL_offp rfl rfl rfl ?_
            refine Mx.XL_offp rfl rfl rfl ?_
            refine Mx.XL_offr oS rfl rfl rfl ?_
            refine Mx.XL_offp rfl rfl rfl ?_
            refine Mx.XL_offp rfl rfl rfl ?_
            refine Mx.XL_offp rfl rfl rfl ?_
            refine Mx.XL_offp rfl rfl rfl ?_
            refine Mx.XL_offr oS rfl rfl rfl ?_
            refine Mx.XL_offp rfl rfl rfl ?_
            refine Mx.XL_pure rfl rfl rfl (fun w' hw' => Do_pick_f (v := .bool false) rfl rfl) ?_
            refine Mx.XL_nil fun w2618 hS => ?_
            have H := H.sees hS
            have H := H2586.rejoin H
            have hR := Option.some.inj hF
            subst hR
            refine (thenQ_n (And.intro ?_ ?_))
            · repeat' (first | with_reducible exact Fr_refl | refine Fr_upd rfl ?_ | refine Fr_over rfl rfl ?_)
            · exact ⟨(), (Sl_cons rfl Sl_nil), H.pick [0] (by decide)⟩
        · rintro _ ρ w2584 H
          have hF := hK2585
          refine WP_ifb (b := g2583) rfl (fun c2619 => ?_) (fun c2619 => ?_)
          · have hF := iteB_t c2619 hF
            refine (WP_skip (thenQ_n (hK2549 _ _ ?_)))
            refine WP_seq_k fun K2677 hK2677 => ?_
            refine WP_block ?_
            have H2678 := H
            have H := H.rebase
            have H2679 := H
            refine WP_mix0 H [0, 1, 2, 3, 4, 5, 6, 7, 8, 9, 10, 11, 12, 13, 14, 15, 16, 17] [.pure, .pure, .pure, .pure, .pure, .pure, .pure, .pure, .pure, .read, .pure, .pure, .pure, .read, .pure, .eff, .pure, .eff] mixed (by kernel_rfl) (by kernel_rfl) (by kernel_rfl) rfl ?_
            refine Mx.XL_pure rfl rfl rfl (fun w' hw' => Do_move (v := v9) rfl) ?_
            refine Mx.XL_pure rfl rfl rfl (fun w' hw' => Do_move (v := .int .i64 g2504) rfl) ?_
            refine Mx.XL_pure rfl rfl rfl (fun w' hw' => Do_move (v := v9) rfl) ?_
            refine Mx.XL_pure rfl rfl rfl (fun w' hw' => Do_move (v := .int .i64 g2504) rfl) ?_
            obtain ⟨x2680, e2681, hF⟩ := letO_some hF
            refine Mx.XL_pure rfl rfl rfl (fun w' hw' => Do_sub (a := g2504) (b := 1) rfl rfl e2681) ?_
            refine Mx.XL_pure rfl rfl rfl (fun w' hw' => Do_move (v := v9) rfl) ?_
            refine Mx.XL_pure rfl rfl rfl (fun w' hw' => Do_move (v := .int .i64 g2504) rfl) ?_
            obtain ⟨x2682, e2683, hF⟩ := letO_some hF
            refine Mx.XL_pure rfl rfl rfl (fun w' hw' => Do_sub (a := g2504) (b := 1) rfl rfl e2683) ?_
            obtain ⟨x2684, e2685, hF⟩ := bindO_some hF
            obtain ⟨b2686, c2688, cs2689, q2690, h2693, h2694⟩ := own_at (H.item (i := 0) rfl) e2685
            obtain rfl : cs2689 = [.int .i64 x2684] := h2693
            refine Mx.XL_pure rfl rfl rfl (fun w' hw' => Do_idx u42 sz3 q2690 rfl (at_some e2685).1 (at_some e2685).2.1 rfl rfl) ?_
            refine Mx.XL_read oS rfl rfl rfl (fun w' hw' => Do_load one3 rfl (Cells.get (h2694.sees hw') (i := 0) rfl)) ?_
            refine Mx.XL_pure rfl rfl rfl (fun w' hw' => Do_move (v := v9) rfl) ?_
            refine Mx.XL_pure rfl rfl rfl (fun w' hw' => Do_move (v := .int .i64 g2504) rfl) ?_
            obtain ⟨x2695, e2696, hF⟩ := bindO_some hF
            obtain ⟨b2697, c2699, cs2700, q2701, h2704, h2705⟩ := own_at (H.item (i := 0) rfl) e2696
            obtain rfl : cs2700 = [.int .i64 x2695] := h2704
            refine Mx.XL_pure rfl rfl rfl (fun w' hw' => Do_idx u42 sz3 q2701 rfl (at_some e2696).1 (at_some e2696).2.1 rfl rfl) ?_
            refine Mx.XL_read oS rfl rfl rfl (fun w' hw' => Do_load one3 rfl (Cells.get (h2705.sees hw') (i := 0) rfl)) ?_
            obtain ⟨x2706, e2707, hF⟩ := bindO_some hF
            obtain ⟨b2708, c2710, cs2711, q2712, h2715, h2716⟩ := own_at (H.item (i := 0) rfl) e2707
            obtain rfl : cs2711 = [.int .i64 x2706] := h2715
            refine Mx.XL_pure rfl rfl rfl (fun w' hw' => Do_idx u42 sz3 q2712 rfl (at_some e2707).1 (at_some e2707).2.1 rfl rfl) ?_
            obtain ⟨x2717, e2718, hF⟩ := bindO_some hF
            refine Mx.XL_exU oS rfl rfl (fun w' hw' => Lx_own_store (vs := [.int .i64 x2684]) (off := 0) (H.sees hw') 0 rfl q2712 (h2716.sees hw') rfl sz3 rfl rfl rfl (allone_mem ⟨rfl, trivial⟩) e2718 (by decide) rfl rfl) ?_
            rintro w' w2719 hw' H
            refine ⟨H.only, ?_⟩
            obtain ⟨x2720, e2721, hF⟩ := bindO_some hF
            obtain ⟨b2722, c2724, cs2725, q2726, h2729, h2730⟩ := own_at (H.item (i := 0) rfl) e2721
            obtain rfl : cs2725 = [.int .i64 x2720] := h2729
            refine Mx.XL_pure rfl rfl rfl (fun w' hw' => Do_idx u42 sz3 q2726 rfl (at_some e2721).1 (at_some e2721).2.1 rfl rfl) ?_
            obtain ⟨x2731, e2732, hF⟩ := bindO_some hF
            refine Mx.XL_exU oS rfl rfl (fun w' hw' => Lx_own_store (vs := [.int .i64 x2695]) (off := 0) (H.sees hw') 0 rfl q2726 (h2730.sees hw') rfl sz3 rfl rfl rfl (allone_mem ⟨rfl, trivial⟩) e2732 (by decide) rfl rfl) ?_
            rintro w' w2733 hw' H
            refine ⟨H.only, ?_⟩
            refine Mx.XL_nil fun w2734 hS => ?_
            have H := H.sees hS
            have H := H2678.rejoin H
            refine (blockQ_n (thenQ_n (hK2677 _ _ ?_)))
            refine WP_region ?_
            refine RL_do rfl rfl (Do_move (v := .int .i64 g2504) rfl) ?_
            obtain ⟨x2735, e2736, hF⟩ := letO_some hF
            refine RL_do rfl rfl (Do_sub (a := g2504) (b := 1) rfl rfl e2736) ?_
            refine RL_do rfl rfl (Do_assign (v := .int .i64 x2735) rfl) ?_
            refine (RL_nil (thenQ_n (And.intro ?_ ?_)))
            · repeat' (first | with_reducible exact Fr_refl | refine Fr_upd rfl ?_ | refine Fr_over rfl rfl ?_)
            · exact ⟨(n2511, x2735, x2731), (Sl_cons rfl Sl_nil), ⟨H.pick [0] (by decide), hF⟩, Nat.lt_succ_self _⟩
          · have hF := iteB_f c2619 hF
            have hR := Option.some.inj hF
            subst hR
            refine (WP_exit (thenQ_x (thenQ_x (blockQ_eq (blockQ_n (thenQ_n (And.intro ?_ ?_)))))))
            · repeat' (first | with_reducible exact Fr_refl | refine Fr_upd rfl ?_ | refine Fr_over rfl rfl ?_)
            · exact ⟨(), Sl_nil, H.pick [0] (by decide)⟩
      · rintro _ ρ w2115 H
        have hF := hK2116
        refine WP_region ?_
        refine RL_do rfl rfl (Do_move (v := .int .i64 g1694) rfl) ?_
        obtain ⟨x2737, e2738, hF⟩ := letO_some hF
        refine RL_do rfl rfl (Do_add (a := g1694) (b := 1) rfl rfl e2738) ?_
        refine RL_do rfl rfl (Do_assign (v := .int .i64 x2737) rfl) ?_
        refine (RL_nil (thenQ_n (And.intro ?_ ?_)))
        · repeat' (first | with_reducible exact Fr_refl | refine Fr_upd rfl ?_ | refine Fr_over rfl rfl ?_)
        · exact ⟨(n1701, x2737, g2114), (Sl_cons rfl Sl_nil), ⟨H.pick [0] (by decide), hF⟩, Nat.lt_succ_self _⟩
    · have hF := iteB_f c1720 hF
      have hR := Option.some.inj hF
      subst hR
      refine (WP_exit (thenQ_x (thenQ_x (blockQ_eq (thenQ_n (And.intro ?_ ?_))))))
      · repeat' (first | with_reducible exact Fr_refl | refine Fr_upd rfl ?_ | refine Fr_over rfl rfl ?_)
      · exact ⟨(), Sl_nil, H.pick [0] (by decide)⟩
  · rintro _ ρ w855 H
    have hF := hK856
    refine WP_seq_k fun K2739 hK2739 => ?_
    refine WP_region ?_
    refine RL_do rfl rfl (Do_move (v := v9) rfl) ?_
    refine RL_do rfl rfl (Do_assign (v := v9) rfl) ?_
    refine (RL_nil (thenQ_n (hK2739 _ _ ?_)))
    have hR := Option.some.inj hF
    subst hR
    refine (WP_ret (post1 (v1 := v9) rfl rfl ?_))
    exact ⟨v9, rfl, H.pick [0] (by decide)⟩
end Go.Proofs.YtbjhondbheijiaaGreat.L
namespace Go.Proofs.YtbjhondbheijiaaGreat.L
open Go.RowKit Go.OB Go.Lf
/- orangebox/orangeboxref9.ranked -/
set_option maxHeartbeats 4000000 in
theorem F_ref9_ranked_w (p0 : List Int) (p1 : Int) (p2 : Int) (v1 : Value) (r : Int) (hF : F_ref9_ranked p0 p1 p2 = some r) (O S : List Nat) (w : World) (H : Hd O w w S [.fz (.sl (Rp.int .i64) v1 p0)]) :
    Calls Tryz.prog 15 ([v1, .int .i64 p1, .int .i64 p2] : List Value).toArray w fun e w' => e = .returned (.int .i64 r) ∧ Hd O w w' S [] := by
  unfold F_ref9_ranked at hF
  refine calls_of_WP 24 Tryz.func15 rfl rfl rfl ?_
  refine WP_seq_k fun K3 hK3 => ?_
  refine WP_region ?_
  refine RL_do rfl rfl (Do_assign (v := .int .i64 0) rfl) ?_
  refine (RL_nil (thenQ_n (hK3 _ _ ?_)))
  refine WP_seq_k fun K4 hK4 => ?_
  refine WP_region ?_
  refine RL_do rfl rfl (Do_move (v := v1) rfl) ?_
  obtain ⟨x5, e6, hF⟩ := letO_some hF
  obtain ⟨a7, c8, q9⟩ := SlF.len ((H.item (i := 0) rfl))
  refine RL_do rfl rfl (Do_as (Do_len u42 q9) (congrArg (Value.int .i64) e6)) ?_
  refine RL_do rfl rfl (Do_move (v := .int .i64 p1) rfl) ?_
  obtain ⟨x10, e11, hF⟩ := letO_some hF
  refine RL_do rfl rfl (Do_mul (a := x5) (b := p1) rfl rfl e11) ?_
  refine RL_do rfl rfl (Do_move (v := .int .i64 p2) rfl) ?_
  obtain ⟨x12, e13, hF⟩ := letO_some hF
  refine RL_do rfl rfl (Do_add (a := x10) (b := p2) rfl rfl e13) ?_
  obtain ⟨x14, e15, hF⟩ := letO_some hF
  refine RL_do rfl rfl (Do_sub (a := x12) (b := 1) rfl rfl e15) ?_
  refine RL_do rfl rfl (Do_move (v := .int .i64 p2) rfl) ?_
  obtain ⟨x16, e17, hF⟩ := bindO_some hF
  refine RL_do rfl rfl (Do_quo' (j := x14) (q := p2) rfl rfl e17) ?_
  refine RL_do rfl rfl (Do_assign (v := .int .i64 x16) rfl) ?_
  refine (RL_nil (thenQ_n (hK4 _ _ ?_)))
  refine WP_seq_k fun K18 hK18 => ?_
  refine WP_region ?_
  refine RL_do rfl rfl (Do_move (v := v1) rfl) ?_
  obtain ⟨x19, e20, hF⟩ := bindO_some hF
  refine RL_call rfl rfl (DoC_func en37 rfl) (F_ref5_Sorted_w p0 v1 _ e20 _ _ _ (H.enter [] [0] (by decide) rfl)) ?_
  rintro _ w23 ⟨v21, rfl, G24⟩
  have H := H.back1 [0] rfl G24
  refine ⟨_, rfl, ?_⟩
  refine RL_do rfl rfl (Do_move (v := .int .i64 x16) rfl) ?_
  obtain ⟨x25, e26, hF⟩ := letO_some hF
  refine RL_do rfl rfl (Do_max (j := x16) (q := 1) rfl rfl e26) ?_
  obtain ⟨x27, e28, hF⟩ := letO_some hF
  refine RL_do rfl rfl (Do_sub (a := x25) (b := 1) rfl rfl e28) ?_
  obtain ⟨x29, e30, hF⟩ := bindO_some hF
  obtain ⟨b31, c33, cs34, q35, h38, h39⟩ := own_at (H.item (i := 1) rfl) e30
  obtain rfl : cs34 = [.int .i64 x29] := h38
  refine RL_do rfl rfl (Do_idx u42 sz3 q35 rfl (at_some e30).1 (at_some e30).2.1 rfl rfl) ?_
  refine RL_do rfl rfl (Do_load one3 rfl (Cells.get h39 (i := 0) rfl)) ?_
  refine RL_do rfl rfl (Do_assign (v := .int .i64 x29) rfl) ?_
  refine (RL_nil (thenQ_n (hK18 _ _ ?_)))
  have hR := Option.some.inj hF
  subst hR
  refine (WP_ret (post1 (v1 := .int .i64 x29) rfl rfl ?_))
  exact ⟨rfl, H.pick [] (by decide)⟩
end Go.Proofs.YtbjhondbheijiaaGreat.L
namespace Go.Proofs.YtbjhondbheijiaaGreat.L
open Go.RowKit Go.OB Go.Lf
/- orangebox/orangeboxref9.Quantile -/
set_option maxHeartbeats 4000000 in
theorem F_ref9_Quantile_w (p0 : List Flight) (p1 : Mask) (p2 : Str) (p3 : Int) (p4 : Int) (v1 : Value) (v3 : Value) (v4 : Value) (r : Int × Int) (hF : F_ref9_Quantile p0 p1 p2 p3 p4 = some r) (O S : List Nat) (w : World) (H : Hd O w w S [.fz (.sl rFlight v1 p0), .fz (.sl Rp.str v3 p1.Hide), .fz (.sl rGrain v4 p1.Grains)]) :
    Calls Tryz.prog 5 ([v1, .agg [.bool p1.Tails, .int .i64 p1.Days, v3, v4, .int .i64 p1.Least].toArray, .string (bs p2), .int .i64 p3, .int .i64 p4] : List Value).toArray w fun e w' => e = .returned (.tuple #[.int .i64 r.1, .int .i64 r.2]) ∧ Hd O w w' S [] := by
  unfold F_ref9_Quantile at hF
  refine calls_of_WP 51 Tryz.func5 rfl rfl rfl ?_
  refine WP_seq_k fun K7 hK7 => ?_
  refine WP_region ?_
  refine RL_ex rfl rfl (Lx_box (cs := [.bool p1.Tails, .int .i64 p1.Days, v3, v4, .int .i64 p1.Least]) rfl H) ?_
  rintro _ w10 ⟨b8, rfl, H⟩
  refine RL_do rfl rfl (Do_assign (v := .int .i64 0) rfl) ?_
  refine RL_do rfl rfl (Do_assign (v := .int .i64 0) rfl) ?_
  refine (RL_nil (thenQ_n (hK7 _ _ ?_)))
  refine WP_seq_k fun K22 hK22 => ?_
  refine WP_seq_k fun K23 hK23 => ?_
  refine WP_region ?_
  refine RL_do rfl rfl (Do_move (v := v1) rfl) ?_
  refine RL_do rfl rfl (Do_as (Do_loads (cs := [.bool p1.Tails, .int .i64 p1.Days, v3, v4, .int .i64 p1.Least]) agg26 rfl sz26 rfl (Blk.cells (H.item (i := 3) rfl))) rfl) ?_
  refine RL_do rfl rfl (Do_move (v := .string (bs p2)) rfl) ?_
  have H24 := H
  obtain ⟨x25, e26, hF⟩ := bindO_some hF
  refine RL_call rfl rfl (DoC_func en12 rfl) (F_ref9_peaksFault_w p0 p1 p2 v1 v3 v4 _ e26 _ _ _ (H.enter [] [0, 1, 2] (by decide) rfl)) ?_
  rintro _ w27 ⟨rfl, G28⟩
  have H := H24.step (G28.only : Only [] _ _)
  refine ⟨_, rfl, ?_⟩
  refine RL_do rfl rfl (Do_assign (v := .int .i64 x25) rfl) ?_
  refine (RL_nil (thenQ_n (hK23 _ _ ?_)))
  refine WP_seq_k fun K29 hK29 => ?_
  refine WP_region ?_
  refine RL_do rfl rfl (Do_move (v := .int .i64 x25) rfl) ?_
  obtain ⟨x30, e31, hF⟩ := letO_some hF
  refine RL_do rfl rfl (Do_as (Do_neq (a := x25) (b := 0) rfl rfl) (congrArg Value.bool e31)) ?_
  refine (RL_nil (thenQ_n (hK29 _ _ ?_)))
  refine WP_ifb (b := x30) rfl (fun c32 => ?_) (fun c32 => ?_)
  · have hF := iteB_t c32 hF
    refine WP_seq_k fun K33 hK33 => ?_
    refine WP_region ?_
    refine RL_do rfl rfl (Do_move (v := .int .i64 x25) rfl) ?_
    refine RL_do rfl rfl (Do_assign (v := .int .i64 0) rfl) ?_
    refine RL_do rfl rfl (Do_assign (v := .int .i64 x25) rfl) ?_
    refine (RL_nil (thenQ_n (hK33 _ _ ?_)))
    have hR := Option.some.inj hF
    subst hR
    refine (WP_ret (thenQ_r (post2 (v1 := .int .i64 0) (v2 := .int .i64 x25) rfl rfl rfl ?_)))
    exact ⟨rfl, H.pick [] (by decide)⟩
  · have hF := iteB_f c32 hF
    refine (WP_skip (thenQ_n (hK22 _ _ ?_)))
    refine WP_seq_k fun K34 hK34 => ?_
    refine WP_region ?_
    refine RL_do rfl rfl (Do_move (v := v1) rfl) ?_
    refine RL_do rfl rfl (Do_as (Do_loads (cs := [.bool p1.Tails, .int .i64 p1.Days, v3, v4, .int .i64 p1.Least]) agg26 rfl sz26 rfl (Blk.cells (H.item (i := 3) rfl))) rfl) ?_
    refine RL_do rfl rfl (Do_move (v := .string (bs p2)) rfl) ?_
    obtain ⟨⟨x35, x36, x37, x38⟩, e39, hF⟩ := bindO_some hF
    refine RL_call rfl rfl (DoC_func en13 rfl) (F_ref9_peaks_w p0 p1 p2 v1 v3 v4 _ e39 _ _ _ (H.enter [] [0, 1, 2] (by decide) rfl)) ?_
    rintro _ w44 ⟨v40, v42, rfl, G45⟩
    have H := H.back1 [0, 1, 2] rfl G45
    refine ⟨_, rfl, ?_⟩
    refine RL_do rfl rfl (Do_move (v := .tuple #[v40, v42, .int .i64 x37, .int .i64 x38]) rfl) ?_
    refine RL_do rfl rfl (Do_extract (v := v40) rfl rfl) ?_
    refine RL_do rfl rfl (Do_extract (v := v42) rfl rfl) ?_
    refine RL_do rfl rfl (Do_extract (v := .int .i64 x37) rfl rfl) ?_
    refine RL_do rfl rfl (Do_extract (v := .int .i64 x38) rfl rfl) ?_
    refine RL_do rfl rfl (Do_assign (v := v40) rfl) ?_
    refine RL_do rfl rfl (Do_assign (v := v42) rfl) ?_
    refine RL_do rfl rfl (Do_assign (v := .int .i64 x37) rfl) ?_
    refine RL_do rfl rfl (Do_assign (v := .int .i64 x38) rfl) ?_
    refine (RL_nil (thenQ_n (hK34 _ _ ?_)))
    refine WP_seq_k fun K51 hK51 => ?_
    refine WP_seq_k fun K52 hK52 => ?_
    refine WP_region ?_
    refine RL_do rfl rfl (Do_move (v := .int .i64 x38) rfl) ?_
    obtain ⟨x53, e54, hF⟩ := letO_some hF
    refine RL_do rfl rfl (Do_as (Do_neq (a := x38) (b := 0) rfl rfl) (congrArg Value.bool e54)) ?_
    refine (RL_nil (thenQ_n (hK52 _ _ ?_)))
    refine WP_ifb (b := x53) rfl (fun c55 => ?_) (fun c55 => ?_)
    · have hF := iteB_t c55 hF
      refine WP_seq_k fun K56 hK56 => ?_
      refine WP_region ?_
      refine RL_do rfl rfl (Do_move (v := .int .i64 x38) rfl) ?_
      refine RL_do rfl rfl (Do_assign (v := .int .i64 0) rfl) ?_
      refine RL_do rfl rfl (Do_assign (v := .int .i64 x38) rfl) ?_
      refine (RL_nil (thenQ_n (hK56 _ _ ?_)))
      have hR := Option.some.inj hF
      subst hR
      refine (WP_ret (thenQ_r (post2 (v1 := .int .i64 0) (v2 := .int .i64 x38) rfl rfl rfl ?_)))
      exact ⟨rfl, H.pick [] (by decide)⟩
    · have hF := iteB_f c55 hF
      refine (WP_skip (thenQ_n (hK51 _ _ ?_)))
      refine WP_seq_k fun K73 hK73 => ?_
      obtain ⟨g85, hF, hK87⟩ := bindO_some hF
      refine WP_seqS [36, 37, 38, 39, 40, 41, 42, 43, 44, 45, 46] (fun (g : Unit) => [(46, .bool g85)]) (fun g wl => Hd O w wl S [.own (Rp.int .i64) v40 3 x35]) ?_ ?_
      · skip
        refine WP_region ?_
        refine RL_do rfl rfl (Do_move (v := .int .i64 p3) rfl) ?_
        obtain ⟨x88, e89, hF⟩ := letO_some hF
        refine RL_do rfl rfl (Do_as (Do_lss (a := p3) (b := 0) rfl rfl) (congrArg Value.bool e89)) ?_
        refine RL_splitb (b := x88) rfl rfl rfl (fun c90 => ?_) (fun c90 => ?_)
        · have hF := iteB_t c90 hF
          refine RL_off rfl rfl ?_
          refine RL_off rfl rfl ?_
          refine RL_off rfl rfl ?_
          refine RL_do rfl rfl (Do_pick_t (v := .bool true) rfl rfl) ?_
          refine RL_do rfl rfl (Do_move (v := .bool true) rfl) ?_
          refine RL_off rfl rfl ?_
          refine RL_off rfl rfl ?_
          refine RL_do rfl rfl (Do_pick_t (v := .bool true) rfl rfl) ?_
          have hR := Option.some.inj hF
          subst hR
          refine (RL_nil (thenQ_n (And.intro ?_ ?_)))
          · repeat' (first | with_reducible exact Fr_refl | refine Fr_upd rfl ?_ | refine Fr_over rfl rfl ?_)
          · exact ⟨(), (Sl_cons rfl Sl_nil), H.pick [4] (by decide)⟩
        · have hF := iteB_f c90 hF
          refine RL_do rfl rfl (Do_move (v := .int .i64 p3) rfl) ?_
          refine RL_do rfl rfl (Do_move (v := .int .i64 p4) rfl) ?_
          obtain ⟨x91, e92, hF⟩ := letO_some hF
          refine RL_do rfl rfl (Do_as (Do_gtr (a := p3) (b := p4) rfl rfl) (congrArg Value.bool e92)) ?_
          refine RL_do rfl rfl (Do_pick_f (v := .bool x91) rfl rfl) ?_
          refine RL_splitb (b := x91) rfl rfl rfl (fun c93 => ?_) (fun c93 => ?_)
          · have hF := iteB_t c93 hF
            refine RL_off rfl rfl ?_
            refine RL_off rfl rfl ?_
            refine RL_do rfl rfl (Do_pick_t (v := .bool true) rfl rfl) ?_
            have hR := Option.some.inj hF
            subst hR
            refine (RL_nil (thenQ_n (And.intro ?_ ?_)))
            · repeat' (first | with_reducible exact Fr_refl | refine Fr_upd rfl ?_ | refine Fr_over rfl rfl ?_)
            · exact ⟨(), (Sl_cons rfl Sl_nil), H.pick [4] (by decide)⟩
          · have hF := iteB_f c93 hF
            refine RL_do rfl rfl (Do_move (v := .int .i64 p4) rfl) ?_
            have H94 := H
            obtain ⟨x95, e96, hF⟩ := bindO_some hF
            refine RL_call rfl rfl (DoC_func en14 rfl) (F_ref9_outside_w p4 1 1000000 _ e96 _ _ _ (H.enter [] [] (by decide) rfl)) ?_
            rintro _ w97 ⟨rfl, G98⟩
            have H := H94.step (G98.only : Only [] _ _)
            refine ⟨_, rfl, ?_⟩
            refine RL_do rfl rfl (Do_pick_f (v := .bool x95) rfl rfl) ?_
            have hR := Option.some.inj hF
            subst hR
            refine (RL_nil (thenQ_n (And.intro ?_ ?_)))
            · repeat' (first | with_reducible exact Fr_refl | refine Fr_upd rfl ?_ | refine Fr_over rfl rfl ?_)
            · exact ⟨(), (Sl_cons rfl Sl_nil), H.pick [4] (by decide)⟩
      · rintro _ ρ w86 H
        have hF := hK87
        refine WP_ifb (b := g85) rfl (fun c99 => ?_) (fun c99 => ?_)
        · have hF := iteB_t c99 hF
          refine WP_seq_k fun K100 hK100 => ?_
          refine WP_region ?_
          refine RL_do rfl rfl (Do_assign (v := .int .i64 0) rfl) ?_
          refine RL_do rfl rfl (Do_assign (v := .int .i64 9) rfl) ?_
          refine (RL_nil (thenQ_n (hK100 _ _ ?_)))
          have hR := Option.some.inj hF
          subst hR
          refine (WP_ret (thenQ_r (post2 (v1 := .int .i64 0) (v2 := .int .i64 9) rfl rfl rfl ?_)))
          exact ⟨rfl, H.pick [] (by decide)⟩
        · have hF := iteB_f c99 hF
          refine (WP_skip (thenQ_n (hK73 _ _ ?_)))
          refine WP_seq_k fun K101 hK101 => ?_
          refine WP_region ?_
          refine RL_do rfl rfl (Do_move (v := v40) rfl) ?_
          refine RL_do rfl rfl (Do_move (v := .int .i64 p3) rfl) ?_
          refine RL_do rfl rfl (Do_move (v := .int .i64 p4) rfl) ?_
          have H102 := H
          have H := H.freeze (i := 0) rfl
          obtain ⟨x103, e104, hF⟩ := bindO_some hF
          refine RL_call rfl rfl (DoC_func en15 rfl) (F_ref9_ranked_w x35 p3 p4 v40 _ e104 _ _ _ (H.enter [] [0] (by decide) rfl)) ?_
          rintro _ w105 ⟨rfl, G106⟩
          have H := H102.step (G106.only : Only [] _ _)
          refine ⟨_, rfl, ?_⟩
          refine RL_do rfl rfl (Do_assign (v := .int .i64 x103) rfl) ?_
          refine RL_do rfl rfl (Do_assign (v := .int .i64 0) rfl) ?_
          refine (RL_nil (thenQ_n (hK101 _ _ ?_)))
          have hR := Option.some.inj hF
          subst hR
          refine (WP_ret (post2 (v1 := .int .i64 x103) (v2 := .int .i64 0) rfl rfl rfl ?_))
          exact ⟨rfl, H.pick [] (by decide)⟩
end Go.Proofs.YtbjhondbheijiaaGreat.L
namespace Go.Proofs.YtbjhondbheijiaaGreat.L
open Go.RowKit Go.OB Go.Lf
/- orangebox/fleet.sum -/
set_option maxHeartbeats 4000000 in
theorem F_fleet_sum_w (p0 : List Int) (v1 : Value) (r : Int) (hF : F_fleet_sum p0 = some r) (O S : List Nat) (w : World) (H : Hd O w w S [.fz (.sl (Rp.int .i64) v1 p0)]) :
    Calls Tryz.prog 16 ([v1] : List Value).toArray w fun e w' => e = .returned (.int .i64 r) ∧ Hd O w w' S [] := by
  unfold F_fleet_sum at hF
  refine calls_of_WP 17 Tryz.func16 rfl rfl rfl ?_
  refine WP_seq_k fun K3 hK3 => ?_
  refine WP_region ?_
  refine RL_do rfl rfl (Do_assign (v := .int .i64 0) rfl) ?_
  refine (RL_nil (thenQ_n (hK3 _ _ ?_)))
  refine WP_seq_k fun K4 hK4 => ?_
  refine WP_region ?_
  refine RL_do rfl rfl (Do_assign (v := .int .i64 0) rfl) ?_
  refine (RL_nil (thenQ_n (hK4 _ _ ?_)))
  obtain ⟨g97, hF, hK99⟩ := bindO_some hF
  refine WP_seqS [3, 5, 6, 7, 8, 9, 10, 11, 12, 13, 14, 15] (fun (g : Unit) => [(3, .int .i64 g97)]) (fun g wl => Hd O w wl S []) ?_ ?_
  · skip
    refine WP_seq_k fun K100 hK100 => ?_
    refine WP_region ?_
    refine RL_do rfl rfl (Do_move (v := v1) rfl) ?_
    obtain ⟨x101, e102, hF⟩ := letO_some hF
    obtain ⟨a103, c104, q105⟩ := SlF.len ((H.item (i := 0) rfl))
    refine RL_do rfl rfl (Do_as (Do_len u42 q105) (congrArg (Value.int .i64) e102)) ?_
    refine RL_do rfl rfl (Do_move (v := .int .i64 0) rfl) ?_
    refine (RL_nil (thenQ_n (hK100 _ _ ?_)))
    refine WP_block ?_
    unfold F_fleet_sum_L1 at hF
    obtain ⟨B188, n189, eB190, hF⟩ := loopO_some hF
    refine WP_loopS [3, 5, 8, 9, 10, 11, 12, 13, 14, 15] (fun (g : Nat × Int × Int) => [(3, .int .i64 g.2.1), (8, .int .i64 g.2.2)]) (fun g wl => Hd O w wl S [.fz (.sl (Rp.int .i64) v1 p0)] ∧ loopN B188 g.1 (g.2.1, g.2.2) = some g97) (fun g => g.1) (n189, 0, 0) (Sl_cons rfl (Sl_cons rfl Sl_nil)) ⟨H.pick [0] (by decide), hF⟩ ?_
    clear H hF
    rintro ⟨n189, g186, g187⟩ ρ w192 ⟨H, hF⟩
    obtain ⟨n193, rfl, hF⟩ := loopN_pos hF
    have hF := loop_body eB190 hF
    refine WP_seq_k fun K194 hK194 => ?_
    refine WP_region ?_
    obtain ⟨x195, e196, hF⟩ := letO_some hF
    refine RL_do rfl rfl (Do_as (Do_lss (a := g187) (b := x101) rfl rfl) (congrArg Value.bool e196)) ?_
    refine (RL_nil (thenQ_n (hK194 _ _ ?_)))
    refine WP_seq_k fun K198 hK198 => ?_
    refine WP_ifb (b := x195) rfl (fun c199 => ?_) (fun c199 => ?_)
    · have hF := iteB_t c199 hF
      refine (WP_skip (thenQ_n (hK198 _ _ ?_)))
      refine WP_seq_k fun K215 hK215 => ?_
      refine WP_block ?_
      refine WP_seq_k fun K216 hK216 => ?_
      refine WP_region ?_
      obtain ⟨x217, e218, hF⟩ := bindO_some hF
      obtain ⟨b219, o220, c221, cs222, q223, h226, h224, h225, h227⟩ := rd_at (H.item (i := 0) rfl) e218
      obtain rfl : cs222 = [.int .i64 x217] := h226
      have H := H.fz (.at b219 (o220 + g187.toNat * 1) _) ⟨h224, h225, h227⟩
      refine RL_do rfl rfl (Do_idx u42 sz3 q223 rfl (at_some e218).1 (at_some e218).2.1 rfl rfl) ?_
      refine RL_do rfl rfl (Do_load one3 rfl (Cells.get (H.item (i := 1) rfl).2.2 (i := 0) rfl)) ?_
      refine RL_do rfl rfl (Do_assign (v := .int .i64 x217) rfl) ?_
      refine (RL_nil (thenQ_n (hK216 _ _ ?_)))
      refine WP_region ?_
      refine RL_do rfl rfl (Do_move (v := .int .i64 g186) rfl) ?_
      refine RL_do rfl rfl (Do_move (v := .int .i64 x217) rfl) ?_
      obtain ⟨x229, e230, hF⟩ := letO_some hF
      refine RL_do rfl rfl (Do_add (a := g186) (b := x217) rfl rfl e230) ?_
      refine RL_do rfl rfl (Do_assign (v := .int .i64 x229) rfl) ?_
      refine (RL_nil (blockQ_n (thenQ_n (hK215 _ _ ?_))))
      refine WP_region ?_
      obtain ⟨x231, e232, hF⟩ := letO_some hF
      refine RL_do rfl rfl (Do_add (a := g187) (b := 1) rfl rfl e232) ?_
      refine RL_do rfl rfl (Do_move (v := .int .i64 x231) rfl) ?_
      refine (RL_nil (thenQ_n (And.intro ?_ ?_)))
      · repeat' (first | with_reducible exact Fr_refl | refine Fr_upd rfl ?_ | refine Fr_over rfl rfl ?_)
      · exact ⟨(n193, x229, x231), (Sl_cons rfl (Sl_cons rfl Sl_nil)), ⟨H.pick [0] (by decide), hF⟩, Nat.lt_succ_self _⟩
    · have hF := iteB_f c199 hF
      have hR := Option.some.inj hF
      subst hR
      refine (WP_exit (thenQ_x (thenQ_x (blockQ_eq (thenQ_n (And.intro ?_ ?_))))))
      · repeat' (first | with_reducible exact Fr_refl | refine Fr_upd rfl ?_ | refine Fr_over rfl rfl ?_)
      · exact ⟨(), (Sl_cons rfl Sl_nil), H.pick [] (by decide)⟩
  · rintro _ ρ w98 H
    have hF := hK99
    refine WP_seq_k fun K233 hK233 => ?_
    refine WP_region ?_
    refine RL_do rfl rfl (Do_move (v := .int .i64 g97) rfl) ?_
    refine RL_do rfl rfl (Do_assign (v := .int .i64 g97) rfl) ?_
    refine (RL_nil (thenQ_n (hK233 _ _ ?_)))
    have hR := Option.some.inj hF
    subst hR
    refine (WP_ret (post1 (v1 := .int .i64 g97) rfl rfl ?_))
    exact ⟨rfl, H.pick [] (by decide)⟩
end Go.Proofs.YtbjhondbheijiaaGreat.L
namespace Go.Proofs.YtbjhondbheijiaaGreat.L
open Go.RowKit Go.OB Go.Lf
/- orangebox/fleet.divisor -/
set_option maxHeartbeats 4000000 in
theorem F_fleet_divisor_w (p0 : Int) (p1 : Int) (r : Int) (hF : F_fleet_divisor p0 p1 = some r) (O S : List Nat) (w : World) (H : Hd O w w S []) :
    Calls Tryz.prog 38 ([.int .i64 p0, .int .i64 p1] : List Value).toArray w fun e w' => e = .returned (.int .i64 r) ∧ Hd O w w' S [] := by
  unfold F_fleet_divisor at hF
  refine calls_of_WP 20 Tryz.func38 rfl rfl rfl ?_
  refine WP_seq_k fun K1 hK1 => ?_
  refine WP_region ?_
  refine RL_do rfl rfl (Do_assign (v := .int .i64 0) rfl) ?_
  refine (RL_nil (thenQ_n (hK1 _ _ ?_)))
  refine WP_seq_k fun K2 hK2 => ?_
  refine WP_region ?_
  refine RL_do rfl rfl (Do_move (v := .int .i64 p0) rfl) ?_
  refine RL_do rfl rfl (Do_move (v := .int .i64 p0) rfl) ?_
  obtain ⟨x3, e4, hF⟩ := letO_some hF
  refine RL_do rfl rfl (Do_neg (a := p0) rfl e4) ?_
  obtain ⟨x5, e6, hF⟩ := letO_some hF
  refine RL_do rfl rfl (Do_max (j := p0) (q := x3) rfl rfl e6) ?_
  refine RL_do rfl rfl (Do_move (v := .int .i64 p1) rfl) ?_
  refine RL_do rfl rfl (Do_move (v := .int .i64 p1) rfl) ?_
  obtain ⟨x7, e8, hF⟩ := letO_some hF
  refine RL_do rfl rfl (Do_neg (a := p1) rfl e8) ?_
  obtain ⟨x9, e10, hF⟩ := letO_some hF
  refine RL_do rfl rfl (Do_max (j := p1) (q := x7) rfl rfl e10) ?_
  refine RL_do rfl rfl (Do_assign (v := .int .i64 x5) rfl) ?_
  refine RL_do rfl rfl (Do_assign (v := .int .i64 x9) rfl) ?_
  refine (RL_nil (thenQ_n (hK2 _ _ ?_)))
  obtain ⟨g47, hF, hK49⟩ := bindO_some hF
  refine WP_seqS [0, 1, 13, 14, 15, 16, 17, 18] (fun (g : Unit) => [(0, .int .i64 g47)]) (fun g wl => Hd O w wl S []) ?_ ?_
  · skip
    refine WP_block ?_
    unfold F_fleet_divisor_L1 at hF
    obtain ⟨B82, n83, eB84, hF⟩ := loopO_some hF
    refine WP_loopS [0, 1, 13, 14, 15, 16, 17, 18] (fun (g : Nat × Int × Int) => [(0, .int .i64 g.2.1), (1, .int .i64 g.2.2)]) (fun g wl => Hd O w wl S [] ∧ loopN B82 g.1 (g.2.1, g.2.2) = some g47) (fun g => g.1) (n83, x5, x9) (Sl_cons rfl (Sl_cons rfl Sl_nil)) ⟨H.pick [] (by decide), hF⟩ ?_
    clear H hF
    rintro ⟨n83, g80, g81⟩ ρ w86 ⟨H, hF⟩
    obtain ⟨n87, rfl, hF⟩ := loopN_pos hF
    have hF := loop_body eB84 hF
    refine WP_seq_k fun K92 hK92 => ?_
    refine WP_seq_k fun K93 hK93 => ?_
    refine WP_region ?_
    refine RL_do rfl rfl (Do_move (v := .int .i64 g81) rfl) ?_
    obtain ⟨x94, e95, hF⟩ := letO_some hF
    refine RL_do rfl rfl (Do_as (Do_neq (a := g81) (b := 0) rfl rfl) (congrArg Value.bool e95)) ?_
    refine (RL_nil (thenQ_n (hK93 _ _ ?_)))
    refine WP_ifb (b := x94) rfl (fun c96 => ?_) (fun c96 => ?_)
    · have hF := iteB_t c96 hF
      refine (WP_skip (thenQ_n (hK92 _ _ ?_)))
      refine WP_block ?_
      have H97 := H
      have H := H.rebase
      have H98 := H
      refine WP_mix0 H [0, 1, 2, 3, 4, 5] [.pure, .pure, .pure, .pure, .pure, .pure] mixed (by kernel_rfl) (by kernel_rfl) (by kernel_rfl) rfl ?_
      refine Mx.XL_pure rfl rfl rfl (fun w' hw' => Do_move (v := .int .i64 g81) rfl) ?_
      refine Mx.XL_pure rfl rfl rfl (fun w' hw' => Do_move (v := .int .i64 g80) rfl) ?_
      refine Mx.XL_pure rfl rfl rfl (fun w' hw' => Do_move (v := .int .i64 g81) rfl) ?_
      obtain ⟨x99, e100, hF⟩ := bindO_some hF
      refine Mx.XL_pure rfl rfl rfl (fun w' hw' => Do_rem' (j := g80) (q := g81) rfl rfl e100) ?_
      refine Mx.XL_pure rfl rfl rfl (fun w' hw' => Do_assign (v := .int .i64 g81) rfl) ?_
      refine Mx.XL_pure rfl rfl rfl (fun w' hw' => Do_assign (v := .int .i64 x99) rfl) ?_
      refine Mx.XL_nil fun w101 hS => ?_
      have H := H.sees hS
      have H := H97.rejoin H
      refine (blockQ_n (thenQ_n (And.intro ?_ ?_)))
      · repeat' (first | with_reducible exact Fr_refl | refine Fr_upd rfl ?_ | refine Fr_over rfl rfl ?_)
      · exact ⟨(n87, g81, x99), (Sl_cons rfl (Sl_cons rfl Sl_nil)), ⟨H.pick [] (by decide), hF⟩, Nat.lt_succ_self _⟩
    · have hF := iteB_f c96 hF
      have hR := Option.some.inj hF
      subst hR
      refine (WP_exit (thenQ_x (thenQ_x (blockQ_eq (thenQ_n (And.intro ?_ ?_))))))
      · repeat' (first | with_reducible exact Fr_refl | refine Fr_upd rfl ?_ | refine Fr_over rfl rfl ?_)
      · exact ⟨(), (Sl_cons rfl Sl_nil), H.pick [] (by decide)⟩
  · rintro _ ρ w48 H
    have hF := hK49
    refine WP_seq_k fun K102 hK102 => ?_
    refine WP_region ?_
    refine RL_do rfl rfl (Do_move (v := .int .i64 g47) rfl) ?_
    refine RL_do rfl rfl (Do_assign (v := .int .i64 g47) rfl) ?_
    refine (RL_nil (thenQ_n (hK102 _ _ ?_)))
    have hR := Option.some.inj hF
    subst hR
    refine (WP_ret (post1 (v1 := .int .i64 g47) rfl rfl ?_))
    exact ⟨rfl, H.pick [] (by decide)⟩
end Go.Proofs.YtbjhondbheijiaaGreat.L
namespace Go.Proofs.YtbjhondbheijiaaGreat.L
open Go.RowKit Go.OB Go.Lf
/- math/bits.Mul64 -/
set_option maxHeartbeats 4000000 in
theorem F_math_bits_Mul64_w (p0 : Int) (p1 : Int) (r : Int × Int) (hF : F_math_bits_Mul64 p0 p1 = some r) (O S : List Nat) (w : World) (H : Hd O w w S []) :
    Calls Tryz.prog 39 ([.int .u64 p0, .int .u64 p1] : List Value).toArray w fun e w' => e = .returned (.tuple #[.int .u64 r.1, .int .u64 r.2]) ∧ Hd O w w' S [] := by
  unfold F_math_bits_Mul64 at hF
  refine calls_of_WP 51 Tryz.func39 rfl rfl rfl ?_
  refine WP_seq_k fun K1 hK1 => ?_
  refine WP_region ?_
  refine RL_do rfl rfl (Do_assign (v := .int .u64 0) rfl) ?_
  refine RL_do rfl rfl (Do_assign (v := .int .u64 0) rfl) ?_
  refine (RL_nil (thenQ_n (hK1 _ _ ?_)))
  refine WP_seq_k fun K2 hK2 => ?_
  refine WP_region ?_
  refine RL_do rfl rfl (Do_move (v := .int .u64 p0) rfl) ?_
  obtain ⟨x3, e4, hF⟩ := letO_some hF
  refine RL_do rfl rfl (Do_and (a := p0) (b := 4294967295) rfl rfl e4) ?_
  refine RL_do rfl rfl (Do_assign (v := .int .u64 x3) rfl) ?_
  refine (RL_nil (thenQ_n (hK2 _ _ ?_)))
  refine WP_seq_k fun K5 hK5 => ?_
  refine WP_region ?_
  refine RL_do rfl rfl (Do_move (v := .int .u64 p0) rfl) ?_
  obtain ⟨x6, e7, hF⟩ := bindO_some hF
  refine RL_do rfl rfl (Do_shr' (j := p0) (q := 32) rfl rfl e7) ?_
  refine RL_do rfl rfl (Do_assign (v := .int .u64 x6) rfl) ?_
  refine (RL_nil (thenQ_n (hK5 _ _ ?_)))
  refine WP_seq_k fun K8 hK8 => ?_
  refine WP_region ?_
  refine RL_do rfl rfl (Do_move (v := .int .u64 p1) rfl) ?_
  obtain ⟨x9, e10, hF⟩ := letO_some hF
  refine RL_do rfl rfl (Do_and (a := p1) (b := 4294967295) rfl rfl e10) ?_
  refine RL_do rfl rfl (Do_assign (v := .int .u64 x9) rfl) ?_
  refine (RL_nil (thenQ_n (hK8 _ _ ?_)))
  refine WP_seq_k fun K11 hK11 => ?_
  refine WP_region ?_
  refine RL_do rfl rfl (Do_move (v := .int .u64 p1) rfl) ?_
  obtain ⟨x12, e13, hF⟩ := bindO_some hF
  refine RL_do rfl rfl (Do_shr' (j := p1) (q := 32) rfl rfl e13) ?_
  refine RL_do rfl rfl (Do_assign (v := .int .u64 x12) rfl) ?_
  refine (RL_nil (thenQ_n (hK11 _ _ ?_)))
  refine WP_seq_k fun K14 hK14 => ?_
  refine WP_region ?_
  refine RL_do rfl rfl (Do_move (v := .int .u64 x3) rfl) ?_
  refine RL_do rfl rfl (Do_move (v := .int .u64 x9) rfl) ?_
  obtain ⟨x15, e16, hF⟩ := letO_some hF
  refine RL_do rfl rfl (Do_mul (a := x3) (b := x9) rfl rfl e16) ?_
  refine RL_do rfl rfl (Do_assign (v := .int .u64 x15) rfl) ?_
  refine (RL_nil (thenQ_n (hK14 _ _ ?_)))
  refine WP_seq_k fun K17 hK17 => ?_
  refine WP_region ?_
  refine RL_do rfl rfl (Do_move (v := .int .u64 x6) rfl) ?_
  refine RL_do rfl rfl (Do_move (v := .int .u64 x9) rfl) ?_
  obtain ⟨x18, e19, hF⟩ := letO_some hF
  refine RL_do rfl rfl (Do_mul (a := x6) (b := x9) rfl rfl e19) ?_
  refine RL_do rfl rfl (Do_move (v := .int .u64 x15) rfl) ?_
  obtain ⟨x20, e21, hF⟩ := bindO_some hF
  refine RL_do rfl rfl (Do_shr' (j := x15) (q := 32) rfl rfl e21) ?_
  obtain ⟨x22, e23, hF⟩ := letO_some hF
  refine RL_do rfl rfl (Do_add (a := x18) (b := x20) rfl rfl e23) ?_
  refine RL_do rfl rfl (Do_assign (v := .int .u64 x22) rfl) ?_
  refine (RL_nil (thenQ_n (hK17 _ _ ?_)))
  refine WP_seq_k fun K24 hK24 => ?_
  refine WP_region ?_
  refine RL_do rfl rfl (Do_move (v := .int .u64 x22) rfl) ?_
  obtain ⟨x25, e26, hF⟩ := letO_some hF
  refine RL_do rfl rfl (Do_and (a := x22) (b := 4294967295) rfl rfl e26) ?_
  refine RL_do rfl rfl (Do_assign (v := .int .u64 x25) rfl) ?_
  refine (RL_nil (thenQ_n (hK24 _ _ ?_)))
  refine WP_seq_k fun K27 hK27 => ?_
  refine WP_region ?_
  refine RL_do rfl rfl (Do_move (v := .int .u64 x22) rfl) ?_
  obtain ⟨x28, e29, hF⟩ := bindO_some hF
  refine RL_do rfl rfl (Do_shr' (j := x22) (q := 32) rfl rfl e29) ?_
  refine RL_do rfl rfl (Do_assign (v := .int .u64 x28) rfl) ?_
  refine (RL_nil (thenQ_n (hK27 _ _ ?_)))
  refine WP_seq_k fun K30 hK30 => ?_
  refine WP_region ?_
  refine RL_do rfl rfl (Do_move (v := .int .u64 x25) rfl) ?_
  refine RL_do rfl rfl (Do_move (v := .int .u64 x3) rfl) ?_
  refine RL_do rfl rfl (Do_move (v := .int .u64 x12) rfl) ?_
  obtain ⟨x31, e32, hF⟩ := letO_some hF
  refine RL_do rfl rfl (Do_mul (a := x3) (b := x12) rfl rfl e32) ?_
  obtain ⟨x33, e34, hF⟩ := letO_some hF
  refine RL_do rfl rfl (Do_add (a := x25) (b := x31) rfl rfl e34) ?_
  refine RL_do rfl rfl (Do_assign (v := .int .u64 x33) rfl) ?_
  refine (RL_nil (thenQ_n (hK30 _ _ ?_)))
  refine WP_seq_k fun K35 hK35 => ?_
  refine WP_region ?_
  refine RL_do rfl rfl (Do_move (v := .int .u64 x6) rfl) ?_
  refine RL_do rfl rfl (Do_move (v := .int .u64 x12) rfl) ?_
  obtain ⟨x36, e37, hF⟩ := letO_some hF
  refine RL_do rfl rfl (Do_mul (a := x6) (b := x12) rfl rfl e37) ?_
  refine RL_do rfl rfl (Do_move (v := .int .u64 x28) rfl) ?_
  obtain ⟨x38, e39, hF⟩ := letO_some hF
  refine RL_do rfl rfl (Do_add (a := x36) (b := x28) rfl rfl e39) ?_
  refine RL_do rfl rfl (Do_move (v := .int .u64 x33) rfl) ?_
  obtain ⟨x40, e41, hF⟩ := bindO_some hF
  refine RL_do rfl rfl (Do_shr' (j := x33) (q := 32) rfl rfl e41) ?_
  obtain ⟨x42, e43, hF⟩ := letO_some hF
  refine RL_do rfl rfl (Do_add (a := x38) (b := x40) rfl rfl e43) ?_
  refine RL_do rfl rfl (Do_assign (v := .int .u64 x42) rfl) ?_
  refine (RL_nil (thenQ_n (hK35 _ _ ?_)))
  refine WP_seq_k fun K44 hK44 => ?_
  refine WP_region ?_
  refine RL_do rfl rfl (Do_move (v := .int .u64 p0) rfl) ?_
  refine RL_do rfl rfl (Do_move (v := .int .u64 p1) rfl) ?_
  obtain ⟨x45, e46, hF⟩ := letO_some hF
  refine RL_do rfl rfl (Do_mul (a := p0) (b := p1) rfl rfl e46) ?_
  refine RL_do rfl rfl (Do_assign (v := .int .u64 x45) rfl) ?_
  refine (RL_nil (thenQ_n (hK44 _ _ ?_)))
  have hR := Option.some.inj hF
  subst hR
  refine (WP_ret (post2 (v1 := .int .u64 x42) (v2 := .int .u64 x45) rfl rfl rfl ?_))
  exact ⟨rfl, H.pick [] (by decide)⟩
end Go.Proofs.YtbjhondbheijiaaGreat.L
namespace Go.Proofs.YtbjhondbheijiaaGreat.L
open Go.RowKit Go.OB Go.Lf
/- orangebox/fleet.mixed -/
set_option maxHeartbeats 4000000 in
theorem F_fleet_mixed_w (p0 : Int) (p1 : Int) (p2 : Int) (r : Ratio × Bool) (hF : F_fleet_mixed p0 p1 p2 = some r) (O S : List Nat) (w : World) (H : Hd O w w S []) :
    Calls Tryz.prog 17 ([.int .i64 p0, .int .i64 p1, .int .i64 p2] : List Value).toArray w fun e w' => e = .returned (.tuple #[.agg [.int .i64 r.1.Num, .int .i64 r.1.Den].toArray, .bool r.2]) ∧ Hd O w w' S [] := by
  unfold F_fleet_mixed at hF
  refine calls_of_WP 57 Tryz.func17 rfl rfl rfl ?_
  refine WP_seq_k fun K1 hK1 => ?_
  refine WP_region ?_
  refine RL_ex rfl rfl (Lx_alloc zero31 H) ?_
  rintro _ w4 ⟨b2, rfl, H⟩
  refine RL_do rfl rfl (Do_assign (v := .bool false) rfl) ?_
  refine (RL_nil (thenQ_n (hK1 _ _ ?_)))
  refine WP_seq_k fun K5 hK5 => ?_
  refine WP_region ?_
  refine RL_do rfl rfl (Do_move (v := .int .i64 p1) rfl) ?_
  refine RL_do rfl rfl (Do_move (v := .int .i64 p2) rfl) ?_
  have H6 := H
  obtain ⟨x7, e8, hF⟩ := bindO_some hF
  refine RL_call rfl rfl (DoC_func en38 rfl) (F_fleet_divisor_w p1 p2 _ e8 _ _ _ (H.enter [] [] (by decide) rfl)) ?_
  rintro _ w9 ⟨rfl, G10⟩
  have H := H6.step (G10.only : Only [] _ _)
  refine ⟨_, rfl, ?_⟩
  refine RL_do rfl rfl (Do_assign (v := .int .i64 x7) rfl) ?_
  refine (RL_nil (thenQ_n (hK5 _ _ ?_)))
  refine WP_seq_k fun K11 hK11 => ?_
  have H12 := H
  have H := H.rebase
  have H13 := H
  refine WP_mix0 H [0, 1, 2, 3, 4, 5, 6, 7] [.pure, .pure, .pure, .pure, .pure, .pure, .pure, .pure] mixed (by kernel_rfl) (by kernel_rfl) (by kernel_rfl) rfl ?_
  refine Mx.XL_pure rfl rfl rfl (fun w' hw' => Do_move (v := .int .i64 p1) rfl) ?_
  refine Mx.XL_pure rfl rfl rfl (fun w' hw' => Do_move (v := .int .i64 x7) rfl) ?_
  obtain ⟨x14, e15, hF⟩ := bindO_some hF
  refine Mx.XL_pure rfl rfl rfl (fun w' hw' => Do_quo' (j := p1) (q := x7) rfl rfl e15) ?_
  refine Mx.XL_pure rfl rfl rfl (fun w' hw' => Do_move (v := .int .i64 p2) rfl) ?_
  refine Mx.XL_pure rfl rfl rfl (fun w' hw' => Do_move (v := .int .i64 x7) rfl) ?_
  obtain ⟨x16, e17, hF⟩ := bindO_some hF
  refine Mx.XL_pure rfl rfl rfl (fun w' hw' => Do_quo' (j := p2) (q := x7) rfl rfl e17) ?_
  refine Mx.XL_pure rfl rfl rfl (fun w' hw' => Do_assign (v := .int .i64 x14) rfl) ?_
  refine Mx.XL_pure rfl rfl rfl (fun w' hw' => Do_assign (v := .int .i64 x16) rfl) ?_
  refine Mx.XL_nil fun w18 hS => ?_
  have H := H.sees hS
  have H := H12.rejoin H
  refine (thenQ_n (hK11 _ _ ?_))
  refine WP_seq_k fun K19 hK19 => ?_
  refine WP_region ?_
  refine RL_do rfl rfl (Do_move (v := .int .i64 p0) rfl) ?_
  refine RL_do rfl rfl (Do_move (v := .int .i64 p0) rfl) ?_
  obtain ⟨x20, e21, hF⟩ := letO_some hF
  refine RL_do rfl rfl (Do_neg (a := p0) rfl e21) ?_
  obtain ⟨x22, e23, hF⟩ := letO_some hF
  refine RL_do rfl rfl (Do_max (j := p0) (q := x20) rfl rfl e23) ?_
  obtain ⟨x24, e25, hF⟩ := letO_some hF
  refine RL_do rfl rfl (Do_conv u3 u52 rfl e25) ?_
  refine RL_do rfl rfl (Do_move (v := .int .i64 x16) rfl) ?_
  obtain ⟨x26, e27, hF⟩ := letO_some hF
  refine RL_do rfl rfl (Do_conv u3 u52 rfl e27) ?_
  have H28 := H
  obtain ⟨⟨x29, x30⟩, e31, hF⟩ := bindO_some hF
  refine RL_call rfl rfl (DoC_func en39 rfl) (F_math_bits_Mul64_w x24 x26 _ e31 _ _ _ (H.enter [] [] (by decide) rfl)) ?_
  rintro _ w32 ⟨rfl, G33⟩
  have H := H28.step (G33.only : Only [] _ _)
  refine ⟨_, rfl, ?_⟩
  refine RL_do rfl rfl (Do_move (v := .tuple #[.int .u64 x29, .int .u64 x30]) rfl) ?_
  refine RL_do rfl rfl (Do_extract (v := .int .u64 x29) rfl rfl) ?_
  refine RL_do rfl rfl (Do_extract (v := .int .u64 x30) rfl rfl) ?_
  refine RL_do rfl rfl (Do_assign (v := .int .u64 x29) rfl) ?_
  refine RL_do rfl rfl (Do_assign (v := .int .u64 x30) rfl) ?_
  refine (RL_nil (thenQ_n (hK19 _ _ ?_)))
  refine WP_seq_k fun K51 hK51 => ?_
  obtain ⟨g63, hF, hK65⟩ := bindO_some hF
  refine WP_seqS [32, 33, 34, 35, 36, 37, 38, 39, 40, 41] (fun (g : Unit) => [(41, .bool g63)]) (fun g wl => Hd O w wl S [.blk b2 [.int .i64 0, .int .i64 0] 31]) ?_ ?_
  · skip
    refine WP_region ?_
    refine RL_do rfl rfl (Do_move (v := .int .u64 x29) rfl) ?_
    obtain ⟨x66, e67, hF⟩ := letO_some hF
    refine RL_do rfl rfl (Do_as (Do_gtr (a := x29) (b := 0) rfl rfl) (congrArg Value.bool e67)) ?_
    refine RL_splitb (b := x66) rfl rfl rfl (fun c68 => ?_) (fun c68 => ?_)
    · have hF := iteB_t c68 hF
      refine RL_off rfl rfl ?_
      refine RL_off rfl rfl ?_
      refine RL_off rfl rfl ?_
      refine RL_off rfl rfl ?_
      refine RL_off rfl rfl ?_
      refine RL_off rfl rfl ?_
      refine RL_do rfl rfl (Do_pick_t (v := .bool true) rfl rfl) ?_
      have hR := Option.some.inj hF
      subst hR
      refine (RL_nil (thenQ_n (And.intro ?_ ?_)))
      · repeat' (first | with_reducible exact Fr_refl | refine Fr_upd rfl ?_ | refine Fr_over rfl rfl ?_)
      · exact ⟨(), (Sl_cons rfl Sl_nil), H.pick [0] (by decide)⟩
    · have hF := iteB_f c68 hF
      refine RL_do rfl rfl (Do_move (v := .int .u64 x30) rfl) ?_
      refine RL_do rfl rfl (Do_move (v := .int .i64 x16) rfl) ?_
      obtain ⟨x69, e70, hF⟩ := letO_some hF
      refine RL_do rfl rfl (Do_conv u3 u52 rfl e70) ?_
      obtain ⟨x71, e72, hF⟩ := letO_some hF
      refine RL_do rfl rfl (Do_mul (a := 2) (b := x69) rfl rfl e72) ?_
      obtain ⟨x73, e74, hF⟩ := letO_some hF
      refine RL_do rfl rfl (Do_add (a := 4611686018427387904) (b := x71) rfl rfl e74) ?_
      obtain ⟨x75, e76, hF⟩ := letO_some hF
      refine RL_do rfl rfl (Do_as (Do_gtr (a := x30) (b := x73) rfl rfl) (congrArg Value.bool e76)) ?_
      refine RL_do rfl rfl (Do_pick_f (v := .bool x75) rfl rfl) ?_
      have hR := Option.some.inj hF
      subst hR
      refine (RL_nil (thenQ_n (And.intro ?_ ?_)))
      · repeat' (first | with_reducible exact Fr_refl | refine Fr_upd rfl ?_ | refine Fr_over rfl rfl ?_)
      · exact ⟨(), (Sl_cons rfl Sl_nil), H.pick [0] (by decide)⟩
  · rintro _ ρ w64 H
    have hF := hK65
    refine WP_ifb (b := g63) rfl (fun c77 => ?_) (fun c77 => ?_)
    · have hF := iteB_t c77 hF
      refine WP_seq_k fun K78 hK78 => ?_
      refine WP_region ?_
      refine RL_do rfl rfl (Do_build (cs := [.int .i64 0, .int .i64 0]) bz31) ?_
      refine RL_exU rfl (Lx_storeN (vs := [.int .i64 0, .int .i64 0]) H 0 rfl sz31 rfl rfl rfl ⟨rfl, rfl, trivial⟩ rfl) ?_
      rintro w79 H
      refine RL_do rfl rfl (Do_assign (v := .bool false) rfl) ?_
      refine (RL_nil (thenQ_n (hK78 _ _ ?_)))
      have hR := Option.some.inj hF
      subst hR
      refine (WP_ret (thenQ_r (postc1 (v1 := .bool false) rfl rfl (run_loadVar_agg agg31 sz31 rfl (Blk.cells (H.item (i := 0) rfl))) rfl ?_)))
      exact ⟨rfl, H.pick [] (by decide)⟩
    · have hF := iteB_f c77 hF
      refine (WP_skip (thenQ_n (hK51 _ _ ?_)))
      refine WP_seq_k fun K80 hK80 => ?_
      refine WP_region ?_
      refine RL_do rfl rfl (Do_move (v := .int .u64 x30) rfl) ?_
      obtain ⟨x81, e82, hF⟩ := letO_some hF
      refine RL_do rfl rfl (Do_conv u52 u3 rfl e82) ?_
      refine RL_do rfl rfl (Do_assign (v := .int .i64 x81) rfl) ?_
      refine (RL_nil (thenQ_n (hK80 _ _ ?_)))
      obtain ⟨g89, hF, hK91⟩ := bindO_some hF
      refine WP_seqS [11, 45, 46, 47, 48] (fun (g : Unit) => [(11, .int .i64 g89)]) (fun g wl => Hd O w wl S [.blk b2 [.int .i64 0, .int .i64 0] 31]) ?_ ?_
      · skip
        refine WP_seq_k fun K92 hK92 => ?_
        refine WP_region ?_
        refine RL_do rfl rfl (Do_move (v := .int .i64 p0) rfl) ?_
        obtain ⟨x93, e94, hF⟩ := letO_some hF
        refine RL_do rfl rfl (Do_as (Do_lss (a := p0) (b := 0) rfl rfl) (congrArg Value.bool e94)) ?_
        refine (RL_nil (thenQ_n (hK92 _ _ ?_)))
        refine WP_ifb (b := x93) rfl (fun c95 => ?_) (fun c95 => ?_)
        · have hF := iteB_t c95 hF
          refine WP_region ?_
          refine RL_do rfl rfl (Do_move (v := .int .i64 x81) rfl) ?_
          obtain ⟨x96, e97, hF⟩ := letO_some hF
          refine RL_do rfl rfl (Do_neg (a := x81) rfl e97) ?_
          refine RL_do rfl rfl (Do_assign (v := .int .i64 x96) rfl) ?_
          have hR := Option.some.inj hF
          subst hR
          refine (RL_nil (thenQ_n (And.intro ?_ ?_)))
          · repeat' (first | with_reducible exact Fr_refl | refine Fr_upd rfl ?_ | refine Fr_over rfl rfl ?_)
          · exact ⟨(), (Sl_cons rfl Sl_nil), H.pick [0] (by decide)⟩
        · have hF := iteB_f c95 hF
          have hR := Option.some.inj hF
          subst hR
          refine (WP_skip (thenQ_n (And.intro ?_ ?_)))
          · repeat' (first | with_reducible exact Fr_refl | refine Fr_upd rfl ?_ | refine Fr_over rfl rfl ?_)
          · exact ⟨(), (Sl_cons rfl Sl_nil), H.pick [0] (by decide)⟩
      · rintro _ ρ w90 H
        have hF := hK91
        refine WP_seq_k fun K98 hK98 => ?_
        refine WP_region ?_
        refine RL_do rfl rfl (Do_move (v := .int .i64 g89) rfl) ?_
        refine RL_do rfl rfl (Do_move (v := .int .i64 x14) rfl) ?_
        obtain ⟨x99, e100, hF⟩ := letO_some hF
        refine RL_do rfl rfl (Do_add (a := g89) (b := x14) rfl rfl e100) ?_
        refine RL_do rfl rfl (Do_assign (v := .int .i64 x99) rfl) ?_
        refine (RL_nil (thenQ_n (hK98 _ _ ?_)))
        refine WP_seq_k fun K101 hK101 => ?_
        refine WP_region ?_
        refine RL_do rfl rfl (Do_move (v := .int .i64 x99) rfl) ?_
        refine RL_do rfl rfl (Do_move (v := .int .i64 x16) rfl) ?_
        refine RL_do rfl rfl (Do_build (cs := [.int .i64 x99, .int .i64 x16]) (bt31_0_1 _ _)) ?_
        refine RL_do rfl rfl (Do_move (v := .int .i64 x99) rfl) ?_
        have H102 := H
        obtain ⟨x103, e104, hF⟩ := bindO_some hF
        refine RL_call rfl rfl (DoC_func en10 rfl) (F_fleet_within_w x99 (-4611686018427387904) 4611686018427387904 _ e104 _ _ _ (H.enter [] [] (by decide) rfl)) ?_
        rintro _ w105 ⟨rfl, G106⟩
        have H := H102.step (G106.only : Only [] _ _)
        refine ⟨_, rfl, ?_⟩
        refine RL_exU rfl (Lx_storeN (vs := [.int .i64 x99, .int .i64 x16]) H 0 rfl sz31 rfl rfl rfl ⟨rfl, rfl, trivial⟩ rfl) ?_
        rintro w107 H
        refine RL_do rfl rfl (Do_assign (v := .bool x103) rfl) ?_
        refine (RL_nil (thenQ_n (hK101 _ _ ?_)))
        have hR := Option.some.inj hF
        subst hR
        refine (WP_ret (postc1 (v1 := .bool x103) rfl rfl (run_loadVar_agg agg31 sz31 rfl (Blk.cells (H.item (i := 0) rfl))) rfl ?_))
        exact ⟨rfl, H.pick [] (by decide)⟩
end Go.Proofs.YtbjhondbheijiaaGreat.L
namespace Go.Proofs.YtbjhondbheijiaaGreat.L
open Go.RowKit Go.OB Go.Lf
/- orangebox/fleet.Mean -/
set_option maxHeartbeats 4000000 in
theorem F_fleet_Mean_w (p0 : List Flight) (p1 : Mask) (p2 : Str) (v1 : Value) (v3 : Value) (v4 : Value) (r : Ratio × Int) (hF : F_fleet_Mean p0 p1 p2 = some r) (O S : List Nat) (w : World) (H : Hd O w w S [.fz (.sl rFlight v1 p0), .fz (.sl Rp.str v3 p1.Hide), .fz (.sl rGrain v4 p1.Grains)]) :
    Calls Tryz.prog 6 ([v1, .agg [.bool p1.Tails, .int .i64 p1.Days, v3, v4, .int .i64 p1.Least].toArray, .string (bs p2)] : List Value).toArray w fun e w' => e = .returned (.tuple #[.agg [.int .i64 r.1.Num, .int .i64 r.1.Den].toArray, .int .i64 r.2]) ∧ Hd O w w' S [] := by
  unfold F_fleet_Mean at hF
  refine calls_of_WP 51 Tryz.func6 rfl rfl rfl ?_
  refine WP_seq_k fun K7 hK7 => ?_
  refine WP_region ?_
  refine RL_ex rfl rfl (Lx_box (cs := [.bool p1.Tails, .int .i64 p1.Days, v3, v4, .int .i64 p1.Least]) rfl H) ?_
  rintro _ w10 ⟨b8, rfl, H⟩
  refine RL_ex rfl rfl (Lx_alloc zero31 H) ?_
  rintro _ w13 ⟨b11, rfl, H⟩
  refine RL_do rfl rfl (Do_assign (v := .int .i64 0) rfl) ?_
  refine (RL_nil (thenQ_n (hK7 _ _ ?_)))
  refine WP_seq_k fun K14 hK14 => ?_
  refine WP_region ?_
  refine RL_do rfl rfl (Do_move (v := v1) rfl) ?_
  obtain ⟨x15, e16, hF⟩ := letO_some hF
  subst e16
  refine RL_ex rfl rfl (Lx_bs (r := (Rp.sl rFlight)) (xl := [p0]) (cs := [v1]) u39 el22 (by decide) (by decide) rfl (fillB_ones rfl rfl ⟨(slf_one (H.item (i := 0) rfl)), trivial⟩) H ⟨[v1], [], rfl, ⟨_, rfl, (H.item (i := 0) rfl)⟩, rfl⟩) ?_
  rintro v18 w19 H
  refine RL_do rfl rfl (Do_as (Do_loads (cs := [.bool p1.Tails, .int .i64 p1.Days, v3, v4, .int .i64 p1.Least]) agg26 rfl sz26 rfl (Blk.cells (H.item (i := 3) rfl))) rfl) ?_
  refine RL_do rfl rfl (Do_move (v := .string (bs p2)) rfl) ?_
  have H := H.freeze (i := 5) rfl
  obtain ⟨⟨x20, x21⟩, e22, hF⟩ := bindO_some hF
  refine RL_call rfl rfl (DoC_func en9 rfl) (F_fleet_peaksOf_w ([p0] : List (List Flight)) p1 p2 v18 v3 v4 _ e22 _ _ _ (H.enter [] [5, 1, 2] (by decide) rfl)) ?_
  rintro _ w25 ⟨v23, rfl, G26⟩
  have H := H.back1 [5, 1, 2] rfl G26
  refine ⟨_, rfl, ?_⟩
  refine RL_do rfl rfl (Do_move (v := .tuple #[v23, .int .i64 x21]) rfl) ?_
  refine RL_do rfl rfl (Do_extract (v := v23) rfl rfl) ?_
  refine RL_do rfl rfl (Do_extract (v := .int .i64 x21) rfl rfl) ?_
  refine RL_do rfl rfl (Do_assign (v := v23) rfl) ?_
  refine RL_do rfl rfl (Do_assign (v := .int .i64 x21) rfl) ?_
  refine (RL_nil (thenQ_n (hK14 _ _ ?_)))
  refine WP_seq_k fun K33 hK33 => ?_
  refine WP_seq_k fun K34 hK34 => ?_
  refine WP_region ?_
  refine RL_do rfl rfl (Do_move (v := .int .i64 x21) rfl) ?_
  obtain ⟨x35, e36, hF⟩ := letO_some hF
  refine RL_do rfl rfl (Do_as (Do_neq (a := x21) (b := 0) rfl rfl) (congrArg Value.bool e36)) ?_
  refine (RL_nil (thenQ_n (hK34 _ _ ?_)))
  refine WP_ifb (b := x35) rfl (fun c37 => ?_) (fun c37 => ?_)
  · have hF := iteB_t c37 hF
    refine WP_seq_k fun K38 hK38 => ?_
    refine WP_region ?_
    refine RL_do rfl rfl (Do_build (cs := [.int .i64 0, .int .i64 0]) bz31) ?_
    refine RL_do rfl rfl (Do_move (v := .int .i64 x21) rfl) ?_
    refine RL_exU rfl (Lx_storeN (vs := [.int .i64 0, .int .i64 0]) H 4 rfl sz31 rfl rfl rfl ⟨rfl, rfl, trivial⟩ rfl) ?_
    rintro w39 H
    refine RL_do rfl rfl (Do_assign (v := .int .i64 x21) rfl) ?_
    refine (RL_nil (thenQ_n (hK38 _ _ ?_)))
    have hR := Option.some.inj hF
    subst hR
    refine (WP_ret (thenQ_r (postc1 (v1 := .int .i64 x21) rfl rfl (run_loadVar_agg agg31 sz31 rfl (Blk.cells (H.item (i := 4) rfl))) rfl ?_)))
    exact ⟨rfl, H.pick [] (by decide)⟩
  · have hF := iteB_f c37 hF
    refine (WP_skip (thenQ_n (hK33 _ _ ?_)))
    refine WP_seq_k fun K40 hK40 => ?_
    have H41 := H
    have H := H.rebase
    have H42 := H
    refine WP_mix0 H [0, 1, 2, 3, 4, 5, 6, 7, 8, 9, 10, 11] [.pure, .pure, .pure, .read, .read, .pure, .pure, .pure, .read, .pure, .pure, .pure] mixed (by kernel_rfl) (by kernel_rfl) (by kernel_rfl) rfl ?_
    refine Mx.XL_pure rfl rfl rfl (fun w' hw' => Do_move (v := v23) rfl) ?_
    obtain ⟨x43, e44, hF⟩ := bindO_some hF
    obtain ⟨b45, o46, c47, cs48, q49, h52, h50, h51, h53⟩ := rd_at (H.item (i := 6) rfl) e44
    obtain ⟨v54, v55, rfl, h56, h57⟩ := rFleetPeaks_open h52
    have H := H.fzs [.at b45 (o46 + (0 : Int).toNat * 3) _, .sl (Rp.int .i64) v54 x43.l, .sl (Rp.int .i64) v55 x43.flights] ⟨⟨h50, h51, h53⟩, h56, h57, trivial⟩
    refine Mx.XL_pure rfl rfl rfl (fun w' hw' => Do_idx u36 sz44 q49 rfl (at_some e44).1 (at_some e44).2.1 rfl rfl) ?_
    refine Mx.XL_pure rfl rfl rfl (fun w' hw' => fa44_0 rfl) ?_
    refine Mx.XL_read oS rfl rfl rfl (fun w' hw' => Do_load one42 rfl (Cells.get ((H.sees hw').item (i := 7) rfl).2.2 (i := 0) rfl)) ?_
    have H61 := H
    obtain ⟨x62, e63, hF⟩ := bindO_some hF
    refine Mx.XL_call oS rfl rfl rfl (v := .int .i64 x62) (fun w' hw' => DoC_func en16 rfl) (fun w' hw' => call_read (F_fleet_sum_w x43.l v54 _ e63 _ _ _ ((H.sees hw').enter [] [8] (by decide) rfl))) ?_
    have H := H61
    refine Mx.XL_pure rfl rfl rfl (fun w' hw' => Do_move (v := v23) rfl) ?_
    obtain ⟨x64, e65, hF⟩ := bindO_some hF
    obtain ⟨b66, o67, c68, cs69, q70, h73, h71, h72, h74⟩ := rd_at (H.item (i := 6) rfl) e65
    obtain ⟨v75, v76, rfl, h77, h78⟩ := rFleetPeaks_open h73
    have H := H.fzs [.at b66 (o67 + (0 : Int).toNat * 3) _, .sl (Rp.int .i64) v75 x64.l, .sl (Rp.int .i64) v76 x64.flights] ⟨⟨h71, h72, h74⟩, h77, h78, trivial⟩
    refine Mx.XL_pure rfl rfl rfl (fun w' hw' => Do_idx u36 sz44 q70 rfl (at_some e65).1 (at_some e65).2.1 rfl rfl) ?_
    refine Mx.XL_pure rfl rfl rfl (fun w' hw' => fa44_0 rfl) ?_
    refine Mx.XL_read oS rfl rfl rfl (fun w' hw' => Do_load one42 rfl (Cells.get ((H.sees hw').item (i := 10) rfl).2.2 (i := 0) rfl)) ?_
    obtain ⟨x82, e83, hF⟩ := letO_some hF
    obtain ⟨a84, c85, q86⟩ := SlF.len ((H.item (i := 11) rfl))
    refine Mx.XL_pure rfl rfl rfl (fun w' hw' => Do_as (Do_len u42 q86) (congrArg (Value.int .i64) e83)) ?_
    refine Mx.XL_pure rfl rfl rfl (fun w' hw' => Do_assign (v := .int .i64 x62) rfl) ?_
    refine Mx.XL_pure rfl rfl rfl (fun w' hw' => Do_assign (v := .int .i64 x82) rfl) ?_
    refine Mx.XL_nil fun w87 hS => ?_
    have H := H.sees hS
    have H := H41.rejoin H
    refine (thenQ_n (hK40 _ _ ?_))
    refine WP_seq_k fun K88 hK88 => ?_
    have H89 := H
    have H := H.rebase
    have H90 := H
    refine WP_mix0 H [0, 1, 2, 3, 4, 5, 6, 7, 8, 9, 10, 11, 12, 13] [.pure, .pure, .pure, .pure, .pure, .pure, .pure, .fcall, .pure, .pure, .pure, .new, .eff, .pure] mixed (by kernel_rfl) (by kernel_rfl) (by kernel_rfl) rfl ?_
    refine Mx.XL_pure rfl rfl rfl (fun w' hw' => Do_move (v := .int .i64 x62) rfl) ?_
    refine Mx.XL_pure rfl rfl rfl (fun w' hw' => Do_move (v := .int .i64 x82) rfl) ?_
    obtain ⟨x91, e92, hF⟩ := bindO_some hF
    refine Mx.XL_pure rfl rfl rfl (fun w' hw' => Do_quo' (j := x62) (q := x82) rfl rfl e92) ?_
    refine Mx.XL_pure rfl rfl rfl (fun w' hw' => Do_move (v := .int .i64 x62) rfl) ?_
    refine Mx.XL_pure rfl rfl rfl (fun w' hw' => Do_move (v := .int .i64 x82) rfl) ?_
    obtain ⟨x93, e94, hF⟩ := bindO_some hF
    refine Mx.XL_pure rfl rfl rfl (fun w' hw' => Do_rem' (j := x62) (q := x82) rfl rfl e94) ?_
    refine Mx.XL_pure rfl rfl rfl (fun w' hw' => Do_move (v := .int .i64 x82) rfl) ?_
    have H95 := H
    obtain ⟨⟨x96, x97⟩, e98, hF⟩ := bindO_some hF
    refine Mx.XL_fcall oS rfl rfl rfl (v := .tuple #[.agg [.int .i64 x96.Num, .int .i64 x96.Den].toArray, .bool x97]) (fun w' hw' => DoC_func en17 rfl) (fun w' hw' => by have q := call_read (F_fleet_mixed_w x91 x93 x82 _ e98 _ _ _ (Hd.fresh0 w')); exact q) ?_
    have H := H95
    refine Mx.XL_pure rfl rfl rfl (fun w' hw' => Do_move (v := .tuple #[.agg [.int .i64 x96.Num, .int .i64 x96.Den].toArray, .bool x97]) rfl) ?_
    refine Mx.XL_pure rfl rfl rfl (fun w' hw' => Do_extract (v := .agg [.int .i64 x96.Num, .int .i64 x96.Den].toArray) rfl rfl) ?_
    refine Mx.XL_pure rfl rfl rfl (fun w' hw' => Do_extract (v := .bool x97) rfl rfl) ?_
    refine Mx.XL_exN oS rfl rfl rfl (fun w' hw' => Ls_of (Lx_alloc zero31 (H.sees hw')) (Ys_alloc zero31)) ?_
    rintro w' _ w101 hw' ⟨b99, rfl, H⟩
    refine Mx.XL_exU oS rfl rfl (fun w' hw' => Lx_storeN (vs := [.int .i64 x96.Num, .int .i64 x96.Den]) (H.sees hw') 13 rfl sz31 rfl rfl rfl ⟨rfl, rfl, trivial⟩ rfl) ?_
    rintro w' w102 hw' H
    refine ⟨H.only, ?_⟩
    refine Mx.XL_pure rfl rfl rfl (fun w' hw' => Do_assign (v := .bool x97) rfl) ?_
    refine Mx.XL_nil fun w103 hS => ?_
    have H := H.sees hS
    have H := H89.rejoin H
    refine (thenQ_n (hK88 _ _ ?_))
    refine WP_seq_k fun K110 hK110 => ?_
    refine WP_seq_k fun K111 hK111 => ?_
    refine WP_region ?_
    refine RL_do rfl rfl (Do_move (v := .bool x97) rfl) ?_
    obtain ⟨x112, e113, hF⟩ := letO_some hF
    refine RL_do rfl rfl (Do_as (Do_not (p := x97) rfl) (congrArg Value.bool e113)) ?_
    refine (RL_nil (thenQ_n (hK111 _ _ ?_)))
    refine WP_ifb (b := x112) rfl (fun c114 => ?_) (fun c114 => ?_)
    · have hF := iteB_t c114 hF
      refine WP_seq_k fun K115 hK115 => ?_
      refine WP_region ?_
      refine RL_do rfl rfl (Do_build (cs := [.int .i64 0, .int .i64 0]) bz31) ?_
      refine RL_exU rfl (Lx_storeN (vs := [.int .i64 0, .int .i64 0]) H 4 rfl sz31 rfl rfl rfl ⟨rfl, rfl, trivial⟩ rfl) ?_
      rintro w116 H
      refine RL_do rfl rfl (Do_assign (v := .int .i64 3) rfl) ?_
      refine (RL_nil (thenQ_n (hK115 _ _ ?_)))
      have hR := Option.some.inj hF
      subst hR
      refine (WP_ret (thenQ_r (postc1 (v1 := .int .i64 3) rfl rfl (run_loadVar_agg agg31 sz31 rfl (Blk.cells (H.item (i := 4) rfl))) rfl ?_)))
      exact ⟨rfl, H.pick [] (by decide)⟩
    · have hF := iteB_f c114 hF
      refine (WP_skip (thenQ_n (hK110 _ _ ?_)))
      refine WP_seq_k fun K117 hK117 => ?_
      refine WP_region ?_
      refine RL_do rfl rfl (Do_as (Do_loads (cs := [.int .i64 x96.Num, .int .i64 x96.Den]) agg31 rfl sz31 rfl (Blk.cells (H.item (i := 13) rfl))) rfl) ?_
      refine RL_exU rfl (Lx_storeN (vs := [.int .i64 x96.Num, .int .i64 x96.Den]) H 4 rfl sz31 rfl rfl rfl ⟨rfl, rfl, trivial⟩ rfl) ?_
      rintro w118 H
      refine RL_do rfl rfl (Do_assign (v := .int .i64 0) rfl) ?_
      refine (RL_nil (thenQ_n (hK117 _ _ ?_)))
      have hR := Option.some.inj hF
      subst hR
      refine (WP_ret (postc1 (v1 := .int .i64 0) rfl rfl (run_loadVar_agg agg31 sz31 rfl (Blk.cells (H.item (i := 4) rfl))) rfl ?_))
      exact ⟨rfl, H.pick [] (by decide)⟩
end Go.Proofs.YtbjhondbheijiaaGreat.L
namespace Go.Proofs.YtbjhondbheijiaaGreat.L
open Go.RowKit Go.OB Go.Lf
/- orangebox/orangeboxref9.sum -/
set_option maxHeartbeats 4000000 in
theorem F_ref9_sum_w (p0 : List Int) (v1 : Value) (r : Int) (hF : F_ref9_sum p0 = some r) (O S : List Nat) (w : World) (H : Hd O w w S [.fz (.sl (Rp.int .i64) v1 p0)]) :
    Calls Tryz.prog 20 ([v1] : List Value).toArray w fun e w' => e = .returned (.int .i64 r) ∧ Hd O w w' S [] := by
  unfold F_ref9_sum at hF
  refine calls_of_WP 18 Tryz.func20 rfl rfl rfl ?_
  refine WP_seq_k fun K3 hK3 => ?_
  refine WP_region ?_
  refine RL_do rfl rfl (Do_assign (v := .int .i64 0) rfl) ?_
  refine (RL_nil (thenQ_n (hK3 _ _ ?_)))
  refine WP_seq_k fun K4 hK4 => ?_
  refine WP_region ?_
  refine RL_do rfl rfl (Do_assign (v := .int .i64 0) rfl) ?_
  refine (RL_nil (thenQ_n (hK4 _ _ ?_)))
  obtain ⟨g114, hF, hK116⟩ := bindO_some hF
  refine WP_seqS [3, 4, 5, 6, 7, 8, 9, 10, 11, 12, 13, 14, 15, 16] (fun (g : Unit) => [(3, .int .i64 g114)]) (fun g wl => Hd O w wl S []) ?_ ?_
  · skip
    refine WP_seq_k fun K117 hK117 => ?_
    refine WP_region ?_
    refine RL_do rfl rfl (Do_assign (v := .int .i64 0) rfl) ?_
    refine (RL_nil (thenQ_n (hK117 _ _ ?_)))
    refine WP_block ?_
    unfold F_ref9_sum_L1 at hF
    obtain ⟨B222, n223, eB224, hF⟩ := loopO_some hF
    refine WP_loopS [3, 4, 5, 6, 7, 8, 9, 10, 11, 12, 13, 14, 15, 16] (fun (g : Nat × Int × Int) => [(3, .int .i64 g.2.1), (4, .int .i64 g.2.2)]) (fun g wl => Hd O w wl S [.fz (.sl (Rp.int .i64) v1 p0)] ∧ loopN B222 g.1 (g.2.1, g.2.2) = some g114) (fun g => g.1) (n223, 0, 0) (Sl_cons rfl (Sl_cons rfl Sl_nil)) ⟨H.pick [0] (by decide), hF⟩ ?_
    clear H hF
    rintro ⟨n223, g220, g221⟩ ρ w226 ⟨H, hF⟩
    obtain ⟨n227, rfl, hF⟩ := loopN_pos hF
    have hF := loop_body eB224 hF
    refine WP_seq_k fun K237 hK237 => ?_
    refine WP_seq_k fun K238 hK238 => ?_
    refine WP_region ?_
    refine RL_do rfl rfl (Do_move (v := .int .i64 g221) rfl) ?_
    refine RL_do rfl rfl (Do_move (v := v1) rfl) ?_
    obtain ⟨x239, e240, hF⟩ := letO_some hF
    obtain ⟨a241, c242, q243⟩ := SlF.len ((H.item (i := 0) rfl))
    refine RL_do rfl rfl (Do_as (Do_len u42 q243) (congrArg (Value.int .i64) e240)) ?_
    obtain ⟨x244, e245, hF⟩ := letO_some hF
    refine RL_do rfl rfl (Do_as (Do_lss (a := g221) (b := x239) rfl rfl) (congrArg Value.bool e245)) ?_
    refine (RL_nil (thenQ_n (hK238 _ _ ?_)))
    refine WP_ifb (b := x244) rfl (fun c246 => ?_) (fun c246 => ?_)
    · have hF := iteB_t c246 hF
      refine (WP_skip (thenQ_n (hK237 _ _ ?_)))
      refine WP_seq_k fun K261 hK261 => ?_
      refine WP_block ?_
      refine WP_region ?_
      refine RL_do rfl rfl (Do_move (v := .int .i64 g220) rfl) ?_
      refine RL_do rfl rfl (Do_move (v := v1) rfl) ?_
      refine RL_do rfl rfl (Do_move (v := .int .i64 g221) rfl) ?_
      obtain ⟨x262, e263, hF⟩ := bindO_some hF
      obtain ⟨b264, o265, c266, cs267, q268, h271, h269, h270, h272⟩ := rd_at (H.item (i := 0) rfl) e263
      obtain rfl : cs267 = [.int .i64 x262] := h271
      have H := H.fz (.at b264 (o265 + g221.toNat * 1) _) ⟨h269, h270, h272⟩
      refine RL_do rfl rfl (Do_idx u42 sz3 q268 rfl (at_some e263).1 (at_some e263).2.1 rfl rfl) ?_
      refine RL_do rfl rfl (Do_load one3 rfl (Cells.get (H.item (i := 1) rfl).2.2 (i := 0) rfl)) ?_
      obtain ⟨x274, e275, hF⟩ := letO_some hF
      refine RL_do rfl rfl (Do_add (a := g220) (b := x262) rfl rfl e275) ?_
      refine RL_do rfl rfl (Do_assign (v := .int .i64 x274) rfl) ?_
      refine (RL_nil (blockQ_n (thenQ_n (hK261 _ _ ?_))))
      refine WP_region ?_
      refine RL_do rfl rfl (Do_move (v := .int .i64 g221) rfl) ?_
      obtain ⟨x276, e277, hF⟩ := letO_some hF
      refine RL_do rfl rfl (Do_add (a := g221) (b := 1) rfl rfl e277) ?_
      refine RL_do rfl rfl (Do_assign (v := .int .i64 x276) rfl) ?_
      refine (RL_nil (thenQ_n (And.intro ?_ ?_)))
      · repeat' (first | with_reducible exact Fr_refl | refine Fr_upd rfl ?_ | refine Fr_over rfl rfl ?_)
      · exact ⟨(n227, x274, x276), (Sl_cons rfl (Sl_cons rfl Sl_nil)), ⟨H.pick [0] (by decide), hF⟩, Nat.lt_succ_self _⟩
    · have hF := iteB_f c246 hF
      have hR := Option.some.inj hF
      subst hR
      refine (WP_exit (thenQ_x (thenQ_x (blockQ_eq (thenQ_n (And.intro ?_ ?_))))))
      · repeat' (first | with_reducible exact Fr_refl | refine Fr_upd rfl ?_ | refine Fr_over rfl rfl ?_)
      · exact ⟨(), (Sl_cons rfl Sl_nil), H.pick [] (by decide)⟩
  · rintro _ ρ w115 H
    have hF := hK116
    refine WP_seq_k fun K278 hK278 => ?_
    refine WP_region ?_
    refine RL_do rfl rfl (Do_move (v := .int .i64 g114) rfl) ?_
    refine RL_do rfl rfl (Do_assign (v := .int .i64 g114) rfl) ?_
    refine (RL_nil (thenQ_n (hK278 _ _ ?_)))
    have hR := Option.some.inj hF
    subst hR
    refine (WP_ret (post1 (v1 := .int .i64 g114) rfl rfl ?_))
    exact ⟨rfl, H.pick [] (by decide)⟩
end Go.Proofs.YtbjhondbheijiaaGreat.L
