/- Walks: what each function computes, for every argument; no condition but those that stand in the statements. -/
import Derived.Test.YtbjhondbheijiaaDoorDV0
import Derived.Test.YtbjhondbheijiaaDoorDV4
import Derived.Test.YtbjhondbheijiaaDoorDV1
namespace Go.Proofs.YtbjhondbheijiaaDoor.L
open Go.RowKit Go.OB Go.Lf
/- orangebox/orangeboxref9.masked -/
set_option maxHeartbeats 4000000 in
theorem F_ref9_masked_w (p0 : Flight) (p1 : Mask) (v1 : Value) (v3 : Value) (v4 : Value) (r : Flight) (hF : F_ref9_masked p0 p1 = some r) (O S : List Nat) (w : World) (H : Hd O w w S [.fz (.sl rTrack v1 p0.Tracks), .fz (.sl Rp.str v3 p1.Hide), .fz (.sl rGrain v4 p1.Grains)]) :
    Calls Tryd.prog 53 ([.agg [.string (bs p0.Tail), .string (bs p0.Route), .int .i64 p0.Day, .int .i64 p0.From, .int .i64 p0.To, v1].toArray, .agg [.bool p1.Tails, .int .i64 p1.Days, v3, v4, .int .i64 p1.Least].toArray] : List Value).toArray w fun e w' => ∃ u7, e = .returned (.agg [.string (bs r.Tail), .string (bs r.Route), .int .i64 r.Day, .int .i64 r.From, .int .i64 r.To, u7].toArray) ∧ Hd O w w' S [.fz (.sl rTrack u7 r.Tracks)] := by
  unfold F_ref9_masked at hF
  refine calls_of_WP 121 Tryd.func53 rfl rfl rfl ?_
  refine WP_seq_k fun K8 hK8 => ?_
  refine WP_region ?_
  refine RL_ex rfl rfl (Lx_box (cs := [.string (bs p0.Tail), .string (bs p0.Route), .int .i64 p0.Day, .int .i64 p0.From, .int .i64 p0.To, v1]) rfl H) ?_
  rintro _ w11 ⟨b9, rfl, H⟩
  refine RL_ex rfl rfl (Lx_box (cs := [.bool p1.Tails, .int .i64 p1.Days, v3, v4, .int .i64 p1.Least]) rfl H) ?_
  rintro _ w14 ⟨b12, rfl, H⟩
  refine RL_ex rfl rfl (Lx_alloc zero47 H) ?_
  rintro _ w17 ⟨b15, rfl, H⟩
  refine (RL_nil (thenQ_n (hK8 _ _ ?_)))
  refine WP_seq_k fun K18 hK18 => ?_
  refine WP_region ?_
  refine RL_do rfl rfl (Do_as (Do_loads (cs := [.string (bs p0.Tail), .string (bs p0.Route), .int .i64 p0.Day, .int .i64 p0.From, .int .i64 p0.To, v1]) agg47 rfl sz47 rfl (Blk.cells (H.item (i := 3) rfl))) rfl) ?_
  refine RL_ex rfl rfl (Lx_alloc zero47 H) ?_
  rintro _ w21 ⟨b19, rfl, H⟩
  refine RL_exU rfl (Lx_storeN (vs := [.string (bs p0.Tail), .string (bs p0.Route), .int .i64 p0.Day, .int .i64 p0.From, .int .i64 p0.To, v1]) H 6 rfl sz47 rfl rfl rfl ⟨rfl, rfl, rfl, rfl, rfl, (slf_one (H.item (i := 0) rfl)), trivial⟩ rfl) ?_
  rintro w22 H
  refine (RL_nil (thenQ_n (hK18 _ _ ?_)))
  obtain ⟨g26, hF, hK28⟩ := bindO_some hF
  refine WP_seqS [15, 16, 17] (fun (g : Unit) => []) (fun g wl => Hd O w wl S [.blk b9 [.string (bs p0.Tail), .string (bs p0.Route), .int .i64 p0.Day, .int .i64 p0.From, .int .i64 p0.To, v1] 47, .fz (.sl rTrack v1 p0.Tracks), .blk b12 [.bool p1.Tails, .int .i64 p1.Days, v3, v4, .int .i64 p1.Least] 50, .fz (.sl Rp.str v3 p1.Hide), .fz (.sl rGrain v4 p1.Grains), .blk b15 [.string (bs []), .string (bs []), .int .i64 0, .int .i64 0, .int .i64 0, .slice none 0 0] 47, .blk b19 [.string (bs g26), .string (bs p0.Route), .int .i64 p0.Day, .int .i64 p0.From, .int .i64 p0.To, v1] 47]) ?_ ?_
  · skip
    refine WP_seq_k fun K29 hK29 => ?_
    refine WP_region ?_
    refine RL_do rfl rfl (fa50_0 rfl) ?_
    refine RL_do rfl rfl (Do_load one4 rfl (Cells.get (Blk.cells (H.item (i := 4) rfl)) (i := 0) rfl)) ?_
    refine (RL_nil (thenQ_n (hK29 _ _ ?_)))
    refine WP_ifb (b := p1.Tails) rfl (fun c30 => ?_) (fun c30 => ?_)
    · have hF := iteB_t c30 hF
      refine WP_region ?_
      refine RL_do rfl rfl (fa47_0 rfl) ?_
      refine RL_exU rfl (Lx_store1 H 6 rfl sz9 rfl (v := .string (bs [])) rfl rfl rfl) ?_
      rintro w31 H
      have hR := Option.some.inj hF
      subst hR
      refine (RL_nil (thenQ_n (And.intro ?_ ?_)))
      · repeat' (first | with_reducible exact Fr_refl | refine Fr_upd rfl ?_ | refine Fr_over rfl rfl ?_)
      · exact ⟨(), Sl_nil, H.pick [3, 0, 4, 1, 2, 5, 6] (by decide)⟩
    · have hF := iteB_f c30 hF
      have hR := Option.some.inj hF
      subst hR
      refine (WP_skip (thenQ_n (And.intro ?_ ?_)))
      · repeat' (first | with_reducible exact Fr_refl | refine Fr_upd rfl ?_ | refine Fr_over rfl rfl ?_)
      · exact ⟨(), Sl_nil, H.pick [3, 0, 4, 1, 2, 5, 6] (by decide)⟩
  · rintro _ ρ w27 H
    have hF := hK28
    refine WP_seq_k fun K32 hK32 => ?_
    have H33 := H
    have H := H.rebase
    have H34 := H
    refine WP_mix0 H [0, 1, 2, 3, 4, 5, 6, 7, 8, 9] [.pure, .read, .pure, .read, .pure, .pure, .read, .pure, .pure, .eff] mixed (by kernel_rfl) (by kernel_rfl) (by kernel_rfl) rfl ?_
    refine Mx.XL_pure rfl rfl rfl (fun w' hw' => fa47_2 rfl) ?_
    refine Mx.XL_read oS rfl rfl rfl (fun w' hw' => Do_load one3 rfl (Cells.get (Blk.cells ((H.sees hw').item (i := 0) rfl)) (i := 2) rfl)) ?_
    refine Mx.XL_pure rfl rfl rfl (fun w' hw' => fa50_1 rfl) ?_
    refine Mx.XL_read oS rfl rfl rfl (fun w' hw' => Do_load one3 rfl (Cells.get (Blk.cells ((H.sees hw').item (i := 2) rfl)) (i := 1) rfl)) ?_
    obtain ⟨x35, e36, hF⟩ := bindO_some hF
    refine Mx.XL_pure rfl rfl rfl (fun w' hw' => Do_quo' (j := p0.Day) (q := p1.Days) rfl rfl e36) ?_
    refine Mx.XL_pure rfl rfl rfl (fun w' hw' => fa50_1 rfl) ?_
    refine Mx.XL_read oS rfl rfl rfl (fun w' hw' => Do_load one3 rfl (Cells.get (Blk.cells ((H.sees hw').item (i := 2) rfl)) (i := 1) rfl)) ?_
    obtain ⟨x37, e38, hF⟩ := letO_some hF
    refine Mx.XL_pure rfl rfl rfl (fun w' hw' => Do_mul (a := x35) (b := p1.Days) rfl rfl e38) ?_
    refine Mx.XL_pure rfl rfl rfl (fun w' hw' => fa47_2 rfl) ?_
    refine Mx.XL_exU oS rfl rfl (fun w' hw' => Lx_store1 (H.sees hw') 6 rfl sz3 rfl (v := .int .i64 x37) rfl rfl rfl) ?_
    rintro w' w39 hw' H
    refine ⟨H.only, ?_⟩
    refine Mx.XL_nil fun w40 hS => ?_
    have H := H.sees hS
    have H := H33.rejoin H
    refine (thenQ_n (hK32 _ _ ?_))
    refine WP_seq_k fun K41 hK41 => ?_
    refine WP_region ?_
    refine RL_do rfl rfl (fa47_5 rfl) ?_
    refine RL_exU rfl (Lx_store1 H 6 rfl sz45 rfl (v := .slice none 0 0) rfl rfl rfl) ?_
    rintro w42 H
    refine (RL_nil (thenQ_n (hK41 _ _ ?_)))
    obtain ⟨g2872, hF, hK2875⟩ := bindO_some hF
    refine WP_seqS [6, 7, 8, 9, 10, 11, 12, 13, 28, 29, 30, 31, 32, 33, 34, 35, 36, 37, 38, 39, 40, 41, 42, 43, 44, 45, 46, 47, 48, 49, 50, 51, 52, 53, 54, 55, 56, 57, 58, 59, 60, 61, 62, 63, 64, 65, 66, 67, 68, 69, 70, 71, 72, 73, 74, 75, 76, 77, 78, 79, 80, 81, 82, 83, 84, 85, 86, 87, 88, 89, 90, 91, 92, 93, 94, 95, 96, 97, 98, 99, 100, 101, 102, 103, 104, 105, 106, 107, 108, 109, 110, 111, 112, 113, 114, 115, 116, 117, 118, 119] (fun (g : Value) => []) (fun g wl => Hd O w wl S [.blk b15 [.string (bs []), .string (bs []), .int .i64 0, .int .i64 0, .int .i64 0, .slice none 0 0] 47, .blk b19 [.string (bs g26), .string (bs p0.Route), .int .i64 x37, .int .i64 p0.From, .int .i64 p0.To, g] 47, .own rTrack g 95 g2872]) ?_ ?_
    · skip
      refine WP_seq_k fun K2876 hK2876 => ?_
      refine WP_region ?_
      refine RL_do rfl rfl (Do_assign (v := .int .i64 0) rfl) ?_
      refine (RL_nil (thenQ_n (hK2876 _ _ ?_)))
      refine WP_block ?_
      have H := own_nil H rTrack 95
      unfold F_ref9_masked_L1 at hF
      obtain ⟨B5702, n5703, eB5704, hF⟩ := loopO_some hF
      refine WP_loopS [6, 7, 8, 9, 10, 11, 12, 13, 28, 29, 30, 31, 32, 33, 34, 35, 36, 37, 38, 39, 40, 41, 42, 43, 44, 45, 46, 47, 48, 49, 50, 51, 52, 53, 54, 55, 56, 57, 58, 59, 60, 61, 62, 63, 64, 65, 66, 67, 68, 69, 70, 71, 72, 73, 74, 75, 76, 77, 78, 79, 80, 81, 82, 83, 84, 85, 86, 87, 88, 89, 90, 91, 92, 93, 94, 95, 96, 97, 98, 99, 100, 101, 102, 103, 104, 105, 106, 107, 108, 109, 110, 111, 112, 113, 114, 115, 116, 117, 118, 119] (fun (g : Nat × Int × (List Track) × Value) => [(6, .int .i64 g.2.1)]) (fun g wl => Hd O w wl S [.blk b9 [.string (bs p0.Tail), .string (bs p0.Route), .int .i64 p0.Day, .int .i64 p0.From, .int .i64 p0.To, v1] 47, .fz (.sl rTrack v1 p0.Tracks), .blk b12 [.bool p1.Tails, .int .i64 p1.Days, v3, v4, .int .i64 p1.Least] 50, .fz (.sl Rp.str v3 p1.Hide), .fz (.sl rGrain v4 p1.Grains), .blk b15 [.string (bs []), .string (bs []), .int .i64 0, .int .i64 0, .int .i64 0, .slice none 0 0] 47, .blk b19 [.string (bs g26), .string (bs p0.Route), .int .i64 x37, .int .i64 p0.From, .int .i64 p0.To, g.2.2.2] 47, .own rTrack g.2.2.2 95 g.2.2.1] ∧ loopN B5702 g.1 (g.2.1, g.2.2.1) = some g2872) (fun g => g.1) (n5703, 0, [], .slice none 0 0) (Sl_cons rfl Sl_nil) ⟨H.pick [0, 1, 2, 3, 4, 5, 6, 7] (by decide), hF⟩ ?_
      clear H hF
      rintro ⟨n5703, g5697, g5699, v5700⟩ ρ w5706 ⟨H, hF⟩
      obtain ⟨n5707, rfl, hF⟩ := loopN_pos hF
      have hF := loop_body eB5704 hF
      refine WP_seq_k fun K5717 hK5717 => ?_
      refine WP_seq_k fun K5718 hK5718 => ?_
      refine WP_region ?_
      refine RL_do rfl rfl (Do_move (v := .int .i64 g5697) rfl) ?_
      refine RL_do rfl rfl (fa47_5 rfl) ?_
      refine RL_do rfl rfl (Do_load one45 rfl (Cells.get (Blk.cells (H.item (i := 0) rfl)) (i := 5) rfl)) ?_
      obtain ⟨x5719, e5720, hF⟩ := letO_some hF
      obtain ⟨a5721, c5722, q5723⟩ := SlF.len ((H.item (i := 1) rfl))
      refine RL_do rfl rfl (Do_as (Do_len u45 q5723) (congrArg (Value.int .i64) e5720)) ?_
      obtain ⟨x5724, e5725, hF⟩ := letO_some hF
      refine RL_do rfl rfl (Do_as (Do_lss (a := g5697) (b := x5719) rfl rfl) (congrArg Value.bool e5725)) ?_
      refine (RL_nil (thenQ_n (hK5718 _ _ ?_)))
      refine WP_ifb (b := x5724) rfl (fun c5726 => ?_) (fun c5726 => ?_)
      · have hF := iteB_t c5726 hF
        refine (WP_skip (thenQ_n (hK5717 _ _ ?_)))
        obtain ⟨g6582, hF, hK6585⟩ := bindO_some hF
        refine WP_seqS [7, 8, 9, 10, 11, 12, 13, 35, 36, 37, 38, 39, 40, 41, 42, 43, 44, 45, 46, 47, 48, 49, 50, 51, 52, 53, 54, 55, 56, 57, 58, 59, 60, 61, 62, 63, 64, 65, 66, 67, 68, 69, 70, 71, 72, 73, 74, 75, 76, 77, 78, 79, 80, 81, 82, 83, 84, 85, 86, 87, 88, 89, 90, 91, 92, 93, 94, 95, 96, 97, 98, 99, 100, 101, 102, 103, 104, 105, 106, 107, 108, 109, 110, 111, 112, 113, 114, 115, 116, 117, 118, 119] (fun (g : Value) => []) (fun g wl => Hd O w wl S [.blk b9 [.string (bs p0.Tail), .string (bs p0.Route), .int .i64 p0.Day, .int .i64 p0.From, .int .i64 p0.To, v1] 47, .fz (.sl rTrack v1 p0.Tracks), .blk b12 [.bool p1.Tails, .int .i64 p1.Days, v3, v4, .int .i64 p1.Least] 50, .fz (.sl Rp.str v3 p1.Hide), .fz (.sl rGrain v4 p1.Grains), .blk b15 [.string (bs []), .string (bs []), .int .i64 0, .int .i64 0, .int .i64 0, .slice none 0 0] 47, .blk b19 [.string (bs g26), .string (bs p0.Route), .int .i64 x37, .int .i64 p0.From, .int .i64 p0.To, g] 47, .own rTrack g 95 g6582]) ?_ ?_
        · skip
          refine WP_block ?_
          refine WP_seq_k fun K6586 hK6586 => ?_
          refine WP_region ?_
          refine RL_do rfl rfl (fa47_5 rfl) ?_
          refine RL_do rfl rfl (Do_load one45 rfl (Cells.get (Blk.cells (H.item (i := 0) rfl)) (i := 5) rfl)) ?_
          refine RL_do rfl rfl (Do_move (v := .int .i64 g5697) rfl) ?_
          obtain ⟨x6587, e6588, hF⟩ := bindO_some hF
          obtain ⟨b6589, o6590, c6591, cs6592, q6593, h6596, h6594, h6595, h6597⟩ := rd_at (H.item (i := 1) rfl) e6588
          obtain ⟨v6598, rfl, h6599⟩ := rTrack_open h6596
          have H := H.fzs [.at b6589 (o6590 + g5697.toNat * 4) _, .sl rSample v6598 x6587.Series.Samples] ⟨⟨h6594, h6595, h6597⟩, h6599, trivial⟩
          refine RL_do rfl rfl (Do_idx u45 sz95 q6593 rfl (at_some e6588).1 (at_some e6588).2.1 rfl rfl) ?_
          refine RL_do rfl rfl (Do_as (Do_loads (cs := [.string (bs x6587.Name), .int .i64 x6587.Series.Den, v6598, .int .i64 x6587.Long]) agg95 rfl sz95 rfl (H.item (i := 8) rfl).2.2) rfl) ?_
          refine RL_ex rfl rfl (Lx_alloc zero95 H) ?_
          rintro _ w6604 ⟨b6602, rfl, H⟩
          refine RL_exU rfl (Lx_storeN (vs := [.string (bs x6587.Name), .int .i64 x6587.Series.Den, v6598, .int .i64 x6587.Long]) H 10 rfl sz95 rfl rfl rfl ⟨rfl, rfl, (slf_one (H.item (i := 9) rfl)), rfl, trivial⟩ rfl) ?_
          rintro w6605 H
          refine (RL_nil (thenQ_n (hK6586 _ _ ?_)))
          refine WP_seq_k fun K6606 hK6606 => ?_
          refine WP_region ?_
          refine RL_do rfl rfl (Do_assign (v := .bool false) rfl) ?_
          refine (RL_nil (thenQ_n (hK6606 _ _ ?_)))
          obtain ⟨g6715, hF, hK6717⟩ := bindO_some hF
          refine WP_seqS [8, 9, 40, 41, 42, 43, 44, 45, 46, 47, 48, 49, 50, 51, 52, 53, 54, 55, 56, 57] (fun (g : Unit) => [(8, .bool g6715)]) (fun g wl => Hd O w wl S [.blk b9 [.string (bs p0.Tail), .string (bs p0.Route), .int .i64 p0.Day, .int .i64 p0.From, .int .i64 p0.To, v1] 47, .fz (.sl rTrack v1 p0.Tracks), .blk b12 [.bool p1.Tails, .int .i64 p1.Days, v3, v4, .int .i64 p1.Least] 50, .fz (.sl Rp.str v3 p1.Hide), .fz (.sl rGrain v4 p1.Grains), .blk b15 [.string (bs []), .string (bs []), .int .i64 0, .int .i64 0, .int .i64 0, .slice none 0 0] 47, .blk b19 [.string (bs g26), .string (bs p0.Route), .int .i64 x37, .int .i64 p0.From, .int .i64 p0.To, v5700] 47, .own rTrack v5700 95 g5699, .blk b6602 [.string (bs x6587.Name), .int .i64 x6587.Series.Den, v6598, .int .i64 x6587.Long] 95, .fz (.sl rSample v6598 x6587.Series.Samples)]) ?_ ?_
          · skip
            refine WP_seq_k fun K6718 hK6718 => ?_
            refine WP_region ?_
            refine RL_do rfl rfl (Do_assign (v := .int .i64 0) rfl) ?_
            refine (RL_nil (thenQ_n (hK6718 _ _ ?_)))
            refine WP_block ?_
            unfold F_ref9_masked_L2 at hF
            obtain ⟨B6822, n6823, eB6824, hF⟩ := loopO_some hF
            refine WP_loopS [8, 9, 40, 41, 42, 43, 44, 45, 46, 47, 48, 49, 50, 51, 52, 53, 54, 55, 56, 57] (fun (g : Nat × Bool × Int) => [(8, .bool g.2.1), (9, .int .i64 g.2.2)]) (fun g wl => Hd O w wl S [.blk b9 [.string (bs p0.Tail), .string (bs p0.Route), .int .i64 p0.Day, .int .i64 p0.From, .int .i64 p0.To, v1] 47, .fz (.sl rTrack v1 p0.Tracks), .blk b12 [.bool p1.Tails, .int .i64 p1.Days, v3, v4, .int .i64 p1.Least] 50, .fz (.sl Rp.str v3 p1.Hide), .fz (.sl rGrain v4 p1.Grains), .blk b15 [.string (bs []), .string (bs []), .int .i64 0, .int .i64 0, .int .i64 0, .slice none 0 0] 47, .blk b19 [.string (bs g26), .string (bs p0.Route), .int .i64 x37, .int .i64 p0.From, .int .i64 p0.To, v5700] 47, .own rTrack v5700 95 g5699, .blk b6602 [.string (bs x6587.Name), .int .i64 x6587.Series.Den, v6598, .int .i64 x6587.Long] 95, .fz (.sl rSample v6598 x6587.Series.Samples)] ∧ loopN B6822 g.1 (g.2.1, g.2.2) = some g6715) (fun g => g.1) (n6823, false, 0) (Sl_cons rfl (Sl_cons rfl Sl_nil)) ⟨H.pick [0, 1, 2, 3, 4, 5, 6, 7, 10, 9] (by decide), hF⟩ ?_
            clear H hF
            rintro ⟨n6823, g6820, g6821⟩ ρ w6826 ⟨H, hF⟩
            obtain ⟨n6827, rfl, hF⟩ := loopN_pos hF
            have hF := loop_body eB6824 hF
            refine WP_seq_k fun K6837 hK6837 => ?_
            refine WP_seq_k fun K6838 hK6838 => ?_
            refine WP_region ?_
            refine RL_do rfl rfl (Do_move (v := .int .i64 g6821) rfl) ?_
            refine RL_do rfl rfl (fa50_2 rfl) ?_
            refine RL_do rfl rfl (Do_load one35 rfl (Cells.get (Blk.cells (H.item (i := 2) rfl)) (i := 2) rfl)) ?_
            obtain ⟨x6839, e6840, hF⟩ := letO_some hF
            obtain ⟨a6841, c6842, q6843⟩ := SlF.len ((H.item (i := 3) rfl))
            refine RL_do rfl rfl (Do_as (Do_len u35 q6843) (congrArg (Value.int .i64) e6840)) ?_
            obtain ⟨x6844, e6845, hF⟩ := letO_some hF
            refine RL_do rfl rfl (Do_as (Do_lss (a := g6821) (b := x6839) rfl rfl) (congrArg Value.bool e6845)) ?_
            refine (RL_nil (thenQ_n (hK6838 _ _ ?_)))
            refine WP_ifb (b := x6844) rfl (fun c6846 => ?_) (fun c6846 => ?_)
            · have hF := iteB_t c6846 hF
              refine (WP_skip (thenQ_n (hK6837 _ _ ?_)))
              obtain ⟨g6866, hF, hK6868⟩ := bindO_some hF
              refine WP_seqS [8, 47, 48, 49, 50, 51, 52, 53, 54, 55, 56, 57] (fun (g : Unit) => [(8, .bool g6866)]) (fun g wl => Hd O w wl S [.blk b9 [.string (bs p0.Tail), .string (bs p0.Route), .int .i64 p0.Day, .int .i64 p0.From, .int .i64 p0.To, v1] 47, .fz (.sl rTrack v1 p0.Tracks), .blk b12 [.bool p1.Tails, .int .i64 p1.Days, v3, v4, .int .i64 p1.Least] 50, .fz (.sl Rp.str v3 p1.Hide), .fz (.sl rGrain v4 p1.Grains), .blk b15 [.string (bs []), .string (bs []), .int .i64 0, .int .i64 0, .int .i64 0, .slice none 0 0] 47, .blk b19 [.string (bs g26), .string (bs p0.Route), .int .i64 x37, .int .i64 p0.From, .int .i64 p0.To, v5700] 47, .own rTrack v5700 95 g5699, .blk b6602 [.string (bs x6587.Name), .int .i64 x6587.Series.Den, v6598, .int .i64 x6587.Long] 95, .fz (.sl rSample v6598 x6587.Series.Samples)]) ?_ ?_
              · skip
                refine WP_block ?_
                have H6869 := H
                have H := H.rebase
                have H6870 := H
                refine WP_mix0 H [0, 1, 2, 3, 4, 5, 6, 7, 8, 9, 10, 11] [.pure, .pure, .pure, .read, .pure, .pure, .read, .pure, .read, .pure, .pure, .pure] mixed (by kernel_rfl) (by kernel_rfl) (by kernel_rfl) rfl ?_
                refine Mx.XL_pure rfl rfl rfl (fun w' hw' => Do_move (v := .bool g6820) rfl) ?_
                refine Mx.XL_splitb (b := g6820) rfl rfl rfl rfl (fun c6871 => ?_) (fun c6871 => ?_)
                · have hF := iteB_t c6871 hF
                  refine Mx.XL_offp rfl rfl rfl ?_
                  refine Mx.XL_offr oS rfl rfl rfl ?_
                  refine Mx.XL_offp rfl rfl rfl ?_
                  refine Mx.XL_offp rfl rfl rfl ?_
                  refine Mx.XL_offr oS rfl rfl rfl ?_
                  refine Mx.XL_offp rfl rfl rfl ?_
                  refine Mx.XL_offr oS rfl rfl rfl ?_
                  refine Mx.XL_offp rfl rfl rfl ?_
                  refine Mx.XL_pure rfl rfl rfl (fun w' hw' => Do_pick_t (v := .bool true) rfl rfl) ?_
                  refine Mx.XL_pure rfl rfl rfl (fun w' hw' => Do_assign (v := .bool true) rfl) ?_
                  refine Mx.XL_nil fun w6872 hS => ?_
                  have H := H.sees hS
                  have H := H6869.rejoin H
                  have hR := Option.some.inj hF
                  subst hR
                  refine (blockQ_n (thenQ_n (And.intro ?_ ?_)))
                  · repeat' (first | with_reducible exact Fr_refl | refine Fr_upd rfl ?_ | refine Fr_over rfl rfl ?_)
                  · exact ⟨(), (Sl_cons rfl Sl_nil), H.pick [0, 1, 2, 3, 4, 5, 6, 7, 8, 9] (by decide)⟩
                · have hF := iteB_f c6871 hF
                  refine Mx.XL_pure rfl rfl rfl (fun w' hw' => fa50_2 rfl) ?_
                  refine Mx.XL_read oS rfl rfl rfl (fun w' hw' => Do_load one35 rfl (Cells.get (Blk.cells ((H.sees hw').item (i := 2) rfl)) (i := 2) rfl)) ?_
                  refine Mx.XL_pure rfl rfl rfl (fun w' hw' => Do_move (v := .int .i64 g6821) rfl) ?_
                  obtain ⟨x6873, e6874, hF⟩ := bindO_some hF
                  obtain ⟨b6875, o6876, c6877, cs6878, q6879, h6882, h6880, h6881, h6883⟩ := rd_at (H.item (i := 3) rfl) e6874
                  obtain rfl : cs6878 = [.string (bs x6873)] := h6882
                  have H := H.fz (.at b6875 (o6876 + g6821.toNat * 1) _) ⟨h6880, h6881, h6883⟩
                  refine Mx.XL_pure rfl rfl rfl (fun w' hw' => Do_idx u35 sz9 q6879 rfl (at_some e6874).1 (at_some e6874).2.1 rfl rfl) ?_
                  refine Mx.XL_read oS rfl rfl rfl (fun w' hw' => Do_load one9 rfl (Cells.get ((H.sees hw').item (i := 10) rfl).2.2 (i := 0) rfl)) ?_
                  refine Mx.XL_pure rfl rfl rfl (fun w' hw' => fa95_0 rfl) ?_
                  refine Mx.XL_read oS rfl rfl rfl (fun w' hw' => Do_load one9 rfl (Cells.get (Blk.cells ((H.sees hw').item (i := 8) rfl)) (i := 0) rfl)) ?_
                  obtain ⟨x6885, e6886, hF⟩ := letO_some hF
                  refine Mx.XL_pure rfl rfl rfl (fun w' hw' => Do_as (Do_eqls (s1 := x6873) (s2 := x6587.Name) rfl rfl) (congrArg Value.bool e6886)) ?_
                  refine Mx.XL_pure rfl rfl rfl (fun w' hw' => Do_pick_f (v := .bool x6885) rfl rfl) ?_
                  refine Mx.XL_pure rfl rfl rfl (fun w' hw' => Do_assign (v := .bool x6885) rfl) ?_
                  refine Mx.XL_nil fun w6887 hS => ?_
                  have H := H.sees hS
                  have H := H6869.rejoin H
                  have hR := Option.some.inj hF
                  subst hR
                  refine (blockQ_n (thenQ_n (And.intro ?_ ?_)))
                  · repeat' (first | with_reducible exact Fr_refl | refine Fr_upd rfl ?_ | refine Fr_over rfl rfl ?_)
                  · exact ⟨(), (Sl_cons rfl Sl_nil), H.pick [0, 1, 2, 3, 4, 5, 6, 7, 8, 9] (by decide)⟩
              · rintro _ ρ w6867 H
                have hF := hK6868
                refine WP_region ?_
                refine RL_do rfl rfl (Do_move (v := .int .i64 g6821) rfl) ?_
                obtain ⟨x6888, e6889, hF⟩ := letO_some hF
                refine RL_do rfl rfl (Do_add (a := g6821) (b := 1) rfl rfl e6889) ?_
                refine RL_do rfl rfl (Do_assign (v := .int .i64 x6888) rfl) ?_
                refine (RL_nil (thenQ_n (And.intro ?_ ?_)))
                · repeat' (first | with_reducible exact Fr_refl | refine Fr_upd rfl ?_ | refine Fr_over rfl rfl ?_)
                · exact ⟨(n6827, g6866, x6888), (Sl_cons rfl (Sl_cons rfl Sl_nil)), ⟨H.pick [0, 1, 2, 3, 4, 5, 6, 7, 8, 9] (by decide), hF⟩, Nat.lt_succ_self _⟩
            · have hF := iteB_f c6846 hF
              have hR := Option.some.inj hF
              subst hR
              refine (WP_exit (thenQ_x (thenQ_x (blockQ_eq (thenQ_n (And.intro ?_ ?_))))))
              · repeat' (first | with_reducible exact Fr_refl | refine Fr_upd rfl ?_ | refine Fr_over rfl rfl ?_)
              · exact ⟨(), (Sl_cons rfl Sl_nil), H.pick [0, 1, 2, 3, 4, 5, 6, 7, 8, 9] (by decide)⟩
          · rintro _ ρ w6716 H
            have hF := hK6717
            refine WP_seq_k fun K6892 hK6892 => ?_
            refine WP_seq_k fun K6893 hK6893 => ?_
            refine WP_region ?_
            refine RL_do rfl rfl (Do_move (v := .bool g6715) rfl) ?_
            refine (RL_nil (thenQ_n (hK6893 _ _ ?_)))
            refine WP_ifb (b := g6715) rfl (fun c6894 => ?_) (fun c6894 => ?_)
            · have hF := iteB_t c6894 hF
              have hR := Option.some.inj hF
              subst hR
              refine (WP_exit (thenQ_x (blockQ_eq (thenQ_n (And.intro ?_ ?_)))))
              · repeat' (first | with_reducible exact Fr_refl | refine Fr_upd rfl ?_ | refine Fr_over rfl rfl ?_)
              · exact ⟨v5700, Sl_nil, H.pick [0, 1, 2, 3, 4, 5, 6, 7] (by decide)⟩
            · have hF := iteB_f c6894 hF
              refine (WP_skip (thenQ_n (hK6892 _ _ ?_)))
              obtain ⟨g7599, hF, hK7602⟩ := bindO_some hF
              refine WP_seqS [10, 11, 12, 13, 59, 60, 61, 62, 63, 64, 65, 66, 67, 68, 69, 70, 71, 72, 73, 74, 75, 76, 77, 78, 79, 80, 81, 82, 83, 84, 85, 86, 87, 88, 89, 90, 91, 92, 93, 94, 95, 96, 97, 98, 99, 100, 101, 102, 103, 104, 105, 106, 107, 108, 109, 110, 111, 112, 113] (fun (g : Value) => []) (fun g wl => Hd O w wl S [.blk b9 [.string (bs p0.Tail), .string (bs p0.Route), .int .i64 p0.Day, .int .i64 p0.From, .int .i64 p0.To, v1] 47, .fz (.sl rTrack v1 p0.Tracks), .blk b12 [.bool p1.Tails, .int .i64 p1.Days, v3, v4, .int .i64 p1.Least] 50, .fz (.sl Rp.str v3 p1.Hide), .fz (.sl rGrain v4 p1.Grains), .blk b15 [.string (bs []), .string (bs []), .int .i64 0, .int .i64 0, .int .i64 0, .slice none 0 0] 47, .blk b19 [.string (bs g26), .string (bs p0.Route), .int .i64 x37, .int .i64 p0.From, .int .i64 p0.To, v5700] 47, .own rTrack v5700 95 g5699, .blk b6602 [.string (bs x6587.Name), .int .i64 x6587.Series.Den, g, .int .i64 x6587.Long] 95, .fz (.sl rSample g g7599)]) ?_ ?_
              · skip
                refine WP_seq_k fun K7603 hK7603 => ?_
                refine WP_region ?_
                refine RL_do rfl rfl (Do_assign (v := .int .i64 0) rfl) ?_
                refine (RL_nil (thenQ_n (hK7603 _ _ ?_)))
                refine WP_block ?_
                unfold F_ref9_masked_L3 at hF
                obtain ⟨B8304, n8305, eB8306, hF⟩ := loopO_some hF
                refine WP_loopS [10, 11, 12, 13, 59, 60, 61, 62, 63, 64, 65, 66, 67, 68, 69, 70, 71, 72, 73, 74, 75, 76, 77, 78, 79, 80, 81, 82, 83, 84, 85, 86, 87, 88, 89, 90, 91, 92, 93, 94, 95, 96, 97, 98, 99, 100, 101, 102, 103, 104, 105, 106, 107, 108, 109, 110, 111, 112, 113] (fun (g : Nat × Int × (List Sample) × Value) => [(10, .int .i64 g.2.1)]) (fun g wl => Hd O w wl S [.blk b9 [.string (bs p0.Tail), .string (bs p0.Route), .int .i64 p0.Day, .int .i64 p0.From, .int .i64 p0.To, v1] 47, .fz (.sl rTrack v1 p0.Tracks), .blk b12 [.bool p1.Tails, .int .i64 p1.Days, v3, v4, .int .i64 p1.Least] 50, .fz (.sl Rp.str v3 p1.Hide), .fz (.sl rGrain v4 p1.Grains), .blk b15 [.string (bs []), .string (bs []), .int .i64 0, .int .i64 0, .int .i64 0, .slice none 0 0] 47, .blk b19 [.string (bs g26), .string (bs p0.Route), .int .i64 x37, .int .i64 p0.From, .int .i64 p0.To, v5700] 47, .own rTrack v5700 95 g5699, .blk b6602 [.string (bs x6587.Name), .int .i64 x6587.Series.Den, g.2.2.2, .int .i64 x6587.Long] 95, .fz (.sl rSample g.2.2.2 g.2.2.1)] ∧ loopN B8304 g.1 (g.2.1, g.2.2.1) = some g7599) (fun g => g.1) (n8305, 0, x6587.Series.Samples, v6598) (Sl_cons rfl Sl_nil) ⟨H.pick [0, 1, 2, 3, 4, 5, 6, 7, 8, 9] (by decide), hF⟩ ?_
                clear H hF
                rintro ⟨n8305, g8300, g8302, v8303⟩ ρ w8308 ⟨H, hF⟩
                obtain ⟨n8309, rfl, hF⟩ := loopN_pos hF
                have hF := loop_body eB8306 hF
                refine WP_seq_k fun K8319 hK8319 => ?_
                refine WP_seq_k fun K8320 hK8320 => ?_
                refine WP_region ?_
                refine RL_do rfl rfl (Do_move (v := .int .i64 g8300) rfl) ?_
                refine RL_do rfl rfl (fa50_3 rfl) ?_
                refine RL_do rfl rfl (Do_load one48 rfl (Cells.get (Blk.cells (H.item (i := 2) rfl)) (i := 3) rfl)) ?_
                obtain ⟨x8321, e8322, hF⟩ := letO_some hF
                obtain ⟨a8323, c8324, q8325⟩ := SlF.len ((H.item (i := 4) rfl))
                refine RL_do rfl rfl (Do_as (Do_len u48 q8325) (congrArg (Value.int .i64) e8322)) ?_
                obtain ⟨x8326, e8327, hF⟩ := letO_some hF
                refine RL_do rfl rfl (Do_as (Do_lss (a := g8300) (b := x8321) rfl rfl) (congrArg Value.bool e8327)) ?_
                refine (RL_nil (thenQ_n (hK8320 _ _ ?_)))
                refine WP_ifb (b := x8326) rfl (fun c8328 => ?_) (fun c8328 => ?_)
                · have hF := iteB_t c8328 hF
                  refine (WP_skip (thenQ_n (hK8319 _ _ ?_)))
                  obtain ⟨g8650, hF, hK8653⟩ := bindO_some hF
                  refine WP_seqS [11, 12, 13, 66, 67, 68, 69, 70, 71, 72, 73, 74, 75, 76, 77, 78, 79, 80, 81, 82, 83, 84, 85, 86, 87, 88, 89, 90, 91, 92, 93, 94, 95, 96, 97, 98, 99, 100, 101, 102, 103, 104, 105, 106, 107, 108, 109, 110, 111, 112, 113] (fun (g : Value) => []) (fun g wl => Hd O w wl S [.blk b9 [.string (bs p0.Tail), .string (bs p0.Route), .int .i64 p0.Day, .int .i64 p0.From, .int .i64 p0.To, v1] 47, .fz (.sl rTrack v1 p0.Tracks), .blk b12 [.bool p1.Tails, .int .i64 p1.Days, v3, v4, .int .i64 p1.Least] 50, .fz (.sl Rp.str v3 p1.Hide), .fz (.sl rGrain v4 p1.Grains), .blk b15 [.string (bs []), .string (bs []), .int .i64 0, .int .i64 0, .int .i64 0, .slice none 0 0] 47, .blk b19 [.string (bs g26), .string (bs p0.Route), .int .i64 x37, .int .i64 p0.From, .int .i64 p0.To, v5700] 47, .own rTrack v5700 95 g5699, .blk b6602 [.string (bs x6587.Name), .int .i64 x6587.Series.Den, g, .int .i64 x6587.Long] 95, .fz (.sl rSample g g8650)]) ?_ ?_
                  · skip
                    refine WP_block ?_
                    refine WP_seq_k fun K8673 hK8673 => ?_
                    refine WP_seq_k fun K8674 hK8674 => ?_
                    have H8675 := H
                    have H := H.rebase
                    have H8676 := H
                    refine WP_mix0 H [0, 1, 2, 3, 4, 5, 6, 7, 8] [.pure, .read, .pure, .pure, .pure, .read, .pure, .read, .pure] mixed (by kernel_rfl) (by kernel_rfl) (by kernel_rfl) rfl ?_
                    refine Mx.XL_pure rfl rfl rfl (fun w' hw' => fa50_3 rfl) ?_
                    refine Mx.XL_read oS rfl rfl rfl (fun w' hw' => Do_load one48 rfl (Cells.get (Blk.cells ((H.sees hw').item (i := 2) rfl)) (i := 3) rfl)) ?_
                    refine Mx.XL_pure rfl rfl rfl (fun w' hw' => Do_move (v := .int .i64 g8300) rfl) ?_
                    obtain ⟨x8677, e8678, hF⟩ := bindO_some hF
                    obtain ⟨b8679, o8680, c8681, cs8682, q8683, h8686, h8684, h8685, h8687⟩ := rd_at (H.item (i := 4) rfl) e8678
                    obtain rfl := rGrain_open h8686
                    have H := H.fz (.at b8679 (o8680 + g8300.toNat * 2) _) ⟨h8684, h8685, h8687⟩
                    refine Mx.XL_pure rfl rfl rfl (fun w' hw' => Do_idx u48 sz82 q8683 rfl (at_some e8678).1 (at_some e8678).2.1 rfl rfl) ?_
                    refine Mx.XL_pure rfl rfl rfl (fun w' hw' => fa82_0 rfl) ?_
                    refine Mx.XL_read oS rfl rfl rfl (fun w' hw' => Do_load one9 rfl (Cells.get ((H.sees hw').item (i := 10) rfl).2.2 (i := 0) rfl)) ?_
                    refine Mx.XL_pure rfl rfl rfl (fun w' hw' => fa95_0 rfl) ?_
                    refine Mx.XL_read oS rfl rfl rfl (fun w' hw' => Do_load one9 rfl (Cells.get (Blk.cells ((H.sees hw').item (i := 8) rfl)) (i := 0) rfl)) ?_
                    obtain ⟨x8689, e8690, hF⟩ := letO_some hF
                    refine Mx.XL_pure rfl rfl rfl (fun w' hw' => Do_as (Do_neqs (s1 := x8677.Track) (s2 := x6587.Name) rfl rfl) (congrArg Value.bool e8690)) ?_
                    refine Mx.XL_nil fun w8691 hS => ?_
                    have H := H.sees hS
                    have H := H8675.rejoin H
                    refine (thenQ_n (hK8674 _ _ ?_))
                    refine WP_ifb (b := x8689) rfl (fun c8692 => ?_) (fun c8692 => ?_)
                    · have hF := iteB_t c8692 hF
                      have hR := Option.some.inj hF
                      subst hR
                      refine (WP_exit (thenQ_x (blockQ_eq (thenQ_n (And.intro ?_ ?_)))))
                      · repeat' (first | with_reducible exact Fr_refl | refine Fr_upd rfl ?_ | refine Fr_over rfl rfl ?_)
                      · exact ⟨v8303, Sl_nil, H.pick [0, 1, 2, 3, 4, 5, 6, 7, 8, 9] (by decide)⟩
                    · have hF := iteB_f c8692 hF
                      refine (WP_skip (thenQ_n (hK8673 _ _ ?_)))
                      refine WP_seq_k fun K8693 hK8693 => ?_
                      refine WP_region ?_
                      refine RL_do rfl rfl (fa95_1 rfl) ?_
                      refine RL_do rfl rfl (fa93_0 rfl) ?_
                      refine RL_do rfl rfl (Do_load one3 rfl (Cells.get (Blk.cells (H.item (i := 8) rfl)) (i := 1) rfl)) ?_
                      refine RL_do rfl rfl (Do_build (cs := [.int .i64 x6587.Series.Den, .slice none 0 0]) (bt93_0 _)) ?_
                      refine RL_ex rfl rfl (Lx_alloc zero93 H) ?_
                      rintro _ w8696 ⟨b8694, rfl, H⟩
                      refine RL_exU rfl (Lx_storeN (vs := [.int .i64 x6587.Series.Den, .slice none 0 0]) H 11 rfl sz93 rfl rfl rfl ⟨rfl, rfl, trivial⟩ rfl) ?_
                      rintro w8697 H
                      refine (RL_nil (thenQ_n (hK8693 _ _ ?_)))
                      obtain ⟨g8969, hF, hK8972⟩ := bindO_some hF
                      refine WP_seqS [12, 13, 79, 80, 81, 82, 83, 84, 85, 86, 87, 88, 89, 90, 91, 92, 93, 94, 95, 96, 97, 98, 99, 100, 101, 102, 103, 104, 105, 106, 107, 108, 109, 110, 111] (fun (g : Value) => []) (fun g wl => Hd O w wl S [.blk b9 [.string (bs p0.Tail), .string (bs p0.Route), .int .i64 p0.Day, .int .i64 p0.From, .int .i64 p0.To, v1] 47, .fz (.sl rTrack v1 p0.Tracks), .blk b12 [.bool p1.Tails, .int .i64 p1.Days, v3, v4, .int .i64 p1.Least] 50, .fz (.sl Rp.str v3 p1.Hide), .fz (.sl rGrain v4 p1.Grains), .blk b15 [.string (bs []), .string (bs []), .int .i64 0, .int .i64 0, .int .i64 0, .slice none 0 0] 47, .blk b19 [.string (bs g26), .string (bs p0.Route), .int .i64 x37, .int .i64 p0.From, .int .i64 p0.To, v5700] 47, .own rTrack v5700 95 g5699, .blk b6602 [.string (bs x6587.Name), .int .i64 x6587.Series.Den, v8303, .int .i64 x6587.Long] 95, .fz (.sl rSample v8303 g8302), .blk b8694 [.int .i64 x6587.Series.Den, g] 93, .own rSample g 99 g8969]) ?_ ?_
                      · skip
                        refine WP_seq_k fun K8973 hK8973 => ?_
                        refine WP_region ?_
                        refine RL_do rfl rfl (Do_assign (v := .int .i64 0) rfl) ?_
                        refine (RL_nil (thenQ_n (hK8973 _ _ ?_)))
                        refine WP_block ?_
                        have H := own_nil H rSample 99
                        unfold F_ref9_masked_L4 at hF
                        obtain ⟨B9241, n9242, eB9243, hF⟩ := loopO_some hF
                        refine WP_loopS [12, 13, 79, 80, 81, 82, 83, 84, 85, 86, 87, 88, 89, 90, 91, 92, 93, 94, 95, 96, 97, 98, 99, 100, 101, 102, 103, 104, 105, 106, 107, 108, 109, 110, 111] (fun (g : Nat × Int × (List Sample) × Value) => [(12, .int .i64 g.2.1)]) (fun g wl => Hd O w wl S [.blk b9 [.string (bs p0.Tail), .string (bs p0.Route), .int .i64 p0.Day, .int .i64 p0.From, .int .i64 p0.To, v1] 47, .fz (.sl rTrack v1 p0.Tracks), .blk b12 [.bool p1.Tails, .int .i64 p1.Days, v3, v4, .int .i64 p1.Least] 50, .fz (.sl Rp.str v3 p1.Hide), .fz (.sl rGrain v4 p1.Grains), .blk b15 [.string (bs []), .string (bs []), .int .i64 0, .int .i64 0, .int .i64 0, .slice none 0 0] 47, .blk b19 [.string (bs g26), .string (bs p0.Route), .int .i64 x37, .int .i64 p0.From, .int .i64 p0.To, v5700] 47, .own rTrack v5700 95 g5699, .blk b6602 [.string (bs x6587.Name), .int .i64 x6587.Series.Den, v8303, .int .i64 x6587.Long] 95, .fz (.sl rSample v8303 g8302), .blk b8694 [.int .i64 x6587.Series.Den, g.2.2.2] 93, .own rSample g.2.2.2 99 g.2.2.1] ∧ loopN B9241 g.1 (g.2.1, g.2.2.1) = some g8969) (fun g => g.1) (n9242, 0, [], .slice none 0 0) (Sl_cons rfl Sl_nil) ⟨H.pick [0, 1, 2, 3, 4, 5, 6, 7, 8, 9, 11, 12] (by decide), hF⟩ ?_
                        clear H hF
                        rintro ⟨n9242, g9236, g9238, v9239⟩ ρ w9245 ⟨H, hF⟩
                        obtain ⟨n9246, rfl, hF⟩ := loopN_pos hF
                        have hF := loop_body eB9243 hF
                        refine WP_seq_k fun K9256 hK9256 => ?_
                        refine WP_seq_k fun K9257 hK9257 => ?_
                        refine WP_region ?_
                        refine RL_do rfl rfl (Do_move (v := .int .i64 g9236) rfl) ?_
                        refine RL_do rfl rfl (fa95_1 rfl) ?_
                        refine RL_do rfl rfl (fa93_1 rfl) ?_
                        refine RL_do rfl rfl (Do_load one91 rfl (Cells.get (Blk.cells (H.item (i := 8) rfl)) (i := 2) rfl)) ?_
                        obtain ⟨x9258, e9259, hF⟩ := letO_some hF
                        obtain ⟨a9260, c9261, q9262⟩ := SlF.len ((H.item (i := 9) rfl))
                        refine RL_do rfl rfl (Do_as (Do_len u91 q9262) (congrArg (Value.int .i64) e9259)) ?_
                        obtain ⟨x9263, e9264, hF⟩ := letO_some hF
                        refine RL_do rfl rfl (Do_as (Do_lss (a := g9236) (b := x9258) rfl rfl) (congrArg Value.bool e9264)) ?_
                        refine (RL_nil (thenQ_n (hK9257 _ _ ?_)))
                        refine WP_ifb (b := x9263) rfl (fun c9265 => ?_) (fun c9265 => ?_)
                        · have hF := iteB_t c9265 hF
                          refine (WP_skip (thenQ_n (hK9256 _ _ ?_)))
                          refine WP_seq_k fun K9319 hK9319 => ?_
                          refine WP_block ?_
                          refine WP_seq_k fun K9320 hK9320 => ?_
                          refine WP_region ?_
                          refine RL_do rfl rfl (fa95_1 rfl) ?_
                          refine RL_do rfl rfl (fa93_1 rfl) ?_
                          refine RL_do rfl rfl (Do_load one91 rfl (Cells.get (Blk.cells (H.item (i := 8) rfl)) (i := 2) rfl)) ?_
                          refine RL_do rfl rfl (Do_move (v := .int .i64 g9236) rfl) ?_
                          obtain ⟨x9321, e9322, hF⟩ := bindO_some hF
                          obtain ⟨b9323, o9324, c9325, cs9326, q9327, h9330, h9328, h9329, h9331⟩ := rd_at (H.item (i := 9) rfl) e9322
                          obtain rfl := rSample_open h9330
                          have H := H.fz (.at b9323 (o9324 + g9236.toNat * 3) _) ⟨h9328, h9329, h9331⟩
                          refine RL_do rfl rfl (Do_idx u91 sz99 q9327 rfl (at_some e9322).1 (at_some e9322).2.1 rfl rfl) ?_
                          refine RL_do rfl rfl (Do_as (Do_loads (cs := [.int .i64 x9321.At, .int .i64 x9321.N, .int .i64 x9321.Mark]) agg99 rfl sz99 rfl (H.item (i := 12) rfl).2.2) rfl) ?_
                          refine RL_ex rfl rfl (Lx_alloc zero99 H) ?_
                          rintro _ w9335 ⟨b9333, rfl, H⟩
                          refine RL_exU rfl (Lx_storeN (vs := [.int .i64 x9321.At, .int .i64 x9321.N, .int .i64 x9321.Mark]) H 13 rfl sz99 rfl rfl rfl ⟨rfl, rfl, rfl, trivial⟩ rfl) ?_
                          rintro w9336 H
                          refine (RL_nil (thenQ_n (hK9320 _ _ ?_)))
                          obtain ⟨g9360, hF, hK9362⟩ := bindO_some hF
                          refine WP_seqS [93, 94, 95, 96, 97, 98, 99, 100, 101, 102, 103, 104, 105] (fun (g : Unit) => []) (fun g wl => Hd O w wl S [.blk b9 [.string (bs p0.Tail), .string (bs p0.Route), .int .i64 p0.Day, .int .i64 p0.From, .int .i64 p0.To, v1] 47, .fz (.sl rTrack v1 p0.Tracks), .blk b12 [.bool p1.Tails, .int .i64 p1.Days, v3, v4, .int .i64 p1.Least] 50, .fz (.sl Rp.str v3 p1.Hide), .fz (.sl rGrain v4 p1.Grains), .blk b15 [.string (bs []), .string (bs []), .int .i64 0, .int .i64 0, .int .i64 0, .slice none 0 0] 47, .blk b19 [.string (bs g26), .string (bs p0.Route), .int .i64 x37, .int .i64 p0.From, .int .i64 p0.To, v5700] 47, .own rTrack v5700 95 g5699, .blk b6602 [.string (bs x6587.Name), .int .i64 x6587.Series.Den, v8303, .int .i64 x6587.Long] 95, .fz (.sl rSample v8303 g8302), .blk b8694 [.int .i64 x6587.Series.Den, v9239] 93, .own rSample v9239 99 g9238, .blk b9333 [.int .i64 x9321.At, .int .i64 g9360, .int .i64 x9321.Mark] 99]) ?_ ?_
                          · skip
                            refine WP_seq_k fun K9363 hK9363 => ?_
                            refine WP_region ?_
                            refine RL_do rfl rfl (fa99_2 rfl) ?_
                            refine RL_do rfl rfl (Do_load one3 rfl (Cells.get (Blk.cells (H.item (i := 13) rfl)) (i := 2) rfl)) ?_
                            obtain ⟨x9364, e9365, hF⟩ := letO_some hF
                            refine RL_do rfl rfl (Do_as (Do_geq (a := x9321.Mark) (b := 2) rfl rfl) (congrArg Value.bool e9365)) ?_
                            refine (RL_nil (thenQ_n (hK9363 _ _ ?_)))
                            refine WP_ifb (b := x9364) rfl (fun c9366 => ?_) (fun c9366 => ?_)
                            · have hF := iteB_t c9366 hF
                              have H9367 := H
                              have H := H.rebase
                              have H9368 := H
                              refine WP_mix0 H [0, 1, 2, 3, 4, 5, 6, 7, 8, 9, 10] [.pure, .read, .pure, .read, .pure, .pure, .pure, .read, .fcall, .pure, .eff] mixed (by kernel_rfl) (by kernel_rfl) (by kernel_rfl) rfl ?_
                              refine Mx.XL_pure rfl rfl rfl (fun w' hw' => fa99_1 rfl) ?_
                              refine Mx.XL_read oS rfl rfl rfl (fun w' hw' => Do_load one3 rfl (Cells.get (Blk.cells ((H.sees hw').item (i := 13) rfl)) (i := 1) rfl)) ?_
                              refine Mx.XL_pure rfl rfl rfl (fun w' hw' => fa50_3 rfl) ?_
                              refine Mx.XL_read oS rfl rfl rfl (fun w' hw' => Do_load one48 rfl (Cells.get (Blk.cells ((H.sees hw').item (i := 2) rfl)) (i := 3) rfl)) ?_
                              refine Mx.XL_pure rfl rfl rfl (fun w' hw' => Do_move (v := .int .i64 g8300) rfl) ?_
                              obtain ⟨x9369, e9370, hF⟩ := bindO_some hF
                              obtain ⟨b9371, o9372, c9373, cs9374, q9375, h9378, h9376, h9377, h9379⟩ := rd_at (H.item (i := 4) rfl) e9370
                              obtain rfl := rGrain_open h9378
                              have H := H.fz (.at b9371 (o9372 + g8300.toNat * 2) _) ⟨h9376, h9377, h9379⟩
                              refine Mx.XL_pure rfl rfl rfl (fun w' hw' => Do_idx u48 sz82 q9375 rfl (at_some e9370).1 (at_some e9370).2.1 rfl rfl) ?_
                              refine Mx.XL_pure rfl rfl rfl (fun w' hw' => fa82_1 rfl) ?_
                              refine Mx.XL_read oS rfl rfl rfl (fun w' hw' => Do_load one3 rfl (Cells.get ((H.sees hw').item (i := 14) rfl).2.2 (i := 1) rfl)) ?_
                              have H9381 := H
                              obtain ⟨x9382, e9383, hF⟩ := bindO_some hF
                              refine Mx.XL_fcall oS rfl rfl rfl (v := .int .i64 x9382) (fun w' hw' => DoC_func en74 rfl) (fun w' hw' => call_read (F_ref9_floor_w x9321.N x9369.N _ e9383 _ _ _ (Hd.fresh0 w'))) ?_
                              have H := H9381
                              refine Mx.XL_pure rfl rfl rfl (fun w' hw' => fa99_1 rfl) ?_
                              refine Mx.XL_exU oS rfl rfl (fun w' hw' => Lx_store1 (H.sees hw') 13 rfl sz3 rfl (v := .int .i64 x9382) rfl rfl rfl) ?_
                              rintro w' w9384 hw' H
                              refine ⟨H.only, ?_⟩
                              refine Mx.XL_nil fun w9385 hS => ?_
                              have H := H.sees hS
                              have H := H9367.rejoin H
                              have hR := Option.some.inj hF
                              subst hR
                              refine (thenQ_n (And.intro ?_ ?_))
                              · repeat' (first | with_reducible exact Fr_refl | refine Fr_upd rfl ?_ | refine Fr_over rfl rfl ?_)
                              · exact ⟨(), Sl_nil, H.pick [0, 1, 2, 3, 4, 5, 6, 7, 8, 9, 10, 11, 13] (by decide)⟩
                            · have hF := iteB_f c9366 hF
                              have hR := Option.some.inj hF
                              subst hR
                              refine (WP_skip (thenQ_n (And.intro ?_ ?_)))
                              · repeat' (first | with_reducible exact Fr_refl | refine Fr_upd rfl ?_ | refine Fr_over rfl rfl ?_)
                              · exact ⟨(), Sl_nil, H.pick [0, 1, 2, 3, 4, 5, 6, 7, 8, 9, 10, 11, 13] (by decide)⟩
                          · rintro _ ρ w9361 H
                            have hF := hK9362
                            refine WP_region ?_
                            refine RL_do rfl rfl (fa93_1 rfl) ?_
                            refine RL_do rfl rfl (Do_load one91 rfl (Cells.get (Blk.cells (H.item (i := 10) rfl)) (i := 1) rfl)) ?_
                            refine RL_do rfl rfl (Do_as (Do_loads (cs := [.int .i64 x9321.At, .int .i64 g9360, .int .i64 x9321.Mark]) agg99 rfl sz99 rfl (Blk.cells (H.item (i := 12) rfl))) rfl) ?_
                            obtain ⟨x9386, e9387, hF⟩ := letO_some hF
                            subst e9387
                            refine RL_ex rfl rfl (Lx_bs (r := rSample) (xl := [Sample.mk x9321.At g9360 x9321.Mark]) (cs := [.int .i64 x9321.At, .int .i64 g9360, .int .i64 x9321.Mark]) u91 el99 (by decide) (by decide) rfl (fillB_parts (vs := [.agg [.int .i64 x9321.At, .int .i64 g9360, .int .i64 x9321.Mark].toArray]) (by decide) rfl rfl ⟨rfl, trivial⟩ rfl) H ⟨[.int .i64 x9321.At, .int .i64 g9360, .int .i64 x9321.Mark], [], rfl, (rSample_mk (x := Sample.mk x9321.At g9360 x9321.Mark)), rfl⟩) ?_
                            rintro v9389 w9390 H
                            obtain ⟨x9391, e9392, hF⟩ := bindO_some hF
                            refine RL_ex rfl rfl (Lx_app H (i := 11) rfl u91 el99 rfl rfl (Sr.of_own (H.item (i := 13) rfl)) e9392) ?_
                            rintro v9393 w9394 H
                            refine RL_do rfl rfl (fa93_1 rfl) ?_
                            refine RL_exU rfl (Lx_store1 H 10 rfl sz91 rfl (v := v9393) rfl (own_one (H.item (i := 11) rfl)) rfl) ?_
                            rintro w9395 H
                            refine (RL_nil (blockQ_n (thenQ_n (hK9319 _ _ ?_))))
                            refine WP_region ?_
                            refine RL_do rfl rfl (Do_move (v := .int .i64 g9236) rfl) ?_
                            obtain ⟨x9396, e9397, hF⟩ := letO_some hF
                            refine RL_do rfl rfl (Do_add (a := g9236) (b := 1) rfl rfl e9397) ?_
                            refine RL_do rfl rfl (Do_assign (v := .int .i64 x9396) rfl) ?_
                            refine (RL_nil (thenQ_n (And.intro ?_ ?_)))
                            · repeat' (first | with_reducible exact Fr_refl | refine Fr_upd rfl ?_ | refine Fr_over rfl rfl ?_)
                            · exact ⟨(n9246, x9396, x9391, v9393), (Sl_cons rfl Sl_nil), ⟨H.pick [0, 1, 2, 3, 4, 5, 6, 7, 8, 9, 10, 11] (by decide), hF⟩, Nat.lt_succ_self _⟩
                        · have hF := iteB_f c9265 hF
                          have hR := Option.some.inj hF
                          subst hR
                          refine (WP_exit (thenQ_x (thenQ_x (blockQ_eq (thenQ_n (And.intro ?_ ?_))))))
                          · repeat' (first | with_reducible exact Fr_refl | refine Fr_upd rfl ?_ | refine Fr_over rfl rfl ?_)
                          · exact ⟨v9239, Sl_nil, H.pick [0, 1, 2, 3, 4, 5, 6, 7, 8, 9, 10, 11] (by decide)⟩
                      · rintro v8970 ρ w8971 H
                        have hF := hK8972
                        refine WP_region ?_
                        refine RL_do rfl rfl (Do_as (Do_loads (cs := [.int .i64 x6587.Series.Den, v8970]) agg93 rfl sz93 rfl (Blk.cells (H.item (i := 10) rfl))) rfl) ?_
                        refine RL_do rfl rfl (fa95_1 rfl) ?_
                        refine RL_exU rfl (Lx_storeN (vs := [.int .i64 x6587.Series.Den, v8970]) H 8 rfl sz93 rfl rfl rfl ⟨rfl, (own_one (H.item (i := 11) rfl)), trivial⟩ rfl) ?_
                        rintro w9398 H
                        have H := H.freeze (i := 11) rfl
                        have hR := Option.some.inj hF
                        subst hR
                        refine (RL_nil (blockQ_n (thenQ_n (And.intro ?_ ?_))))
                        · repeat' (first | with_reducible exact Fr_refl | refine Fr_upd rfl ?_ | refine Fr_over rfl rfl ?_)
                        · exact ⟨v8970, Sl_nil, H.pick [0, 1, 2, 3, 4, 5, 6, 7, 8, 11] (by decide)⟩
                  · rintro v8651 ρ w8652 H
                    have hF := hK8653
                    refine WP_region ?_
                    refine RL_do rfl rfl (Do_move (v := .int .i64 g8300) rfl) ?_
                    obtain ⟨x9399, e9400, hF⟩ := letO_some hF
                    refine RL_do rfl rfl (Do_add (a := g8300) (b := 1) rfl rfl e9400) ?_
                    refine RL_do rfl rfl (Do_assign (v := .int .i64 x9399) rfl) ?_
                    refine (RL_nil (thenQ_n (And.intro ?_ ?_)))
                    · repeat' (first | with_reducible exact Fr_refl | refine Fr_upd rfl ?_ | refine Fr_over rfl rfl ?_)
                    · exact ⟨(n8309, x9399, g8650, v8651), (Sl_cons rfl Sl_nil), ⟨H.pick [0, 1, 2, 3, 4, 5, 6, 7, 8, 9] (by decide), hF⟩, Nat.lt_succ_self _⟩
                · have hF := iteB_f c8328 hF
                  have hR := Option.some.inj hF
                  subst hR
                  refine (WP_exit (thenQ_x (thenQ_x (blockQ_eq (thenQ_n (And.intro ?_ ?_))))))
                  · repeat' (first | with_reducible exact Fr_refl | refine Fr_upd rfl ?_ | refine Fr_over rfl rfl ?_)
                  · exact ⟨v8303, Sl_nil, H.pick [0, 1, 2, 3, 4, 5, 6, 7, 8, 9] (by decide)⟩
              · rintro v7600 ρ w7601 H
                have hF := hK7602
                refine WP_region ?_
                refine RL_do rfl rfl (fa47_5 rfl) ?_
                refine RL_do rfl rfl (Do_load one45 rfl (Cells.get (Blk.cells (H.item (i := 6) rfl)) (i := 5) rfl)) ?_
                refine RL_do rfl rfl (Do_as (Do_loads (cs := [.string (bs x6587.Name), .int .i64 x6587.Series.Den, v7600, .int .i64 x6587.Long]) agg95 rfl sz95 rfl (Blk.cells (H.item (i := 8) rfl))) rfl) ?_
                obtain ⟨x9401, e9402, hF⟩ := letO_some hF
                subst e9402
                refine RL_ex rfl rfl (Lx_bs (r := rTrack) (xl := [Track.mk x6587.Name (Series.mk x6587.Series.Den g7599) x6587.Long]) (cs := [.string (bs x6587.Name), .int .i64 x6587.Series.Den, v7600, .int .i64 x6587.Long]) u45 el95 (by decide) (by decide) rfl (fillB_parts (vs := [.agg [.string (bs x6587.Name), .int .i64 x6587.Series.Den, v7600, .int .i64 x6587.Long].toArray]) (by decide) rfl rfl ⟨rfl, trivial⟩ rfl) H ⟨[.string (bs x6587.Name), .int .i64 x6587.Series.Den, v7600, .int .i64 x6587.Long], [], rfl, (rTrack_mk (x := Track.mk x6587.Name (Series.mk x6587.Series.Den g7599) x6587.Long) (H.item (i := 9) rfl)), rfl⟩) ?_
                rintro v9404 w9405 H
                obtain ⟨x9406, e9407, hF⟩ := bindO_some hF
                refine RL_ex rfl rfl (Lx_app H (i := 7) rfl u45 el95 rfl rfl (Sr.of_own (H.item (i := 10) rfl)) e9407) ?_
                rintro v9408 w9409 H
                refine RL_do rfl rfl (fa47_5 rfl) ?_
                refine RL_exU rfl (Lx_store1 H 6 rfl sz45 rfl (v := v9408) rfl (own_one (H.item (i := 7) rfl)) rfl) ?_
                rintro w9410 H
                have hR := Option.some.inj hF
                subst hR
                refine (RL_nil (blockQ_n (thenQ_n (And.intro ?_ ?_))))
                · repeat' (first | with_reducible exact Fr_refl | refine Fr_upd rfl ?_ | refine Fr_over rfl rfl ?_)
                · exact ⟨v9408, Sl_nil, H.pick [0, 1, 2, 3, 4, 5, 6, 7] (by decide)⟩
        · rintro v6583 ρ w6584 H
          have hF := hK6585
          refine WP_region ?_
          refine RL_do rfl rfl (Do_move (v := .int .i64 g5697) rfl) ?_
          obtain ⟨x9411, e9412, hF⟩ := letO_some hF
          refine RL_do rfl rfl (Do_add (a := g5697) (b := 1) rfl rfl e9412) ?_
          refine RL_do rfl rfl (Do_assign (v := .int .i64 x9411) rfl) ?_
          refine (RL_nil (thenQ_n (And.intro ?_ ?_)))
          · repeat' (first | with_reducible exact Fr_refl | refine Fr_upd rfl ?_ | refine Fr_over rfl rfl ?_)
          · exact ⟨(n5707, x9411, g6582, v6583), (Sl_cons rfl Sl_nil), ⟨H.pick [0, 1, 2, 3, 4, 5, 6, 7] (by decide), hF⟩, Nat.lt_succ_self _⟩
      · have hF := iteB_f c5726 hF
        have hR := Option.some.inj hF
        subst hR
        refine (WP_exit (thenQ_x (thenQ_x (blockQ_eq (thenQ_n (And.intro ?_ ?_))))))
        · repeat' (first | with_reducible exact Fr_refl | refine Fr_upd rfl ?_ | refine Fr_over rfl rfl ?_)
        · exact ⟨v5700, Sl_nil, H.pick [5, 6, 7] (by decide)⟩
    · rintro v2873 ρ w2874 H
      have hF := hK2875
      refine WP_seq_k fun K9413 hK9413 => ?_
      refine WP_region ?_
      refine RL_do rfl rfl (Do_as (Do_loads (cs := [.string (bs g26), .string (bs p0.Route), .int .i64 x37, .int .i64 p0.From, .int .i64 p0.To, v2873]) agg47 rfl sz47 rfl (Blk.cells (H.item (i := 1) rfl))) rfl) ?_
      refine RL_exU rfl (Lx_storeN (vs := [.string (bs g26), .string (bs p0.Route), .int .i64 x37, .int .i64 p0.From, .int .i64 p0.To, v2873]) H 0 rfl sz47 rfl rfl rfl ⟨rfl, rfl, rfl, rfl, rfl, (own_one (H.item (i := 2) rfl)), trivial⟩ rfl) ?_
      rintro w9414 H
      refine (RL_nil (thenQ_n (hK9413 _ _ ?_)))
      have H := H.freeze (i := 2) rfl
      have hR := Option.some.inj hF
      subst hR
      refine (WP_ret (postc  rfl rfl (run_loadVar_agg agg47 sz47 rfl (Blk.cells (H.item (i := 0) rfl))) ?_))
      exact ⟨v2873, rfl, H.pick [2] (by decide)⟩
end Go.Proofs.YtbjhondbheijiaaDoor.L
namespace Go.Proofs.YtbjhondbheijiaaDoor.L
open Go.RowKit Go.OB Go.Lf
/- orangebox/orangeboxref9.Masked -/
set_option maxHeartbeats 4000000 in
theorem F_ref9_Masked_w (p0 : Flight) (p1 : Mask) (v1 : Value) (v3 : Value) (v4 : Value) (r : Flight × Int) (hF : F_ref9_Masked p0 p1 = some r) (O S : List Nat) (w : World) (H : Hd O w w S [.fz (.sl rTrack v1 p0.Tracks), .fz (.sl Rp.str v3 p1.Hide), .fz (.sl rGrain v4 p1.Grains)]) :
    Calls Tryd.prog 24 ([.agg [.string (bs p0.Tail), .string (bs p0.Route), .int .i64 p0.Day, .int .i64 p0.From, .int .i64 p0.To, v1].toArray, .agg [.bool p1.Tails, .int .i64 p1.Days, v3, v4, .int .i64 p1.Least].toArray] : List Value).toArray w fun e w' => ∃ u7, e = .returned (.tuple #[.agg [.string (bs r.1.Tail), .string (bs r.1.Route), .int .i64 r.1.Day, .int .i64 r.1.From, .int .i64 r.1.To, u7].toArray, .int .i64 r.2]) ∧ Hd O w w' S [.fz (.sl rTrack u7 r.1.Tracks)] := by
  unfold F_ref9_Masked at hF
  refine calls_of_WP 23 Tryd.func24 rfl rfl rfl ?_
  refine WP_seq_k fun K8 hK8 => ?_
  refine WP_region ?_
  refine RL_ex rfl rfl (Lx_box (cs := [.string (bs p0.Tail), .string (bs p0.Route), .int .i64 p0.Day, .int .i64 p0.From, .int .i64 p0.To, v1]) rfl H) ?_
  rintro _ w11 ⟨b9, rfl, H⟩
  refine RL_ex rfl rfl (Lx_box (cs := [.bool p1.Tails, .int .i64 p1.Days, v3, v4, .int .i64 p1.Least]) rfl H) ?_
  rintro _ w14 ⟨b12, rfl, H⟩
  refine RL_ex rfl rfl (Lx_alloc zero47 H) ?_
  rintro _ w17 ⟨b15, rfl, H⟩
  refine RL_do rfl rfl (Do_assign (v := .int .i64 0) rfl) ?_
  refine (RL_nil (thenQ_n (hK8 _ _ ?_)))
  refine WP_seq_k fun K30 hK30 => ?_
  refine WP_seq_k fun K31 hK31 => ?_
  refine WP_region ?_
  refine RL_do rfl rfl (Do_as (Do_loads (cs := [.string (bs p0.Tail), .string (bs p0.Route), .int .i64 p0.Day, .int .i64 p0.From, .int .i64 p0.To, v1]) agg47 rfl sz47 rfl (Blk.cells (H.item (i := 3) rfl))) rfl) ?_
  have H32 := H
  obtain ⟨x33, e34, hF⟩ := bindO_some hF
  refine RL_call rfl rfl (DoC_func en20 rfl) (F_ref9_CheckFlight_w p0 v1 _ e34 _ _ _ (H.enter [] [0] (by decide) rfl)) ?_
  rintro _ w35 ⟨rfl, G36⟩
  have H := H32.step (G36.only : Only [] _ _)
  refine ⟨_, rfl, ?_⟩
  refine RL_do rfl rfl (Do_assign (v := .int .i64 x33) rfl) ?_
  refine (RL_nil (thenQ_n (hK31 _ _ ?_)))
  refine WP_seq_k fun K37 hK37 => ?_
  refine WP_region ?_
  refine RL_do rfl rfl (Do_move (v := .int .i64 x33) rfl) ?_
  obtain ⟨x38, e39, hF⟩ := letO_some hF
  refine RL_do rfl rfl (Do_as (Do_neq (a := x33) (b := 0) rfl rfl) (congrArg Value.bool e39)) ?_
  refine (RL_nil (thenQ_n (hK37 _ _ ?_)))
  refine WP_ifb (b := x38) rfl (fun c40 => ?_) (fun c40 => ?_)
  · have hF := iteB_t c40 hF
    refine WP_seq_k fun K41 hK41 => ?_
    refine WP_region ?_
    refine RL_do rfl rfl (Do_build (cs := [.string (bs []), .string (bs []), .int .i64 0, .int .i64 0, .int .i64 0, .slice none 0 0]) bz47) ?_
    refine RL_do rfl rfl (Do_move (v := .int .i64 x33) rfl) ?_
    refine RL_exU rfl (Lx_storeN (vs := [.string (bs []), .string (bs []), .int .i64 0, .int .i64 0, .int .i64 0, .slice none 0 0]) H 5 rfl sz47 rfl rfl rfl ⟨rfl, rfl, rfl, rfl, rfl, rfl, trivial⟩ rfl) ?_
    rintro w42 H
    refine RL_do rfl rfl (Do_assign (v := .int .i64 x33) rfl) ?_
    refine (RL_nil (thenQ_n (hK41 _ _ ?_)))
    have H := H.fz (.sl rTrack (.slice none 0 0) []) SlF.nil
    have hR := Option.some.inj hF
    subst hR
    refine (WP_ret (thenQ_r (postc1 (v1 := .int .i64 x33) rfl rfl (run_loadVar_agg agg47 sz47 rfl (Blk.cells (H.item (i := 5) rfl))) rfl ?_)))
    exact ⟨.slice none 0 0, rfl, H.pick [6] (by decide)⟩
  · have hF := iteB_f c40 hF
    refine (WP_skip (thenQ_n (hK30 _ _ ?_)))
    refine WP_seq_k fun K56 hK56 => ?_
    refine WP_seq_k fun K57 hK57 => ?_
    refine WP_region ?_
    refine RL_do rfl rfl (Do_as (Do_loads (cs := [.bool p1.Tails, .int .i64 p1.Days, v3, v4, .int .i64 p1.Least]) agg50 rfl sz50 rfl (Blk.cells (H.item (i := 4) rfl))) rfl) ?_
    have H58 := H
    obtain ⟨x59, e60, hF⟩ := bindO_some hF
    refine RL_call rfl rfl (DoC_func en22 rfl) (F_ref9_CheckMask_w p1 v3 v4 _ e60 _ _ _ (H.enter [] [1, 2] (by decide) rfl)) ?_
    rintro _ w61 ⟨rfl, G62⟩
    have H := H58.step (G62.only : Only [] _ _)
    refine ⟨_, rfl, ?_⟩
    refine RL_do rfl rfl (Do_assign (v := .int .i64 x59) rfl) ?_
    refine (RL_nil (thenQ_n (hK57 _ _ ?_)))
    refine WP_seq_k fun K63 hK63 => ?_
    refine WP_region ?_
    refine RL_do rfl rfl (Do_move (v := .int .i64 x59) rfl) ?_
    obtain ⟨x64, e65, hF⟩ := letO_some hF
    refine RL_do rfl rfl (Do_as (Do_neq (a := x59) (b := 0) rfl rfl) (congrArg Value.bool e65)) ?_
    refine (RL_nil (thenQ_n (hK63 _ _ ?_)))
    refine WP_ifb (b := x64) rfl (fun c66 => ?_) (fun c66 => ?_)
    · have hF := iteB_t c66 hF
      refine WP_seq_k fun K67 hK67 => ?_
      refine WP_region ?_
      refine RL_do rfl rfl (Do_build (cs := [.string (bs []), .string (bs []), .int .i64 0, .int .i64 0, .int .i64 0, .slice none 0 0]) bz47) ?_
      refine RL_do rfl rfl (Do_move (v := .int .i64 x59) rfl) ?_
      refine RL_exU rfl (Lx_storeN (vs := [.string (bs []), .string (bs []), .int .i64 0, .int .i64 0, .int .i64 0, .slice none 0 0]) H 5 rfl sz47 rfl rfl rfl ⟨rfl, rfl, rfl, rfl, rfl, rfl, trivial⟩ rfl) ?_
      rintro w68 H
      refine RL_do rfl rfl (Do_assign (v := .int .i64 x59) rfl) ?_
      refine (RL_nil (thenQ_n (hK67 _ _ ?_)))
      have H := H.fz (.sl rTrack (.slice none 0 0) []) SlF.nil
      have hR := Option.some.inj hF
      subst hR
      refine (WP_ret (thenQ_r (postc1 (v1 := .int .i64 x59) rfl rfl (run_loadVar_agg agg47 sz47 rfl (Blk.cells (H.item (i := 5) rfl))) rfl ?_)))
      exact ⟨.slice none 0 0, rfl, H.pick [6] (by decide)⟩
    · have hF := iteB_f c66 hF
      refine (WP_skip (thenQ_n (hK56 _ _ ?_)))
      refine WP_seq_k fun K70 hK70 => ?_
      refine WP_region ?_
      refine RL_do rfl rfl (Do_as (Do_loads (cs := [.string (bs p0.Tail), .string (bs p0.Route), .int .i64 p0.Day, .int .i64 p0.From, .int .i64 p0.To, v1]) agg47 rfl sz47 rfl (Blk.cells (H.item (i := 3) rfl))) rfl) ?_
      refine RL_do rfl rfl (Do_as (Do_loads (cs := [.bool p1.Tails, .int .i64 p1.Days, v3, v4, .int .i64 p1.Least]) agg50 rfl sz50 rfl (Blk.cells (H.item (i := 4) rfl))) rfl) ?_
      obtain ⟨x71, e72, hF⟩ := bindO_some hF
      refine RL_call rfl rfl (DoC_func en53 rfl) (F_ref9_masked_w p0 p1 v1 v3 v4 _ e72 _ _ _ (H.enter [] [0, 1, 2] (by decide) rfl)) ?_
      rintro _ w75 ⟨v73, rfl, G76⟩
      have H := H.back1 [0, 1, 2] rfl G76
      refine ⟨_, rfl, ?_⟩
      refine RL_exU rfl (Lx_storeN (vs := [.string (bs x71.Tail), .string (bs x71.Route), .int .i64 x71.Day, .int .i64 x71.From, .int .i64 x71.To, v73]) H 5 rfl sz47 rfl rfl rfl ⟨rfl, rfl, rfl, rfl, rfl, (slf_one (H.item (i := 6) rfl)), trivial⟩ rfl) ?_
      rintro w77 H
      refine RL_do rfl rfl (Do_assign (v := .int .i64 0) rfl) ?_
      refine (RL_nil (thenQ_n (hK70 _ _ ?_)))
      have hR := Option.some.inj hF
      subst hR
      refine (WP_ret (postc1 (v1 := .int .i64 0) rfl rfl (run_loadVar_agg agg47 sz47 rfl (Blk.cells (H.item (i := 5) rfl))) rfl ?_))
      exact ⟨v73, rfl, H.pick [6] (by decide)⟩
end Go.Proofs.YtbjhondbheijiaaDoor.L
namespace Go.Proofs.YtbjhondbheijiaaDoor.L
open Go.RowKit Go.OB Go.Lf
/- orangebox/fleet.CheckTable$1 -/
set_option maxHeartbeats 4000000 in
theorem F_fleet_CheckTable_1_w (p0 : FleetRow) (v1 : Value) (r : Bool) (hF : F_fleet_CheckTable_1 p0 = some r) (O S : List Nat) (w : World) (H : Hd O w w S [.fz (.sl (Rp.int .i64) v1 p0.Events)]) :
    Calls Tryd.prog 26 ([.agg [.string (bs p0.Key), .bool p0.Hidden, .int .i64 p0.Flights, v1].toArray] : List Value).toArray w fun e w' => e = .returned (.bool r) ∧ Hd O w w' S [] := by
  unfold F_fleet_CheckTable_1 at hF
  refine calls_of_WP 6 Tryd.func26 rfl rfl rfl ?_
  refine WP_seq_k fun K3 hK3 => ?_
  refine WP_region ?_
  refine RL_ex rfl rfl (Lx_box (cs := [.string (bs p0.Key), .bool p0.Hidden, .int .i64 p0.Flights, v1]) rfl H) ?_
  rintro _ w6 ⟨b4, rfl, H⟩
  refine RL_do rfl rfl (Do_assign (v := .bool false) rfl) ?_
  refine (RL_nil (thenQ_n (hK3 _ _ ?_)))
  refine WP_seq_k fun K7 hK7 => ?_
  refine WP_region ?_
  refine RL_do rfl rfl (fa25_1 rfl) ?_
  refine RL_do rfl rfl (Do_load one4 rfl (Cells.get (Blk.cells (H.item (i := 1) rfl)) (i := 1) rfl)) ?_
  obtain ⟨x8, e9, hF⟩ := letO_some hF
  refine RL_do rfl rfl (Do_as (Do_not (p := p0.Hidden) rfl) (congrArg Value.bool e9)) ?_
  refine RL_do rfl rfl (Do_assign (v := .bool x8) rfl) ?_
  refine (RL_nil (thenQ_n (hK7 _ _ ?_)))
  have hR := Option.some.inj hF
  subst hR
  refine (WP_ret (post1 (v1 := .bool x8) rfl rfl ?_))
  exact ⟨rfl, H.pick [] (by decide)⟩
end Go.Proofs.YtbjhondbheijiaaDoor.L
namespace Go.Proofs.YtbjhondbheijiaaDoor.L
open Go.RowKit Go.OB Go.Lf
/- slices.IndexFunc[[]orangebox/api.FleetRow,orangebox/api.FleetRow]@orangebox/fleet.CheckTable$1 -/
set_option maxHeartbeats 4000000 in
theorem F_slices_IndexFunc___api_FleetRow_api_FleetRow__fleet_CheckTable_1_w (p0 : List FleetRow) (v1 : Value) (r : Int) (hF : F_slices_IndexFunc___api_FleetRow_api_FleetRow__fleet_CheckTable_1 p0 = some r) (O S : List Nat) (w : World) (H : Hd O w w S [.fz (.sl rFleetRow v1 p0)]) :
    Calls Tryd.prog 25 ([v1, .func (.func 26) #[] #[]] : List Value).toArray w fun e w' => e = .returned (.int .i64 r) ∧ Hd O w w' S [] := by
  unfold F_slices_IndexFunc___api_FleetRow_api_FleetRow__fleet_CheckTable_1 at hF
  refine calls_of_WP 19 Tryd.func25 rfl rfl rfl ?_
  refine WP_seq_k fun K3 hK3 => ?_
  refine WP_region ?_
  refine RL_do rfl rfl (Do_assign (v := .int .i64 0) rfl) ?_
  refine (RL_nil (thenQ_n (hK3 _ _ ?_)))
  obtain ⟨k132, ek133, hF⟩ := joinO_some hF
  refine WP_seqS [4, 5, 6, 7, 8, 9, 10, 11, 12, 13, 14, 15, 16, 17, 18] (fun (g : Unit) => []) (fun g wl => Hd O w wl S [] ∧ k132 () = some r) ?_ ?_
  · skip
    refine WP_seq_k fun K134 hK134 => ?_
    refine WP_region ?_
    refine RL_do rfl rfl (Do_move (v := v1) rfl) ?_
    obtain ⟨x135, e136, hF⟩ := letO_some hF
    obtain ⟨a137, c138, q139⟩ := SlF.len ((H.item (i := 0) rfl))
    refine RL_do rfl rfl (Do_as (Do_len u22 q139) (congrArg (Value.int .i64) e136)) ?_
    refine RL_do rfl rfl (Do_move (v := .int .i64 0) rfl) ?_
    refine (RL_nil (thenQ_n (hK134 _ _ ?_)))
    refine WP_block ?_
    unfold F_slices_IndexFunc___api_FleetRow_api_FleetRow__fleet_CheckTable_1_L1 at hF
    obtain ⟨B256, n257, eB258, hF⟩ := loopO_some hF
    refine WP_loopS [4, 5, 8, 9, 10, 11, 12, 13, 14, 15, 16, 17, 18] (fun (g : Nat × Int) => [(8, .int .i64 g.2)]) (fun g wl => Hd O w wl S [.fz (.sl rFleetRow v1 p0)] ∧ loopN B256 g.1 g.2 = some r) (fun g => g.1) (n257, 0) (Sl_cons rfl Sl_nil) ⟨H.pick [0] (by decide), hF⟩ ?_
    clear H hF
    rintro ⟨n257, g255⟩ ρ w260 ⟨H, hF⟩
    obtain ⟨n261, rfl, hF⟩ := loopN_pos hF
    have hF := loop_body eB258 hF
    refine WP_seq_k fun K262 hK262 => ?_
    refine WP_region ?_
    obtain ⟨x263, e264, hF⟩ := letO_some hF
    refine RL_do rfl rfl (Do_as (Do_lss (a := g255) (b := x135) rfl rfl) (congrArg Value.bool e264)) ?_
    refine (RL_nil (thenQ_n (hK262 _ _ ?_)))
    refine WP_seq_k fun K266 hK266 => ?_
    refine WP_ifb (b := x263) rfl (fun c267 => ?_) (fun c267 => ?_)
    · have hF := iteB_t c267 hF
      refine (WP_skip (thenQ_n (hK266 _ _ ?_)))
      refine WP_seq_k fun K292 hK292 => ?_
      refine WP_block ?_
      refine WP_seq_k fun K293 hK293 => ?_
      refine WP_region ?_
      refine RL_do rfl rfl (Do_move (v := .int .i64 g255) rfl) ?_
      refine RL_do rfl rfl (Do_assign (v := .int .i64 g255) rfl) ?_
      refine (RL_nil (thenQ_n (hK293 _ _ ?_)))
      refine WP_seq_k fun K294 hK294 => ?_
      refine WP_region ?_
      refine RL_do rfl rfl (Do_move (v := .func (.func 26) #[] #[]) rfl) ?_
      refine RL_do rfl rfl (Do_move (v := v1) rfl) ?_
      refine RL_do rfl rfl (Do_move (v := .int .i64 g255) rfl) ?_
      obtain ⟨x295, e296, hF⟩ := bindO_some hF
      obtain ⟨b297, o298, c299, cs300, q301, h304, h302, h303, h305⟩ := rd_at (H.item (i := 0) rfl) e296
      obtain ⟨v306, rfl, h307⟩ := rFleetRow_open h304
      have H := H.fzs [.at b297 (o298 + g255.toNat * 4) _, .sl (Rp.int .i64) v306 x295.Events] ⟨⟨h302, h303, h305⟩, h307, trivial⟩
      refine RL_do rfl rfl (Do_idx u22 sz25 q301 rfl (at_some e296).1 (at_some e296).2.1 rfl rfl) ?_
      refine RL_do rfl rfl (Do_as (Do_loads (cs := [.string (bs x295.Key), .bool x295.Hidden, .int .i64 x295.Flights, v306]) agg25 rfl sz25 rfl (H.item (i := 1) rfl).2.2) rfl) ?_
      have H310 := H
      obtain ⟨x311, e312, hF⟩ := bindO_some hF
      refine RL_call rfl rfl (DoC_clo en26 rfl rfl) (F_fleet_CheckTable_1_w x295 v306 _ e312 _ _ _ (H.enter [] [2] (by decide) rfl)) ?_
      rintro _ w313 ⟨rfl, G314⟩
      have H := H310.step (G314.only : Only [] _ _)
      refine ⟨_, rfl, ?_⟩
      refine (RL_nil (thenQ_n (hK294 _ _ ?_)))
      refine WP_ifb (b := x311) rfl (fun c315 => ?_) (fun c315 => ?_)
      · have hF := iteB_t c315 hF
        refine WP_seq_k fun K316 hK316 => ?_
        refine WP_region ?_
        refine RL_do rfl rfl (Do_move (v := .int .i64 g255) rfl) ?_
        refine RL_do rfl rfl (Do_assign (v := .int .i64 g255) rfl) ?_
        refine (RL_nil (thenQ_n (hK316 _ _ ?_)))
        have hR := Option.some.inj hF
        subst hR
        refine (WP_ret (blockQ_r (thenQ_r (thenQ_r (blockQ_r (thenQ_r (post1 (v1 := .int .i64 g255) rfl rfl ?_)))))))
        exact ⟨rfl, H.pick [] (by decide)⟩
      · have hF := iteB_f c315 hF
        refine (WP_skip (blockQ_n (thenQ_n (hK292 _ _ ?_))))
        refine WP_region ?_
        obtain ⟨x317, e318, hF⟩ := letO_some hF
        refine RL_do rfl rfl (Do_add (a := g255) (b := 1) rfl rfl e318) ?_
        refine RL_do rfl rfl (Do_move (v := .int .i64 x317) rfl) ?_
        refine (RL_nil (thenQ_n (And.intro ?_ ?_)))
        · repeat' (first | with_reducible exact Fr_refl | refine Fr_upd rfl ?_ | refine Fr_over rfl rfl ?_)
        · exact ⟨(n261, x317), (Sl_cons rfl Sl_nil), ⟨H.pick [0] (by decide), hF⟩, Nat.lt_succ_self _⟩
    · have hF := iteB_f c267 hF
      refine (WP_exit (thenQ_x (thenQ_x (blockQ_eq (thenQ_n (And.intro ?_ ?_))))))
      · repeat' (first | with_reducible exact Fr_refl | refine Fr_upd rfl ?_ | refine Fr_over rfl rfl ?_)
      · exact ⟨(), Sl_nil, ⟨H.pick [] (by decide), hF⟩⟩
  · rintro _ ρ w131 ⟨H, hF⟩
    have hF := join_body ek133 hF
    refine WP_seq_k fun K319 hK319 => ?_
    refine WP_region ?_
    refine RL_do rfl rfl (Do_assign (v := .int .i64 (-1)) rfl) ?_
    refine (RL_nil (thenQ_n (hK319 _ _ ?_)))
    have hR := Option.some.inj hF
    subst hR
    refine (WP_ret (post1 (v1 := .int .i64 (-1)) rfl rfl ?_))
    exact ⟨rfl, H.pick [] (by decide)⟩
end Go.Proofs.YtbjhondbheijiaaDoor.L
namespace Go.Proofs.YtbjhondbheijiaaDoor.L
open Go.RowKit Go.OB Go.Lf
/- orangebox/fleet.CheckTable$3 -/
set_option maxHeartbeats 4000000 in
theorem F_fleet_CheckTable_3_w (p0 : FleetRow) (c0 : FleetRow) (v1 : Value) (b3 : Nat) (v4 : Value) (r : Bool) (hF : F_fleet_CheckTable_3 p0 c0 = some r) (O S : List Nat) (w : World) (H : Hd O w w S [.blk b3 [.string (bs c0.Key), .bool c0.Hidden, .int .i64 c0.Flights, v4] 25, .fz (.sl (Rp.int .i64) v1 p0.Events), .fz (.sl (Rp.int .i64) v4 c0.Events)]) :
    Calls Tryd.prog 30 ([.agg [.string (bs p0.Key), .bool p0.Hidden, .int .i64 p0.Flights, v1].toArray, .pointer (some ⟨b3, 0, none⟩)] : List Value).toArray w fun e w' => e = .returned (.bool r) ∧ Hd O w w' S [.blk b3 [.string (bs c0.Key), .bool c0.Hidden, .int .i64 c0.Flights, v4] 25] := by
  unfold F_fleet_CheckTable_3 at hF
  refine calls_of_WP 9 Tryd.func30 rfl rfl rfl ?_
  refine WP_seq_k fun K7 hK7 => ?_
  refine WP_region ?_
  refine RL_ex rfl rfl (Lx_box (cs := [.string (bs p0.Key), .bool p0.Hidden, .int .i64 p0.Flights, v1]) rfl H) ?_
  rintro _ w10 ⟨b8, rfl, H⟩
  refine RL_do rfl rfl (Do_assign (v := .bool false) rfl) ?_
  refine (RL_nil (thenQ_n (hK7 _ _ ?_)))
  refine WP_seq_k fun K11 hK11 => ?_
  refine WP_region ?_
  refine RL_do rfl rfl (fa25_0 rfl) ?_
  refine RL_do rfl rfl (Do_load one9 rfl (Cells.get (Blk.cells (H.item (i := 3) rfl)) (i := 0) rfl)) ?_
  refine RL_do rfl rfl (fa25_0 rfl) ?_
  refine RL_do rfl rfl (Do_load one9 rfl (Cells.get (Blk.cells (H.item (i := 0) rfl)) (i := 0) rfl)) ?_
  obtain ⟨x12, e13, hF⟩ := letO_some hF
  refine RL_do rfl rfl (Do_as (Do_eqls (s1 := p0.Key) (s2 := c0.Key) rfl rfl) (congrArg Value.bool e13)) ?_
  refine RL_do rfl rfl (Do_assign (v := .bool x12) rfl) ?_
  refine (RL_nil (thenQ_n (hK11 _ _ ?_)))
  have hR := Option.some.inj hF
  subst hR
  refine (WP_ret (post1 (v1 := .bool x12) rfl rfl ?_))
  exact ⟨rfl, H.pick [0] (by decide)⟩
end Go.Proofs.YtbjhondbheijiaaDoor.L
namespace Go.Proofs.YtbjhondbheijiaaDoor.L
open Go.RowKit Go.OB Go.Lf
/- slices.IndexFunc[[]orangebox/api.FleetRow,orangebox/api.FleetRow]@orangebox/fleet.CheckTable$3 -/
set_option maxHeartbeats 4000000 in
theorem F_slices_IndexFunc___api_FleetRow_api_FleetRow__fleet_CheckTable_3_w (p0 : List FleetRow) (p1c0 : FleetRow) (v1 : Value) (b3 : Nat) (v4 : Value) (r : Int) (hF : F_slices_IndexFunc___api_FleetRow_api_FleetRow__fleet_CheckTable_3 p0 p1c0 = some r) (O S : List Nat) (w : World) (H : Hd O w w S [.blk b3 [.string (bs p1c0.Key), .bool p1c0.Hidden, .int .i64 p1c0.Flights, v4] 25, .fz (.sl rFleetRow v1 p0), .fz (.sl (Rp.int .i64) v4 p1c0.Events)]) :
    Calls Tryd.prog 25 ([v1, .func (.func 30) #[] [.pointer (some ⟨b3, 0, none⟩)].toArray] : List Value).toArray w fun e w' => e = .returned (.int .i64 r) ∧ Hd O w w' S [.blk b3 [.string (bs p1c0.Key), .bool p1c0.Hidden, .int .i64 p1c0.Flights, v4] 25] := by
  unfold F_slices_IndexFunc___api_FleetRow_api_FleetRow__fleet_CheckTable_3 at hF
  refine calls_of_WP 19 Tryd.func25 rfl rfl rfl ?_
  refine WP_seq_k fun K7 hK7 => ?_
  refine WP_region ?_
  refine RL_do rfl rfl (Do_assign (v := .int .i64 0) rfl) ?_
  refine (RL_nil (thenQ_n (hK7 _ _ ?_)))
  obtain ⟨k132, ek133, hF⟩ := joinO_some hF
  refine WP_seqS [4, 5, 6, 7, 8, 9, 10, 11, 12, 13, 14, 15, 16, 17, 18] (fun (g : Unit) => []) (fun g wl => Hd O w wl S [.blk b3 [.string (bs p1c0.Key), .bool p1c0.Hidden, .int .i64 p1c0.Flights, v4] 25, .fz (.sl (Rp.int .i64) v4 p1c0.Events)] ∧ k132 () = some r) ?_ ?_
  · skip
    refine WP_seq_k fun K134 hK134 => ?_
    refine WP_region ?_
    refine RL_do rfl rfl (Do_move (v := v1) rfl) ?_
    obtain ⟨x135, e136, hF⟩ := letO_some hF
    obtain ⟨a137, c138, q139⟩ := SlF.len ((H.item (i := 1) rfl))
    refine RL_do rfl rfl (Do_as (Do_len u22 q139) (congrArg (Value.int .i64) e136)) ?_
    refine RL_do rfl rfl (Do_move (v := .int .i64 0) rfl) ?_
    refine (RL_nil (thenQ_n (hK134 _ _ ?_)))
    refine WP_block ?_
    unfold F_slices_IndexFunc___api_FleetRow_api_FleetRow__fleet_CheckTable_3_L1 at hF
    obtain ⟨B252, n253, eB254, hF⟩ := loopO_some hF
    refine WP_loopS [4, 5, 8, 9, 10, 11, 12, 13, 14, 15, 16, 17, 18] (fun (g : Nat × Int) => [(8, .int .i64 g.2)]) (fun g wl => Hd O w wl S [.blk b3 [.string (bs p1c0.Key), .bool p1c0.Hidden, .int .i64 p1c0.Flights, v4] 25, .fz (.sl (Rp.int .i64) v4 p1c0.Events), .fz (.sl rFleetRow v1 p0)] ∧ loopN B252 g.1 g.2 = some r) (fun g => g.1) (n253, 0) (Sl_cons rfl Sl_nil) ⟨H.pick [0, 2, 1] (by decide), hF⟩ ?_
    clear H hF
    rintro ⟨n253, g251⟩ ρ w256 ⟨H, hF⟩
    obtain ⟨n257, rfl, hF⟩ := loopN_pos hF
    have hF := loop_body eB254 hF
    refine WP_seq_k fun K258 hK258 => ?_
    refine WP_region ?_
    obtain ⟨x259, e260, hF⟩ := letO_some hF
    refine RL_do rfl rfl (Do_as (Do_lss (a := g251) (b := x135) rfl rfl) (congrArg Value.bool e260)) ?_
    refine (RL_nil (thenQ_n (hK258 _ _ ?_)))
    refine WP_seq_k fun K262 hK262 => ?_
    refine WP_ifb (b := x259) rfl (fun c263 => ?_) (fun c263 => ?_)
    · have hF := iteB_t c263 hF
      refine (WP_skip (thenQ_n (hK262 _ _ ?_)))
      refine WP_seq_k fun K287 hK287 => ?_
      refine WP_block ?_
      refine WP_seq_k fun K288 hK288 => ?_
      refine WP_region ?_
      refine RL_do rfl rfl (Do_move (v := .int .i64 g251) rfl) ?_
      refine RL_do rfl rfl (Do_assign (v := .int .i64 g251) rfl) ?_
      refine (RL_nil (thenQ_n (hK288 _ _ ?_)))
      refine WP_seq_k fun K289 hK289 => ?_
      refine WP_region ?_
      refine RL_do rfl rfl (Do_move (v := .func (.func 30) #[] [.pointer (some ⟨b3, 0, none⟩)].toArray) rfl) ?_
      refine RL_do rfl rfl (Do_move (v := v1) rfl) ?_
      refine RL_do rfl rfl (Do_move (v := .int .i64 g251) rfl) ?_
      obtain ⟨x290, e291, hF⟩ := bindO_some hF
      obtain ⟨b292, o293, c294, cs295, q296, h299, h297, h298, h300⟩ := rd_at (H.item (i := 2) rfl) e291
      obtain ⟨v301, rfl, h302⟩ := rFleetRow_open h299
      have H := H.fzs [.at b292 (o293 + g251.toNat * 4) _, .sl (Rp.int .i64) v301 x290.Events] ⟨⟨h297, h298, h300⟩, h302, trivial⟩
      refine RL_do rfl rfl (Do_idx u22 sz25 q296 rfl (at_some e291).1 (at_some e291).2.1 rfl rfl) ?_
      refine RL_do rfl rfl (Do_as (Do_loads (cs := [.string (bs x290.Key), .bool x290.Hidden, .int .i64 x290.Flights, v301]) agg25 rfl sz25 rfl (H.item (i := 3) rfl).2.2) rfl) ?_
      obtain ⟨x305, e306, hF⟩ := bindO_some hF
      refine RL_call rfl rfl (DoC_clo en30 rfl rfl) (F_fleet_CheckTable_3_w x290 p1c0 v301 b3 v4 _ e306 _ _ _ (H.enter [0] [4, 1] (by decide) rfl)) ?_
      rintro _ w307 ⟨rfl, G308⟩
      have H : Hd O _ w307 _ [.fz (.sl (Rp.int .i64) v4 p1c0.Events), .fz (.sl rFleetRow v1 p0), .fz (.at b292 (o293 + g251.toNat * 4) [.string (bs x290.Key), .bool x290.Hidden, .int .i64 x290.Flights, v301]), .fz (.sl (Rp.int .i64) v301 x290.Events), .blk b3 [.string (bs p1c0.Key), .bool p1c0.Hidden, .int .i64 p1c0.Flights, v4] 25] := H.back [0] [4, 1] rfl G308
      refine ⟨_, rfl, ?_⟩
      refine (RL_nil (thenQ_n (hK289 _ _ ?_)))
      refine WP_ifb (b := x305) rfl (fun c309 => ?_) (fun c309 => ?_)
      · have hF := iteB_t c309 hF
        refine WP_seq_k fun K310 hK310 => ?_
        refine WP_region ?_
        refine RL_do rfl rfl (Do_move (v := .int .i64 g251) rfl) ?_
        refine RL_do rfl rfl (Do_assign (v := .int .i64 g251) rfl) ?_
        refine (RL_nil (thenQ_n (hK310 _ _ ?_)))
        have hR := Option.some.inj hF
        subst hR
        refine (WP_ret (blockQ_r (thenQ_r (thenQ_r (blockQ_r (thenQ_r (post1 (v1 := .int .i64 g251) rfl rfl ?_)))))))
        exact ⟨rfl, H.pick [4] (by decide)⟩
      · have hF := iteB_f c309 hF
        refine (WP_skip (blockQ_n (thenQ_n (hK287 _ _ ?_))))
        refine WP_region ?_
        obtain ⟨x311, e312, hF⟩ := letO_some hF
        refine RL_do rfl rfl (Do_add (a := g251) (b := 1) rfl rfl e312) ?_
        refine RL_do rfl rfl (Do_move (v := .int .i64 x311) rfl) ?_
        refine (RL_nil (thenQ_n (And.intro ?_ ?_)))
        · repeat' (first | with_reducible exact Fr_refl | refine Fr_upd rfl ?_ | refine Fr_over rfl rfl ?_)
        · exact ⟨(n257, x311), (Sl_cons rfl Sl_nil), ⟨H.pick [4, 0, 1] (by decide), hF⟩, Nat.lt_succ_self _⟩
    · have hF := iteB_f c263 hF
      refine (WP_exit (thenQ_x (thenQ_x (blockQ_eq (thenQ_n (And.intro ?_ ?_))))))
      · repeat' (first | with_reducible exact Fr_refl | refine Fr_upd rfl ?_ | refine Fr_over rfl rfl ?_)
      · exact ⟨(), Sl_nil, ⟨H.pick [0, 1] (by decide), hF⟩⟩
  · rintro _ ρ w131 ⟨H, hF⟩
    have hF := join_body ek133 hF
    refine WP_seq_k fun K313 hK313 => ?_
    refine WP_region ?_
    refine RL_do rfl rfl (Do_assign (v := .int .i64 (-1)) rfl) ?_
    refine (RL_nil (thenQ_n (hK313 _ _ ?_)))
    have hR := Option.some.inj hF
    subst hR
    refine (WP_ret (post1 (v1 := .int .i64 (-1)) rfl rfl ?_))
    exact ⟨rfl, H.pick [0] (by decide)⟩
end Go.Proofs.YtbjhondbheijiaaDoor.L
namespace Go.Proofs.YtbjhondbheijiaaDoor.L
open Go.RowKit Go.OB Go.Lf
/- slices.ContainsFunc[[]orangebox/api.FleetRow,orangebox/api.FleetRow]@orangebox/fleet.CheckTable$3 -/
set_option maxHeartbeats 4000000 in
theorem F_slices_ContainsFunc___api_FleetRow_api_FleetRow__fleet_CheckTable_3_w (p0 : List FleetRow) (p1c0 : FleetRow) (v1 : Value) (b3 : Nat) (v4 : Value) (r : Bool) (hF : F_slices_ContainsFunc___api_FleetRow_api_FleetRow__fleet_CheckTable_3 p0 p1c0 = some r) (O S : List Nat) (w : World) (H : Hd O w w S [.blk b3 [.string (bs p1c0.Key), .bool p1c0.Hidden, .int .i64 p1c0.Flights, v4] 25, .fz (.sl rFleetRow v1 p0), .fz (.sl (Rp.int .i64) v4 p1c0.Events)]) :
    Calls Tryd.prog 29 ([v1, .func (.func 30) #[] [.pointer (some ⟨b3, 0, none⟩)].toArray] : List Value).toArray w fun e w' => e = .returned (.bool r) ∧ Hd O w w' S [.blk b3 [.string (bs p1c0.Key), .bool p1c0.Hidden, .int .i64 p1c0.Flights, v4] 25] := by
  unfold F_slices_ContainsFunc___api_FleetRow_api_FleetRow__fleet_CheckTable_3 at hF
  refine calls_of_WP 9 Tryd.func29 rfl rfl rfl ?_
  refine WP_seq_k fun K7 hK7 => ?_
  refine WP_region ?_
  refine RL_do rfl rfl (Do_assign (v := .bool false) rfl) ?_
  refine (RL_nil (thenQ_n (hK7 _ _ ?_)))
  refine WP_seq_k fun K8 hK8 => ?_
  refine WP_region ?_
  refine RL_do rfl rfl (Do_move (v := v1) rfl) ?_
  refine RL_do rfl rfl (Do_move (v := .func (.func 30) #[] [.pointer (some ⟨b3, 0, none⟩)].toArray) rfl) ?_
  obtain ⟨x9, e10, hF⟩ := bindO_some hF
  refine RL_call rfl rfl (DoC_func en25 rfl) (F_slices_IndexFunc___api_FleetRow_api_FleetRow__fleet_CheckTable_3_w p0 p1c0 v1 b3 v4 _ e10 _ _ _ (H.enter [0] [1, 2] (by decide) rfl)) ?_
  rintro _ w11 ⟨rfl, G12⟩
  have H : Hd O _ w11 _ [.fz (.sl rFleetRow v1 p0), .fz (.sl (Rp.int .i64) v4 p1c0.Events), .blk b3 [.string (bs p1c0.Key), .bool p1c0.Hidden, .int .i64 p1c0.Flights, v4] 25] := H.back [0] [1, 2] rfl G12
  refine ⟨_, rfl, ?_⟩
  obtain ⟨x13, e14, hF⟩ := letO_some hF
  refine RL_do rfl rfl (Do_as (Do_geq (a := x9) (b := 0) rfl rfl) (congrArg Value.bool e14)) ?_
  refine RL_do rfl rfl (Do_assign (v := .bool x13) rfl) ?_
  refine (RL_nil (thenQ_n (hK8 _ _ ?_)))
  have hR := Option.some.inj hF
  subst hR
  refine (WP_ret (post1 (v1 := .bool x13) rfl rfl ?_))
  exact ⟨rfl, H.pick [2] (by decide)⟩
end Go.Proofs.YtbjhondbheijiaaDoor.L
namespace Go.Proofs.YtbjhondbheijiaaDoor.L
open Go.RowKit Go.OB Go.Lf
/- orangebox/fleet.CheckTable$2 -/
set_option maxHeartbeats 4000000 in
theorem F_fleet_CheckTable_2_w (p0 : Int) (r : Bool) (hF : F_fleet_CheckTable_2 p0 = some r) (O S : List Nat) (w : World) (H : Hd O w w S []) :
    Calls Tryd.prog 27 ([.int .i64 p0] : List Value).toArray w fun e w' => e = .returned (.bool r) ∧ Hd O w w' S [] := by
  unfold F_fleet_CheckTable_2 at hF
  refine calls_of_WP 6 Tryd.func27 rfl rfl rfl ?_
  refine WP_seq_k fun K1 hK1 => ?_
  refine WP_region ?_
  refine RL_do rfl rfl (Do_assign (v := .bool false) rfl) ?_
  refine (RL_nil (thenQ_n (hK1 _ _ ?_)))
  refine WP_seq_k fun K2 hK2 => ?_
  refine WP_region ?_
  refine RL_do rfl rfl (Do_move (v := .int .i64 p0) rfl) ?_
  have H3 := H
  obtain ⟨x4, e5, hF⟩ := bindO_some hF
  refine RL_call rfl rfl (DoC_func en28 rfl) (F_fleet_within_w p0 0 1000000000 _ e5 _ _ _ (H.enter [] [] (by decide) rfl)) ?_
  rintro _ w6 ⟨rfl, G7⟩
  have H := H3.step (G7.only : Only [] _ _)
  refine ⟨_, rfl, ?_⟩
  obtain ⟨x8, e9, hF⟩ := letO_some hF
  refine RL_do rfl rfl (Do_as (Do_not (p := x4) rfl) (congrArg Value.bool e9)) ?_
  refine RL_do rfl rfl (Do_assign (v := .bool x8) rfl) ?_
  refine (RL_nil (thenQ_n (hK2 _ _ ?_)))
  have hR := Option.some.inj hF
  subst hR
  refine (WP_ret (post1 (v1 := .bool x8) rfl rfl ?_))
  exact ⟨rfl, H.pick [] (by decide)⟩
end Go.Proofs.YtbjhondbheijiaaDoor.L
namespace Go.Proofs.YtbjhondbheijiaaDoor.L
open Go.RowKit Go.OB Go.Lf
/- slices.IndexFunc[[]int,int]@orangebox/fleet.CheckTable$2 -/
set_option maxHeartbeats 4000000 in
theorem F_slices_IndexFunc___int_int__fleet_CheckTable_2_w (p0 : List Int) (v1 : Value) (r : Int) (hF : F_slices_IndexFunc___int_int__fleet_CheckTable_2 p0 = some r) (O S : List Nat) (w : World) (H : Hd O w w S [.fz (.sl (Rp.int .i64) v1 p0)]) :
    Calls Tryd.prog 54 ([v1, .func (.func 27) #[] #[]] : List Value).toArray w fun e w' => e = .returned (.int .i64 r) ∧ Hd O w w' S [] := by
  unfold F_slices_IndexFunc___int_int__fleet_CheckTable_2 at hF
  refine calls_of_WP 19 Tryd.func54 rfl rfl rfl ?_
  refine WP_seq_k fun K3 hK3 => ?_
  refine WP_region ?_
  refine RL_do rfl rfl (Do_assign (v := .int .i64 0) rfl) ?_
  refine (RL_nil (thenQ_n (hK3 _ _ ?_)))
  obtain ⟨k120, ek121, hF⟩ := joinO_some hF
  refine WP_seqS [4, 5, 6, 7, 8, 9, 10, 11, 12, 13, 14, 15, 16, 17, 18] (fun (g : Unit) => []) (fun g wl => Hd O w wl S [] ∧ k120 () = some r) ?_ ?_
  · skip
    refine WP_seq_k fun K122 hK122 => ?_
    refine WP_region ?_
    refine RL_do rfl rfl (Do_move (v := v1) rfl) ?_
    obtain ⟨x123, e124, hF⟩ := letO_some hF
    obtain ⟨a125, c126, q127⟩ := SlF.len ((H.item (i := 0) rfl))
    refine RL_do rfl rfl (Do_as (Do_len u23 q127) (congrArg (Value.int .i64) e124)) ?_
    refine RL_do rfl rfl (Do_move (v := .int .i64 0) rfl) ?_
    refine (RL_nil (thenQ_n (hK122 _ _ ?_)))
    refine WP_block ?_
    unfold F_slices_IndexFunc___int_int__fleet_CheckTable_2_L1 at hF
    obtain ⟨B232, n233, eB234, hF⟩ := loopO_some hF
    refine WP_loopS [4, 5, 8, 9, 10, 11, 12, 13, 14, 15, 16, 17, 18] (fun (g : Nat × Int) => [(8, .int .i64 g.2)]) (fun g wl => Hd O w wl S [.fz (.sl (Rp.int .i64) v1 p0)] ∧ loopN B232 g.1 g.2 = some r) (fun g => g.1) (n233, 0) (Sl_cons rfl Sl_nil) ⟨H.pick [0] (by decide), hF⟩ ?_
    clear H hF
    rintro ⟨n233, g231⟩ ρ w236 ⟨H, hF⟩
    obtain ⟨n237, rfl, hF⟩ := loopN_pos hF
    have hF := loop_body eB234 hF
    refine WP_seq_k fun K238 hK238 => ?_
    refine WP_region ?_
    obtain ⟨x239, e240, hF⟩ := letO_some hF
    refine RL_do rfl rfl (Do_as (Do_lss (a := g231) (b := x123) rfl rfl) (congrArg Value.bool e240)) ?_
    refine (RL_nil (thenQ_n (hK238 _ _ ?_)))
    refine WP_seq_k fun K242 hK242 => ?_
    refine WP_ifb (b := x239) rfl (fun c243 => ?_) (fun c243 => ?_)
    · have hF := iteB_t c243 hF
      refine (WP_skip (thenQ_n (hK242 _ _ ?_)))
      refine WP_seq_k fun K265 hK265 => ?_
      refine WP_block ?_
      refine WP_seq_k fun K266 hK266 => ?_
      refine WP_region ?_
      refine RL_do rfl rfl (Do_move (v := .int .i64 g231) rfl) ?_
      refine RL_do rfl rfl (Do_assign (v := .int .i64 g231) rfl) ?_
      refine (RL_nil (thenQ_n (hK266 _ _ ?_)))
      refine WP_seq_k fun K267 hK267 => ?_
      refine WP_region ?_
      refine RL_do rfl rfl (Do_move (v := .func (.func 27) #[] #[]) rfl) ?_
      refine RL_do rfl rfl (Do_move (v := v1) rfl) ?_
      refine RL_do rfl rfl (Do_move (v := .int .i64 g231) rfl) ?_
      obtain ⟨x268, e269, hF⟩ := bindO_some hF
      obtain ⟨b270, o271, c272, cs273, q274, h277, h275, h276, h278⟩ := rd_at (H.item (i := 0) rfl) e269
      obtain rfl : cs273 = [.int .i64 x268] := h277
      have H := H.fz (.at b270 (o271 + g231.toNat * 1) _) ⟨h275, h276, h278⟩
      refine RL_do rfl rfl (Do_idx u23 sz3 q274 rfl (at_some e269).1 (at_some e269).2.1 rfl rfl) ?_
      refine RL_do rfl rfl (Do_load one3 rfl (Cells.get (H.item (i := 1) rfl).2.2 (i := 0) rfl)) ?_
      have H280 := H
      obtain ⟨x281, e282, hF⟩ := bindO_some hF
      refine RL_call rfl rfl (DoC_clo en27 rfl rfl) (F_fleet_CheckTable_2_w x268 _ e282 _ _ _ (H.enter [] [] (by decide) rfl)) ?_
      rintro _ w283 ⟨rfl, G284⟩
      have H := H280.step (G284.only : Only [] _ _)
      refine ⟨_, rfl, ?_⟩
      refine (RL_nil (thenQ_n (hK267 _ _ ?_)))
      refine WP_ifb (b := x281) rfl (fun c285 => ?_) (fun c285 => ?_)
      · have hF := iteB_t c285 hF
        refine WP_seq_k fun K286 hK286 => ?_
        refine WP_region ?_
        refine RL_do rfl rfl (Do_move (v := .int .i64 g231) rfl) ?_
        refine RL_do rfl rfl (Do_assign (v := .int .i64 g231) rfl) ?_
        refine (RL_nil (thenQ_n (hK286 _ _ ?_)))
        have hR := Option.some.inj hF
        subst hR
        refine (WP_ret (blockQ_r (thenQ_r (thenQ_r (blockQ_r (thenQ_r (post1 (v1 := .int .i64 g231) rfl rfl ?_)))))))
        exact ⟨rfl, H.pick [] (by decide)⟩
      · have hF := iteB_f c285 hF
        refine (WP_skip (blockQ_n (thenQ_n (hK265 _ _ ?_))))
        refine WP_region ?_
        obtain ⟨x287, e288, hF⟩ := letO_some hF
        refine RL_do rfl rfl (Do_add (a := g231) (b := 1) rfl rfl e288) ?_
        refine RL_do rfl rfl (Do_move (v := .int .i64 x287) rfl) ?_
        refine (RL_nil (thenQ_n (And.intro ?_ ?_)))
        · repeat' (first | with_reducible exact Fr_refl | refine Fr_upd rfl ?_ | refine Fr_over rfl rfl ?_)
        · exact ⟨(n237, x287), (Sl_cons rfl Sl_nil), ⟨H.pick [0] (by decide), hF⟩, Nat.lt_succ_self _⟩
    · have hF := iteB_f c243 hF
      refine (WP_exit (thenQ_x (thenQ_x (blockQ_eq (thenQ_n (And.intro ?_ ?_))))))
      · repeat' (first | with_reducible exact Fr_refl | refine Fr_upd rfl ?_ | refine Fr_over rfl rfl ?_)
      · exact ⟨(), Sl_nil, ⟨H.pick [] (by decide), hF⟩⟩
  · rintro _ ρ w119 ⟨H, hF⟩
    have hF := join_body ek121 hF
    refine WP_seq_k fun K289 hK289 => ?_
    refine WP_region ?_
    refine RL_do rfl rfl (Do_assign (v := .int .i64 (-1)) rfl) ?_
    refine (RL_nil (thenQ_n (hK289 _ _ ?_)))
    have hR := Option.some.inj hF
    subst hR
    refine (WP_ret (post1 (v1 := .int .i64 (-1)) rfl rfl ?_))
    exact ⟨rfl, H.pick [] (by decide)⟩
end Go.Proofs.YtbjhondbheijiaaDoor.L
namespace Go.Proofs.YtbjhondbheijiaaDoor.L
open Go.RowKit Go.OB Go.Lf
/- slices.ContainsFunc[[]int,int]@orangebox/fleet.CheckTable$2 -/
set_option maxHeartbeats 4000000 in
theorem F_slices_ContainsFunc___int_int__fleet_CheckTable_2_w (p0 : List Int) (v1 : Value) (r : Bool) (hF : F_slices_ContainsFunc___int_int__fleet_CheckTable_2 p0 = some r) (O S : List Nat) (w : World) (H : Hd O w w S [.fz (.sl (Rp.int .i64) v1 p0)]) :
    Calls Tryd.prog 31 ([v1, .func (.func 27) #[] #[]] : List Value).toArray w fun e w' => e = .returned (.bool r) ∧ Hd O w w' S [] := by
  unfold F_slices_ContainsFunc___int_int__fleet_CheckTable_2 at hF
  refine calls_of_WP 9 Tryd.func31 rfl rfl rfl ?_
  refine WP_seq_k fun K3 hK3 => ?_
  refine WP_region ?_
  refine RL_do rfl rfl (Do_assign (v := .bool false) rfl) ?_
  refine (RL_nil (thenQ_n (hK3 _ _ ?_)))
  refine WP_seq_k fun K4 hK4 => ?_
  refine WP_region ?_
  refine RL_do rfl rfl (Do_move (v := v1) rfl) ?_
  refine RL_do rfl rfl (Do_move (v := .func (.func 27) #[] #[]) rfl) ?_
  have H5 := H
  obtain ⟨x6, e7, hF⟩ := bindO_some hF
  refine RL_call rfl rfl (DoC_func en54 rfl) (F_slices_IndexFunc___int_int__fleet_CheckTable_2_w p0 v1 _ e7 _ _ _ (H.enter [] [0] (by decide) rfl)) ?_
  rintro _ w8 ⟨rfl, G9⟩
  have H := H5.step (G9.only : Only [] _ _)
  refine ⟨_, rfl, ?_⟩
  obtain ⟨x10, e11, hF⟩ := letO_some hF
  refine RL_do rfl rfl (Do_as (Do_geq (a := x6) (b := 0) rfl rfl) (congrArg Value.bool e11)) ?_
  refine RL_do rfl rfl (Do_assign (v := .bool x10) rfl) ?_
  refine (RL_nil (thenQ_n (hK4 _ _ ?_)))
  have hR := Option.some.inj hF
  subst hR
  refine (WP_ret (post1 (v1 := .bool x10) rfl rfl ?_))
  exact ⟨rfl, H.pick [] (by decide)⟩
end Go.Proofs.YtbjhondbheijiaaDoor.L
