/- Walks: what each function computes, for every argument; no condition but those that stand in the statements. -/
import Derived.Test.YtbjhondbheijiaaDoorRV0
import Derived.Test.YtbjhondbheijiaaDoorRV2
import Derived.Test.YtbjhondbheijiaaDoorRV1
namespace Go.Proofs.YtbjhondbheijiaaDoor.L
open Go.RowKit Go.OB Go.Lf
/- internal/strconv.Itoa -/
set_option maxHeartbeats 4000000 in
theorem F_internal_strconv_Itoa_w (p0 : Int) (r : Str) (hF : F_internal_strconv_Itoa p0 = some r) (O S : List Nat) (w : World) (H : Hd O w w S [.fz (.at 0 0 ((Fl.arr 20 (Fl.int .u64)).f G_internal_strconv_uint64pow10))]) :
    Calls Tryd.prog 57 ([.int .i64 p0] : List Value).toArray w fun e w' => e = .returned (.string (bs r)) ∧ Hd O w w' S [] := by
  unfold F_internal_strconv_Itoa at hF
  refine calls_of_WP 5 Tryd.func57 rfl rfl rfl ?_
  refine WP_seq_k fun K2 hK2 => ?_
  refine WP_region ?_
  refine RL_do rfl rfl (Do_assign (v := .string (bs [])) rfl) ?_
  refine (RL_nil (thenQ_n (hK2 _ _ ?_)))
  refine WP_seq_k fun K3 hK3 => ?_
  refine WP_region ?_
  refine RL_do rfl rfl (Do_move (v := .int .i64 p0) rfl) ?_
  have H4 := H
  obtain ⟨x5, e6, hF⟩ := bindO_some hF
  refine RL_call rfl rfl (DoC_func en77 rfl) (E.X_FormatInt_w p0 10 _ e6 _ _ _ (H.enter [] [0] (by decide) rfl)) ?_
  rintro _ w7 ⟨rfl, G8⟩
  have H := H4.step (G8.only : Only [] _ _)
  refine ⟨_, rfl, ?_⟩
  refine RL_do rfl rfl (Do_assign (v := .string (bs x5)) rfl) ?_
  refine (RL_nil (thenQ_n (hK3 _ _ ?_)))
  have hR := Option.some.inj hF
  subst hR
  refine (WP_ret (post1 (v1 := .string (bs x5)) rfl rfl ?_))
  exact ⟨rfl, H.pick [] (by decide)⟩
end Go.Proofs.YtbjhondbheijiaaDoor.L
namespace Go.Proofs.YtbjhondbheijiaaDoor.L
open Go.RowKit Go.OB Go.Lf
/- strconv.Itoa -/
set_option maxHeartbeats 4000000 in
theorem F_strconv_Itoa_w (p0 : Int) (r : Str) (hF : F_strconv_Itoa p0 = some r) (O S : List Nat) (w : World) (H : Hd O w w S [.fz (.at 0 0 ((Fl.arr 20 (Fl.int .u64)).f G_internal_strconv_uint64pow10))]) :
    Calls Tryd.prog 38 ([.int .i64 p0] : List Value).toArray w fun e w' => e = .returned (.string (bs r)) ∧ Hd O w w' S [] := by
  unfold F_strconv_Itoa at hF
  refine calls_of_WP 5 Tryd.func38 rfl rfl rfl ?_
  refine WP_seq_k fun K2 hK2 => ?_
  refine WP_region ?_
  refine RL_do rfl rfl (Do_assign (v := .string (bs [])) rfl) ?_
  refine (RL_nil (thenQ_n (hK2 _ _ ?_)))
  refine WP_seq_k fun K3 hK3 => ?_
  refine WP_region ?_
  refine RL_do rfl rfl (Do_move (v := .int .i64 p0) rfl) ?_
  have H4 := H
  obtain ⟨x5, e6, hF⟩ := bindO_some hF
  refine RL_call rfl rfl (DoC_func en57 rfl) (F_internal_strconv_Itoa_w p0 _ e6 _ _ _ (H.enter [] [0] (by decide) rfl)) ?_
  rintro _ w7 ⟨rfl, G8⟩
  have H := H4.step (G8.only : Only [] _ _)
  refine ⟨_, rfl, ?_⟩
  refine RL_do rfl rfl (Do_assign (v := .string (bs x5)) rfl) ?_
  refine (RL_nil (thenQ_n (hK3 _ _ ?_)))
  have hR := Option.some.inj hF
  subst hR
  refine (WP_ret (post1 (v1 := .string (bs x5)) rfl rfl ?_))
  exact ⟨rfl, H.pick [] (by decide)⟩
end Go.Proofs.YtbjhondbheijiaaDoor.L
namespace Go.Proofs.YtbjhondbheijiaaDoor.L
open Go.RowKit Go.OB Go.Lf
/- (*strings.Builder).WriteString -/
set_option maxHeartbeats 4000000 in
theorem F_strings_Builder_WriteString_w (p0 : List Int) (p1 : Str) (b1 : Nat) (v2 : Value) (v3 : Value) (r : Int × Unit × (List Int)) (hF : F_strings_Builder_WriteString p0 p1 = some r) (O S : List Nat) (w : World) (H : Hd O w w S [.own (Rp.int .u8) v3 5 p0, .blk b1 [v2, v3] 69, .fz (.oq v2 b1)]) :
    Calls Tryd.prog 39 ([.pointer (some ⟨b1, 0, none⟩), .string (bs p1)] : List Value).toArray w fun e w' => ∃ u7 u8, e = .returned (.tuple #[.int .i64 r.1, .nilIface]) ∧ Hd O w w' S [.fz (.oq u7 b1), .own (Rp.int .u8) u8 5 r.2.2, .blk b1 [u7, u8] 69] := by
  unfold F_strings_Builder_WriteString at hF
  refine calls_of_WP 19 Tryd.func39 rfl rfl rfl ?_
  refine WP_seq_k fun K9 hK9 => ?_
  refine WP_region ?_
  refine RL_do rfl rfl (Do_assign (v := .int .i64 0) rfl) ?_
  refine RL_do rfl rfl (Do_assign (v := .nilIface) rfl) ?_
  refine (RL_nil (thenQ_n (hK9 _ _ ?_)))
  refine WP_seq_k fun K10 hK10 => ?_
  refine WP_region ?_
  refine RL_do rfl rfl (Do_move (v := .pointer (some ⟨b1, 0, none⟩)) rfl) ?_
  obtain ⟨x11, e12, hF⟩ := bindO_some hF
  refine RL_call rfl rfl (DoC_func en58 rfl) (E.X_bcheck_w p0 b1 v2 v3 _ e12 _ _ _ (H.enter [0, 1] [2] (by decide) rfl)) ?_
  rintro _ w17 ⟨v13, v14, rfl, G18⟩
  have H : Hd O _ w17 _ [.fz (.oq v2 b1), .fz (.oq v13 b1), .own (Rp.int .u8) v14 5 x11, .blk b1 [v13, v14] 69] := H.back [0, 1] [2] rfl G18
  refine ⟨_, rfl, ?_⟩
  refine (RL_nil (thenQ_n (hK10 _ _ ?_)))
  refine WP_seq_k fun K19 hK19 => ?_
  refine WP_region ?_
  refine RL_do rfl rfl (Do_move (v := .pointer (some ⟨b1, 0, none⟩)) rfl) ?_
  refine RL_do rfl rfl (Do_move (v := .pointer (some ⟨b1, 0, none⟩)) rfl) ?_
  refine RL_do rfl rfl (Do_nilCheck rfl) ?_
  refine RL_do rfl rfl (fa69_1 rfl) ?_
  refine RL_do rfl rfl (Do_load one32 rfl (Cells.get (Blk.cells (H.item (i := 3) rfl)) (i := 1) rfl)) ?_
  refine RL_do rfl rfl (Do_move (v := .string (bs p1)) rfl) ?_
  obtain ⟨x20, e21, hF⟩ := bindO_some hF
  refine RL_ex rfl rfl (Lx_appstr H (i := 2) rfl u32 u9 z8_5 rfl rfl e21) ?_
  rintro v22 w23 H
  refine RL_do rfl rfl (Do_nilCheck rfl) ?_
  refine RL_do rfl rfl (fa69_1 rfl) ?_
  refine RL_exU rfl (Lx_store1 H 3 rfl sz32 rfl (v := v22) rfl (own_one (H.item (i := 2) rfl)) rfl) ?_
  rintro w24 H
  refine (RL_nil (thenQ_n (hK19 _ _ ?_)))
  refine WP_seq_k fun K25 hK25 => ?_
  refine WP_region ?_
  refine RL_do rfl rfl (Do_move (v := .string (bs p1)) rfl) ?_
  obtain ⟨x26, e27, hF⟩ := letO_some hF
  refine RL_do rfl rfl (Do_as (Do_slen (s1 := p1) u9 rfl) (congrArg (Value.int .i64) e27)) ?_
  refine RL_do rfl rfl (Do_assign (v := .int .i64 x26) rfl) ?_
  refine RL_do rfl rfl (Do_assign (v := .nilIface) rfl) ?_
  refine (RL_nil (thenQ_n (hK25 _ _ ?_)))
  have hR := Option.some.inj hF
  subst hR
  refine (WP_ret (post2 (v1 := .int .i64 x26) (v2 := .nilIface) rfl rfl rfl ?_))
  exact ⟨v13, v22, rfl, H.pick [1, 2, 3] (by decide)⟩
end Go.Proofs.YtbjhondbheijiaaDoor.L
namespace Go.Proofs.YtbjhondbheijiaaDoor.L
open Go.RowKit Go.OB Go.Lf
/- (*strings.Builder).Len -/
set_option maxHeartbeats 4000000 in
theorem F_strings_Builder_Len_w (p0 : List Int) (b1 : Nat) (v2 : Value) (v3 : Value) (r : Int × (List Int)) (hF : F_strings_Builder_Len p0 = some r) (O S : List Nat) (w : World) (H : Hd O w w S [.own (Rp.int .u8) v3 5 p0, .blk b1 [v2, v3] 69, .fz (.oq v2 b1)]) :
    Calls Tryd.prog 41 ([.pointer (some ⟨b1, 0, none⟩)] : List Value).toArray w fun e w' => ∃ u7 u8, e = .returned (.int .i64 r.1) ∧ Hd O w w' S [.fz (.oq u7 b1), .own (Rp.int .u8) u8 5 r.2, .blk b1 [u7, u8] 69] := by
  unfold F_strings_Builder_Len at hF
  refine calls_of_WP 8 Tryd.func41 rfl rfl rfl ?_
  refine WP_seq_k fun K9 hK9 => ?_
  refine WP_region ?_
  refine RL_do rfl rfl (Do_assign (v := .int .i64 0) rfl) ?_
  refine (RL_nil (thenQ_n (hK9 _ _ ?_)))
  refine WP_seq_k fun K10 hK10 => ?_
  refine WP_region ?_
  refine RL_do rfl rfl (Do_move (v := .pointer (some ⟨b1, 0, none⟩)) rfl) ?_
  refine RL_do rfl rfl (Do_nilCheck rfl) ?_
  refine RL_do rfl rfl (fa69_1 rfl) ?_
  refine RL_do rfl rfl (Do_load one32 rfl (Cells.get (Blk.cells (H.item (i := 1) rfl)) (i := 1) rfl)) ?_
  obtain ⟨x11, e12, hF⟩ := letO_some hF
  obtain ⟨a13, c14, q15⟩ := Sr.len (Sr.of_own (H.item (i := 0) rfl))
  refine RL_do rfl rfl (Do_as (Do_len u32 q15) (congrArg (Value.int .i64) e12)) ?_
  refine RL_do rfl rfl (Do_assign (v := .int .i64 x11) rfl) ?_
  refine (RL_nil (thenQ_n (hK10 _ _ ?_)))
  have hR := Option.some.inj hF
  subst hR
  refine (WP_ret (post1 (v1 := .int .i64 x11) rfl rfl ?_))
  exact ⟨v2, v3, rfl, H.pick [2, 0, 1] (by decide)⟩
end Go.Proofs.YtbjhondbheijiaaDoor.L
namespace Go.Proofs.YtbjhondbheijiaaDoor.L
open Go.RowKit Go.OB Go.Lf
/- orangebox/fleet.Print -/
set_option maxHeartbeats 4000000 in
theorem F_fleet_Print_w (p0 : List FleetRow) (v1 : Value) (r : Str × Int) (hF : F_fleet_Print p0 = some r) (O S : List Nat) (w : World) (H : Hd O w w S [.fz (.sl rFleetRow v1 p0), .fz (.at 0 0 ((Fl.arr 20 (Fl.int .u64)).f G_internal_strconv_uint64pow10))]) :
    Calls Tryd.prog 14 ([v1] : List Value).toArray w fun e w' => e = .returned (.tuple #[.string (bs r.1), .int .i64 r.2]) ∧ Hd O w w' S [] := by
  unfold F_fleet_Print at hF
  refine calls_of_WP 64 Tryd.func14 rfl rfl rfl ?_
  refine WP_seq_k fun K4 hK4 => ?_
  refine WP_region ?_
  refine RL_do rfl rfl (Do_assign (v := .string (bs [])) rfl) ?_
  refine RL_do rfl rfl (Do_assign (v := .int .i64 0) rfl) ?_
  refine (RL_nil (thenQ_n (hK4 _ _ ?_)))
  refine WP_seq_k fun K16 hK16 => ?_
  refine WP_seq_k fun K17 hK17 => ?_
  refine WP_region ?_
  refine RL_do rfl rfl (Do_move (v := v1) rfl) ?_
  have H18 := H
  obtain ⟨x19, e20, hF⟩ := bindO_some hF
  refine RL_call rfl rfl (DoC_func en7 rfl) (F_fleet_CheckTable_w p0 v1 _ e20 _ _ _ (H.enter [] [0] (by decide) rfl)) ?_
  rintro _ w21 ⟨rfl, G22⟩
  have H := H18.step (G22.only : Only [] _ _)
  refine ⟨_, rfl, ?_⟩
  refine RL_do rfl rfl (Do_assign (v := .int .i64 x19) rfl) ?_
  refine (RL_nil (thenQ_n (hK17 _ _ ?_)))
  refine WP_seq_k fun K23 hK23 => ?_
  refine WP_region ?_
  refine RL_do rfl rfl (Do_move (v := .int .i64 x19) rfl) ?_
  obtain ⟨x24, e25, hF⟩ := letO_some hF
  refine RL_do rfl rfl (Do_as (Do_neq (a := x19) (b := 0) rfl rfl) (congrArg Value.bool e25)) ?_
  refine (RL_nil (thenQ_n (hK23 _ _ ?_)))
  refine WP_ifb (b := x24) rfl (fun c26 => ?_) (fun c26 => ?_)
  · have hF := iteB_t c26 hF
    refine WP_seq_k fun K27 hK27 => ?_
    refine WP_region ?_
    refine RL_do rfl rfl (Do_move (v := .int .i64 x19) rfl) ?_
    refine RL_do rfl rfl (Do_assign (v := .string (bs [])) rfl) ?_
    refine RL_do rfl rfl (Do_assign (v := .int .i64 x19) rfl) ?_
    refine (RL_nil (thenQ_n (hK27 _ _ ?_)))
    have hR := Option.some.inj hF
    subst hR
    refine (WP_ret (thenQ_r (post2 (v1 := .string (bs [])) (v2 := .int .i64 x19) rfl rfl rfl ?_)))
    exact ⟨rfl, H.pick [] (by decide)⟩
  · have hF := iteB_f c26 hF
    refine (WP_skip (thenQ_n (hK16 _ _ ?_)))
    refine WP_seq_k fun K28 hK28 => ?_
    refine WP_region ?_
    refine RL_ex rfl rfl (Lx_alloc zero69 H) ?_
    rintro _ w31 ⟨b29, rfl, H⟩
    refine (RL_nil (thenQ_n (hK28 _ _ ?_)))
    obtain ⟨k1206, ek1207, hF⟩ := joinO_some hF
    refine WP_seqS [2, 3, 7, 8, 10, 16, 17, 18, 19, 20, 21, 22, 23, 24, 25, 26, 27, 28, 29, 30, 31, 32, 33, 34, 35, 36, 37, 38, 39, 40, 41, 42, 43, 44, 45, 46, 47, 48, 49, 50, 51, 52, 53, 54, 55, 56, 57, 58, 59, 60] (fun (g : (List Int) × Value × Value) => []) (fun g wl => Hd O w wl S [.fz (.at 0 0 ((Fl.arr 20 (Fl.int .u64)).f G_internal_strconv_uint64pow10)), .blk b29 [g.2.1, g.2.2] 69, .fz (.oq g.2.1 b29), .own (Rp.int .u8) g.2.2 5 g.1] ∧ k1206 g.1 = some r) ?_ ?_
    · skip
      refine WP_seq_k fun K1208 hK1208 => ?_
      refine WP_region ?_
      refine RL_do rfl rfl (Do_move (v := v1) rfl) ?_
      obtain ⟨x1209, e1210, hF⟩ := letO_some hF
      obtain ⟨a1211, c1212, q1213⟩ := SlF.len ((H.item (i := 0) rfl))
      refine RL_do rfl rfl (Do_as (Do_len u22 q1213) (congrArg (Value.int .i64) e1210)) ?_
      refine RL_do rfl rfl (Do_move (v := .int .i64 0) rfl) ?_
      refine (RL_nil (thenQ_n (hK1208 _ _ ?_)))
      refine WP_block ?_
      have H := H.fz (.oq (.pointer none) b29) (.inl rfl)
      have H := own_nil H (Rp.int .u8) 5
      unfold F_fleet_Print_L1 at hF
      obtain ⟨B2376, n2377, eB2378, hF⟩ := loopO_some hF
      refine WP_loopS [2, 3, 7, 8, 10, 18, 19, 20, 21, 22, 23, 24, 25, 26, 27, 28, 29, 30, 31, 32, 33, 34, 35, 36, 37, 38, 39, 40, 41, 42, 43, 44, 45, 46, 47, 48, 49, 50, 51, 52, 53, 54, 55, 56, 57, 58, 59, 60] (fun (g : Nat × Int × (List Int) × Value × Value) => [(18, .int .i64 g.2.1)]) (fun g wl => Hd O w wl S [.fz (.sl rFleetRow v1 p0), .fz (.at 0 0 ((Fl.arr 20 (Fl.int .u64)).f G_internal_strconv_uint64pow10)), .blk b29 [g.2.2.2.1, g.2.2.2.2] 69, .fz (.oq g.2.2.2.1 b29), .own (Rp.int .u8) g.2.2.2.2 5 g.2.2.1] ∧ loopN B2376 g.1 (g.2.1, g.2.2.1) = some r) (fun g => g.1) (n2377, 0, [], .pointer none, .slice none 0 0) (Sl_cons rfl Sl_nil) ⟨H.pick [0, 1, 2, 3, 4] (by decide), hF⟩ ?_
      clear H hF
      rintro ⟨n2377, g2368, g2372, v2369, v2373⟩ ρ w2380 ⟨H, hF⟩
      obtain ⟨n2381, rfl, hF⟩ := loopN_pos hF
      have hF := loop_body eB2378 hF
      refine WP_seq_k fun K2382 hK2382 => ?_
      refine WP_region ?_
      obtain ⟨x2383, e2384, hF⟩ := letO_some hF
      refine RL_do rfl rfl (Do_as (Do_lss (a := g2368) (b := x1209) rfl rfl) (congrArg Value.bool e2384)) ?_
      refine (RL_nil (thenQ_n (hK2382 _ _ ?_)))
      refine WP_seq_k fun K2386 hK2386 => ?_
      refine WP_ifb (b := x2383) rfl (fun c2387 => ?_) (fun c2387 => ?_)
      · have hF := iteB_t c2387 hF
        refine (WP_skip (thenQ_n (hK2386 _ _ ?_)))
        obtain ⟨k2640, ek2641, hF⟩ := joinO_some hF
        refine WP_seqS [2, 3, 7, 8, 10, 20, 21, 22, 23, 24, 25, 26, 27, 28, 29, 30, 31, 32, 33, 34, 35, 36, 37, 38, 39, 40, 41, 42, 43, 44, 45, 46, 47, 48, 49, 50, 51, 52, 53, 54, 55, 56, 57, 58, 59] (fun (g : (List Int) × Value × Value) => []) (fun g wl => Hd O w wl S [.fz (.sl rFleetRow v1 p0), .fz (.at 0 0 ((Fl.arr 20 (Fl.int .u64)).f G_internal_strconv_uint64pow10)), .blk b29 [g.2.1, g.2.2] 69, .fz (.oq g.2.1 b29), .own (Rp.int .u8) g.2.2 5 g.1] ∧ k2640 g.1 = some r) ?_ ?_
        · skip
          refine WP_block ?_
          refine WP_seq_k fun K2642 hK2642 => ?_
          refine WP_region ?_
          obtain ⟨x2643, e2644, hF⟩ := bindO_some hF
          obtain ⟨b2645, o2646, c2647, cs2648, q2649, h2652, h2650, h2651, h2653⟩ := rd_at (H.item (i := 0) rfl) e2644
          obtain ⟨v2654, rfl, h2655⟩ := rFleetRow_open h2652
          have H := H.fzs [.at b2645 (o2646 + g2368.toNat * 4) _, .sl (Rp.int .i64) v2654 x2643.Events] ⟨⟨h2650, h2651, h2653⟩, h2655, trivial⟩
          refine RL_do rfl rfl (Do_idx u22 sz25 q2649 rfl (at_some e2644).1 (at_some e2644).2.1 rfl rfl) ?_
          refine RL_do rfl rfl (Do_as (Do_loads (cs := [.string (bs x2643.Key), .bool x2643.Hidden, .int .i64 x2643.Flights, v2654]) agg25 rfl sz25 rfl (H.item (i := 5) rfl).2.2) rfl) ?_
          refine RL_ex rfl rfl (Lx_alloc zero25 H) ?_
          rintro _ w2660 ⟨b2658, rfl, H⟩
          refine RL_exU rfl (Lx_storeN (vs := [.string (bs x2643.Key), .bool x2643.Hidden, .int .i64 x2643.Flights, v2654]) H 7 rfl sz25 rfl rfl rfl ⟨rfl, rfl, rfl, (slf_one (H.item (i := 6) rfl)), trivial⟩ rfl) ?_
          rintro w2661 H
          refine (RL_nil (thenQ_n (hK2642 _ _ ?_)))
          refine WP_seq_k fun K2672 hK2672 => ?_
          refine WP_seq_k fun K2673 hK2673 => ?_
          refine WP_region ?_
          refine RL_do rfl rfl (fa25_0 rfl) ?_
          refine RL_do rfl rfl (Do_load one9 rfl (Cells.get (Blk.cells (H.item (i := 7) rfl)) (i := 0) rfl)) ?_
          have H2674 := H
          obtain ⟨x2675, e2676, hF⟩ := bindO_some hF
          refine RL_call rfl rfl (DoC_func en37 rfl) (F_fleet_printable_w x2643.Key _ e2676 _ _ _ (H.enter [] [] (by decide) rfl)) ?_
          rintro _ w2677 ⟨rfl, G2678⟩
          have H := H2674.step (G2678.only : Only [] _ _)
          refine ⟨_, rfl, ?_⟩
          obtain ⟨x2679, e2680, hF⟩ := letO_some hF
          refine RL_do rfl rfl (Do_as (Do_not (p := x2675) rfl) (congrArg Value.bool e2680)) ?_
          refine (RL_nil (thenQ_n (hK2673 _ _ ?_)))
          refine WP_ifb (b := x2679) rfl (fun c2681 => ?_) (fun c2681 => ?_)
          · have hF := iteB_t c2681 hF
            refine WP_seq_k fun K2682 hK2682 => ?_
            refine WP_region ?_
            refine RL_do rfl rfl (Do_assign (v := .string (bs [])) rfl) ?_
            refine RL_do rfl rfl (Do_assign (v := .int .i64 2) rfl) ?_
            refine (RL_nil (thenQ_n (hK2682 _ _ ?_)))
            have hR := Option.some.inj hF
            subst hR
            refine (WP_ret (thenQ_r (blockQ_r (thenQ_r (thenQ_r (blockQ_r (thenQ_r (post2 (v1 := .string (bs [])) (v2 := .int .i64 2) rfl rfl rfl ?_))))))))
            exact ⟨rfl, H.pick [] (by decide)⟩
          · have hF := iteB_f c2681 hF
            refine (WP_skip (thenQ_n (hK2672 _ _ ?_)))
            refine WP_seq_k fun K2683 hK2683 => ?_
            refine WP_region ?_
            refine RL_do rfl rfl (fa25_0 rfl) ?_
            refine RL_do rfl rfl (Do_load one9 rfl (Cells.get (Blk.cells (H.item (i := 7) rfl)) (i := 0) rfl)) ?_
            obtain ⟨x2684, e2685, hF⟩ := letO_some hF
            subst e2685
            refine RL_ex rfl rfl (Lx_bs (r := Rp.str) (xl := [[114, 111, 119], x2643.Key]) (cs := [.string (bs [114, 111, 119]), .string (bs x2643.Key)]) u35 el9 (by decide) (by decide) rfl (fillB_parts (vs := [.string (bs [114, 111, 119]), .string (bs x2643.Key)]) (by decide) rfl rfl ⟨rfl, rfl, trivial⟩ rfl) H ⟨[.string (bs [114, 111, 119])], [.string (bs x2643.Key)], rfl, rfl, ⟨[.string (bs x2643.Key)], [], rfl, rfl, rfl⟩⟩) ?_
            rintro v2687 w2688 H
            refine RL_do rfl rfl (Do_assign (v := v2687) rfl) ?_
            refine (RL_nil (thenQ_n (hK2683 _ _ ?_)))
            obtain ⟨g2707, hF, hK2709⟩ := bindO_some hF
            refine WP_seqS [29, 30, 31, 32, 33] (fun (g : Unit) => []) (fun g wl => Hd O w wl S [.fz (.sl rFleetRow v1 p0), .fz (.at 0 0 ((Fl.arr 20 (Fl.int .u64)).f G_internal_strconv_uint64pow10)), .blk b29 [v2369, v2373] 69, .fz (.oq v2369 b29), .own (Rp.int .u8) v2373 5 g2372, .blk b2658 [.string (bs x2643.Key), .bool x2643.Hidden, .int .i64 x2643.Flights, v2654] 25, .fz (.sl (Rp.int .i64) v2654 x2643.Events), .own Rp.str v2687 9 g2707]) ?_ ?_
            · skip
              refine WP_seq_k fun K2710 hK2710 => ?_
              refine WP_region ?_
              refine RL_do rfl rfl (fa25_0 rfl) ?_
              refine RL_do rfl rfl (Do_load one9 rfl (Cells.get (Blk.cells (H.item (i := 7) rfl)) (i := 0) rfl)) ?_
              obtain ⟨x2711, e2712, hF⟩ := letO_some hF
              refine RL_do rfl rfl (Do_as (Do_eqls (s1 := x2643.Key) (s2 := []) rfl rfl) (congrArg Value.bool e2712)) ?_
              refine (RL_nil (thenQ_n (hK2710 _ _ ?_)))
              refine WP_ifb (b := x2711) rfl (fun c2713 => ?_) (fun c2713 => ?_)
              · have hF := iteB_t c2713 hF
                refine WP_region ?_
                refine RL_do rfl rfl (Do_move (v := v2687) rfl) ?_
                obtain ⟨x2714, e2715, hF⟩ := bindO_some hF
                obtain ⟨b2716, c2718, cs2719, q2720, h2723, h2724⟩ := own_at (H.item (i := 8) rfl) e2715
                obtain rfl : cs2719 = [.string (bs x2714)] := h2723
                refine RL_do rfl rfl (Do_idx u35 sz9 q2720 rfl (at_some e2715).1 (at_some e2715).2.1 rfl rfl) ?_
                obtain ⟨x2725, e2726, hF⟩ := bindO_some hF
                refine RL_exU rfl (Lx_own_store (vs := [.string (bs [45])]) (off := 0) H 8 rfl q2720 h2724 rfl sz9 rfl rfl rfl (allone_mem ⟨rfl, trivial⟩) e2726 (by decide) rfl rfl) ?_
                rintro w2727 H
                have hR := Option.some.inj hF
                subst hR
                refine (RL_nil (thenQ_n (And.intro ?_ ?_)))
                · repeat' (first | with_reducible exact Fr_refl | refine Fr_upd rfl ?_ | refine Fr_over rfl rfl ?_)
                · exact ⟨(), Sl_nil, H.pick [0, 1, 2, 3, 4, 7, 6, 8] (by decide)⟩
              · have hF := iteB_f c2713 hF
                have hR := Option.some.inj hF
                subst hR
                refine (WP_skip (thenQ_n (And.intro ?_ ?_)))
                · repeat' (first | with_reducible exact Fr_refl | refine Fr_upd rfl ?_ | refine Fr_over rfl rfl ?_)
                · exact ⟨(), Sl_nil, H.pick [0, 1, 2, 3, 4, 7, 6, 8] (by decide)⟩
            · rintro _ ρ w2708 H
              have hF := hK2709
              obtain ⟨g2885, hF, hK2888⟩ := bindO_some hF
              refine WP_seqS [8, 10, 34, 35, 36, 37, 38, 39, 40, 41, 42, 43, 44, 45, 46, 47, 48, 49, 50, 51, 52, 53, 54, 55] (fun (g : Value) => [(8, g)]) (fun g wl => Hd O w wl S [.own Rp.str g 9 g2885, .fz (.sl rFleetRow v1 p0), .fz (.at 0 0 ((Fl.arr 20 (Fl.int .u64)).f G_internal_strconv_uint64pow10)), .blk b29 [v2369, v2373] 69, .fz (.oq v2369 b29), .own (Rp.int .u8) v2373 5 g2372]) ?_ ?_
              · skip
                refine WP_seq_k fun K2889 hK2889 => ?_
                refine WP_region ?_
                refine RL_do rfl rfl (fa25_1 rfl) ?_
                refine RL_do rfl rfl (Do_load one4 rfl (Cells.get (Blk.cells (H.item (i := 5) rfl)) (i := 1) rfl)) ?_
                refine (RL_nil (thenQ_n (hK2889 _ _ ?_)))
                refine WP_ifb (b := x2643.Hidden) rfl (fun c2890 => ?_) (fun c2890 => ?_)
                · have hF := iteB_t c2890 hF
                  refine WP_region ?_
                  refine RL_do rfl rfl (Do_move (v := v2687) rfl) ?_
                  obtain ⟨x2891, e2892, hF⟩ := letO_some hF
                  subst e2892
                  refine RL_ex rfl rfl (Lx_bs (r := Rp.str) (xl := [[104, 105, 100, 100, 101, 110]]) (cs := [.string (bs [104, 105, 100, 100, 101, 110])]) u35 el9 (by decide) (by decide) rfl (fillB_parts (vs := [.string (bs [104, 105, 100, 100, 101, 110])]) (by decide) rfl rfl ⟨rfl, trivial⟩ rfl) H ⟨[.string (bs [104, 105, 100, 100, 101, 110])], [], rfl, rfl, rfl⟩) ?_
                  rintro v2894 w2895 H
                  obtain ⟨x2896, e2897, hF⟩ := bindO_some hF
                  refine RL_ex rfl rfl (Lx_app H (i := 7) rfl u35 el9 rfl rfl (Sr.of_own (H.item (i := 8) rfl)) e2897) ?_
                  rintro v2898 w2899 H
                  refine RL_do rfl rfl (Do_assign (v := v2898) rfl) ?_
                  have hR := Option.some.inj hF
                  subst hR
                  refine (RL_nil (thenQ_n (And.intro ?_ ?_)))
                  · repeat' (first | with_reducible exact Fr_refl | refine Fr_upd rfl ?_ | refine Fr_over rfl rfl ?_)
                  · exact ⟨v2898, (Sl_cons rfl Sl_nil), H.pick [7, 0, 1, 2, 3, 4] (by decide)⟩
                · have hF := iteB_f c2890 hF
                  refine WP_seq_k fun K2900 hK2900 => ?_
                  refine WP_region ?_
                  refine RL_do rfl rfl (fa25_2 rfl) ?_
                  refine RL_do rfl rfl (Do_load one3 rfl (Cells.get (Blk.cells (H.item (i := 5) rfl)) (i := 2) rfl)) ?_
                  obtain ⟨x2901, e2902, hF⟩ := letO_some hF
                  subst e2902
                  refine RL_ex rfl rfl (Lx_bs (r := (Rp.int .i64)) (xl := [x2643.Flights]) (cs := [.int .i64 x2643.Flights]) u23 el3 (by decide) (by decide) rfl (fillB_parts (vs := [.int .i64 x2643.Flights]) (by decide) rfl rfl ⟨rfl, trivial⟩ rfl) H ⟨[.int .i64 x2643.Flights], [], rfl, rfl, rfl⟩) ?_
                  rintro v2904 w2905 H
                  refine RL_do rfl rfl (fa25_3 rfl) ?_
                  refine RL_do rfl rfl (Do_load one23 rfl (Cells.get (Blk.cells (H.item (i := 5) rfl)) (i := 3) rfl)) ?_
                  obtain ⟨x2906, e2907, hF⟩ := bindO_some hF
                  refine RL_ex rfl rfl (Lx_app H (i := 8) rfl u23 el3 rfl rfl (Sr.of_rd (H.item (i := 6) rfl)) e2907) ?_
                  rintro v2908 w2909 H
                  obtain ⟨x2910, e2911, hF⟩ := letO_some hF
                  obtain ⟨a2912, c2913, q2914⟩ := Sr.len (Sr.of_own (H.item (i := 8) rfl))
                  refine RL_do rfl rfl (Do_as (Do_len u23 q2914) (congrArg (Value.int .i64) e2911)) ?_
                  refine RL_do rfl rfl (Do_move (v := .int .i64 0) rfl) ?_
                  refine (RL_nil (thenQ_n (hK2900 _ _ ?_)))
                  refine WP_block ?_
                  unfold F_fleet_Print_L2 at hF
                  obtain ⟨B3043, n3044, eB3045, hF⟩ := loopO_some hF
                  refine WP_loopS [8, 10, 46, 47, 48, 49, 50, 51, 52, 53, 54, 55] (fun (g : Nat × (List Str) × Int × Value) => [(8, g.2.2.2), (46, .int .i64 g.2.2.1)]) (fun g wl => Hd O w wl S [.own Rp.str g.2.2.2 9 g.2.1, .fz (.sl rFleetRow v1 p0), .fz (.at 0 0 ((Fl.arr 20 (Fl.int .u64)).f G_internal_strconv_uint64pow10)), .blk b29 [v2369, v2373] 69, .fz (.oq v2369 b29), .own (Rp.int .u8) v2373 5 g2372, .own (Rp.int .i64) v2908 3 x2906] ∧ loopN B3043 g.1 (g.2.1, g.2.2.1) = some g2885) (fun g => g.1) (n3044, g2707, 0, v2687) (Sl_cons rfl (Sl_cons rfl Sl_nil)) ⟨H.pick [7, 0, 1, 2, 3, 4, 8] (by decide), hF⟩ ?_
                  clear H hF
                  rintro ⟨n3044, g3040, g3042, v3041⟩ ρ w3047 ⟨H, hF⟩
                  obtain ⟨n3048, rfl, hF⟩ := loopN_pos hF
                  have hF := loop_body eB3045 hF
                  refine WP_seq_k fun K3049 hK3049 => ?_
                  refine WP_region ?_
                  obtain ⟨x3050, e3051, hF⟩ := letO_some hF
                  refine RL_do rfl rfl (Do_as (Do_lss (a := g3042) (b := x2910) rfl rfl) (congrArg Value.bool e3051)) ?_
                  refine (RL_nil (thenQ_n (hK3049 _ _ ?_)))
                  refine WP_seq_k fun K3053 hK3053 => ?_
                  refine WP_ifb (b := x3050) rfl (fun c3054 => ?_) (fun c3054 => ?_)
                  · have hF := iteB_t c3054 hF
                    refine (WP_skip (thenQ_n (hK3053 _ _ ?_)))
                    refine WP_seq_k fun K3081 hK3081 => ?_
                    refine WP_block ?_
                    refine WP_seq_k fun K3082 hK3082 => ?_
                    refine WP_region ?_
                    obtain ⟨x3083, e3084, hF⟩ := bindO_some hF
                    obtain ⟨b3085, c3087, cs3088, q3089, h3092, h3093⟩ := own_at (H.item (i := 6) rfl) e3084
                    obtain rfl : cs3088 = [.int .i64 x3083] := h3092
                    refine RL_do rfl rfl (Do_idx u23 sz3 q3089 rfl (at_some e3084).1 (at_some e3084).2.1 rfl rfl) ?_
                    refine RL_do rfl rfl (Do_load one3 rfl (Cells.get h3093 (i := 0) rfl)) ?_
                    refine RL_do rfl rfl (Do_assign (v := .int .i64 x3083) rfl) ?_
                    refine (RL_nil (thenQ_n (hK3082 _ _ ?_)))
                    refine WP_region ?_
                    refine RL_do rfl rfl (Do_move (v := v3041) rfl) ?_
                    refine RL_do rfl rfl (Do_move (v := .int .i64 x3083) rfl) ?_
                    have H3094 := H
                    obtain ⟨x3095, e3096, hF⟩ := bindO_some hF
                    refine RL_call rfl rfl (DoC_func en38 rfl) (F_strconv_Itoa_w x3083 _ e3096 _ _ _ (H.enter [] [2] (by decide) rfl)) ?_
                    rintro _ w3097 ⟨rfl, G3098⟩
                    have H := H3094.step (G3098.only : Only [] _ _)
                    refine ⟨_, rfl, ?_⟩
                    obtain ⟨x3099, e3100, hF⟩ := letO_some hF
                    subst e3100
                    refine RL_ex rfl rfl (Lx_bs (r := Rp.str) (xl := [x3095]) (cs := [.string (bs x3095)]) u35 el9 (by decide) (by decide) rfl (fillB_parts (vs := [.string (bs x3095)]) (by decide) rfl rfl ⟨rfl, trivial⟩ rfl) H ⟨[.string (bs x3095)], [], rfl, rfl, rfl⟩) ?_
                    rintro v3102 w3103 H
                    obtain ⟨x3104, e3105, hF⟩ := bindO_some hF
                    refine RL_ex rfl rfl (Lx_app H (i := 0) rfl u35 el9 rfl rfl (Sr.of_own (H.item (i := 7) rfl)) e3105) ?_
                    rintro v3106 w3107 H
                    refine RL_do rfl rfl (Do_assign (v := v3106) rfl) ?_
                    refine (RL_nil (blockQ_n (thenQ_n (hK3081 _ _ ?_))))
                    refine WP_region ?_
                    obtain ⟨x3108, e3109, hF⟩ := letO_some hF
                    refine RL_do rfl rfl (Do_add (a := g3042) (b := 1) rfl rfl e3109) ?_
                    refine RL_do rfl rfl (Do_move (v := .int .i64 x3108) rfl) ?_
                    refine (RL_nil (thenQ_n (And.intro ?_ ?_)))
                    · repeat' (first | with_reducible exact Fr_refl | refine Fr_upd rfl ?_ | refine Fr_over rfl rfl ?_)
                    · exact ⟨(n3048, x3104, x3108, v3106), (Sl_cons rfl (Sl_cons rfl Sl_nil)), ⟨H.pick [0, 1, 2, 3, 4, 5, 6] (by decide), hF⟩, Nat.lt_succ_self _⟩
                  · have hF := iteB_f c3054 hF
                    have hR := Option.some.inj hF
                    subst hR
                    refine (WP_exit (thenQ_x (thenQ_x (blockQ_eq (thenQ_n (And.intro ?_ ?_))))))
                    · repeat' (first | with_reducible exact Fr_refl | refine Fr_upd rfl ?_ | refine Fr_over rfl rfl ?_)
                    · exact ⟨v3041, (Sl_cons rfl Sl_nil), H.pick [0, 1, 2, 3, 4, 5] (by decide)⟩
              · rintro v2886 ρ w2887 H
                have hF := hK2888
                refine WP_region ?_
                refine RL_do rfl rfl (Do_move (v := v2886) rfl) ?_
                have H3110 := H
                have H := H.freeze (i := 0) rfl
                obtain ⟨x3111, e3112, hF⟩ := bindO_some hF
                refine RL_call rfl rfl (DoC_func en40 rfl) (E.X_Join_w g2885 [32] v2886 _ e3112 _ _ _ (H.enter [] [0] (by decide) rfl)) ?_
                rintro _ w3113 ⟨rfl, G3114⟩
                have H := H3110.step (G3114.only : Only [] _ _)
                refine ⟨_, rfl, ?_⟩
                obtain ⟨x3115, e3116, hF⟩ := bindO_some hF
                refine RL_do rfl rfl (Do_cat (s1 := x3111) (s2 := [10]) rfl rfl e3116) ?_
                obtain ⟨⟨x3117, x3118, x3119⟩, e3120, hF⟩ := bindO_some hF
                refine RL_call rfl rfl (DoC_func en39 rfl) (F_strings_Builder_WriteString_w g2372 x3115 b29 v2369 v2373 _ e3120 _ _ _ (H.enter [5, 3] [4] (by decide) rfl)) ?_
                rintro _ w3125 ⟨v3121, v3122, rfl, G3126⟩
                have H : Hd O _ w3125 _ [.own Rp.str v2886 9 g2885, .fz (.sl rFleetRow v1 p0), .fz (.at 0 0 ((Fl.arr 20 (Fl.int .u64)).f G_internal_strconv_uint64pow10)), .fz (.oq v2369 b29), .fz (.oq v3121 b29), .own (Rp.int .u8) v3122 5 x3119, .blk b29 [v3121, v3122] 69] := H.back [5, 3] [4] rfl G3126
                refine ⟨_, rfl, ?_⟩
                refine (RL_nil (blockQ_n (thenQ_n (And.intro ?_ ?_))))
                · repeat' (first | with_reducible exact Fr_refl | refine Fr_upd rfl ?_ | refine Fr_over rfl rfl ?_)
                · exact ⟨(x3119, v3121, v3122), Sl_nil, ⟨H.pick [1, 2, 6, 4, 5] (by decide), hF⟩⟩
        · rintro ⟨g2637, v2634, v2638⟩ ρ w2639 ⟨H, hF⟩
          have hF := join_body ek2641 hF
          refine WP_region ?_
          obtain ⟨x3127, e3128, hF⟩ := letO_some hF
          refine RL_do rfl rfl (Do_add (a := g2368) (b := 1) rfl rfl e3128) ?_
          refine RL_do rfl rfl (Do_move (v := .int .i64 x3127) rfl) ?_
          refine (RL_nil (thenQ_n (And.intro ?_ ?_)))
          · repeat' (first | with_reducible exact Fr_refl | refine Fr_upd rfl ?_ | refine Fr_over rfl rfl ?_)
          · exact ⟨(n2381, x3127, g2637, v2634, v2638), (Sl_cons rfl Sl_nil), ⟨H.pick [0, 1, 2, 3, 4] (by decide), hF⟩, Nat.lt_succ_self _⟩
      · have hF := iteB_f c2387 hF
        refine (WP_exit (thenQ_x (thenQ_x (blockQ_eq (thenQ_n (And.intro ?_ ?_))))))
        · repeat' (first | with_reducible exact Fr_refl | refine Fr_upd rfl ?_ | refine Fr_over rfl rfl ?_)
        · exact ⟨(g2372, v2369, v2373), Sl_nil, ⟨H.pick [1, 2, 3, 4] (by decide), hF⟩⟩
    · rintro ⟨g1203, v1200, v1204⟩ ρ w1205 ⟨H, hF⟩
      have hF := join_body ek1207 hF
      refine WP_seq_k fun K3143 hK3143 => ?_
      refine WP_seq_k fun K3144 hK3144 => ?_
      refine WP_region ?_
      obtain ⟨⟨x3145, x3146⟩, e3147, hF⟩ := bindO_some hF
      refine RL_call rfl rfl (DoC_func en41 rfl) (F_strings_Builder_Len_w g1203 b29 v1200 v1204 _ e3147 _ _ _ (H.enter [3, 1] [2] (by decide) rfl)) ?_
      rintro _ w3152 ⟨v3148, v3149, rfl, G3153⟩
      have H : Hd O _ w3152 _ [.fz (.at 0 0 ((Fl.arr 20 (Fl.int .u64)).f G_internal_strconv_uint64pow10)), .fz (.oq v1200 b29), .fz (.oq v3148 b29), .own (Rp.int .u8) v3149 5 x3146, .blk b29 [v3148, v3149] 69] := H.back [3, 1] [2] rfl G3153
      refine ⟨_, rfl, ?_⟩
      obtain ⟨x3154, e3155, hF⟩ := letO_some hF
      refine RL_do rfl rfl (Do_as (Do_gtr (a := x3145) (b := 1000000) rfl rfl) (congrArg Value.bool e3155)) ?_
      refine (RL_nil (thenQ_n (hK3144 _ _ ?_)))
      refine WP_ifb (b := x3154) rfl (fun c3156 => ?_) (fun c3156 => ?_)
      · have hF := iteB_t c3156 hF
        refine WP_seq_k fun K3157 hK3157 => ?_
        refine WP_region ?_
        refine RL_do rfl rfl (Do_assign (v := .string (bs [])) rfl) ?_
        refine RL_do rfl rfl (Do_assign (v := .int .i64 3) rfl) ?_
        refine (RL_nil (thenQ_n (hK3157 _ _ ?_)))
        have hR := Option.some.inj hF
        subst hR
        refine (WP_ret (thenQ_r (post2 (v1 := .string (bs [])) (v2 := .int .i64 3) rfl rfl rfl ?_)))
        exact ⟨rfl, H.pick [] (by decide)⟩
      · have hF := iteB_f c3156 hF
        refine (WP_skip (thenQ_n (hK3143 _ _ ?_)))
        refine WP_seq_k fun K3158 hK3158 => ?_
        refine WP_region ?_
        obtain ⟨x3159, e3160, hF⟩ := bindO_some hF
        refine RL_call rfl rfl (DoC_func en42 rfl) (E.X_bstring_w x3146 b29 v3148 v3149 _ e3160 _ _ _ (H.enter [3, 4] [2] (by decide) rfl)) ?_
        rintro _ w3161 ⟨rfl, G3162⟩
        have H : Hd O _ w3161 _ [.fz (.at 0 0 ((Fl.arr 20 (Fl.int .u64)).f G_internal_strconv_uint64pow10)), .fz (.oq v1200 b29), .fz (.oq v3148 b29)] := H.back [3, 4] [2] rfl G3162
        refine ⟨_, rfl, ?_⟩
        refine RL_do rfl rfl (Do_assign (v := .string (bs x3159)) rfl) ?_
        refine RL_do rfl rfl (Do_assign (v := .int .i64 0) rfl) ?_
        refine (RL_nil (thenQ_n (hK3158 _ _ ?_)))
        have hR := Option.some.inj hF
        subst hR
        refine (WP_ret (post2 (v1 := .string (bs x3159)) (v2 := .int .i64 0) rfl rfl rfl ?_))
        exact ⟨rfl, H.pick [] (by decide)⟩
end Go.Proofs.YtbjhondbheijiaaDoor.L
namespace Go.Proofs.YtbjhondbheijiaaDoor.L
open Go.RowKit Go.OB Go.Lf
/- orangebox/orangeboxref9.Print -/
set_option maxHeartbeats 4000000 in
theorem F_ref9_Print_w (p0 : List FleetRow) (v1 : Value) (r : Str × Int) (hF : F_ref9_Print p0 = some r) (O S : List Nat) (w : World) (H : Hd O w w S [.fz (.sl rFleetRow v1 p0), .fz (.at 0 0 ((Fl.arr 20 (Fl.int .u64)).f G_internal_strconv_uint64pow10))]) :
    Calls Tryd.prog 15 ([v1] : List Value).toArray w fun e w' => e = .returned (.tuple #[.string (bs r.1), .int .i64 r.2]) ∧ Hd O w w' S [] := by
  unfold F_ref9_Print at hF
  refine calls_of_WP 109 Tryd.func15 rfl rfl rfl ?_
  refine WP_seq_k fun K4 hK4 => ?_
  refine WP_region ?_
  refine RL_do rfl rfl (Do_assign (v := .string (bs [])) rfl) ?_
  refine RL_do rfl rfl (Do_assign (v := .int .i64 0) rfl) ?_
  refine (RL_nil (thenQ_n (hK4 _ _ ?_)))
  refine WP_seq_k fun K16 hK16 => ?_
  refine WP_seq_k fun K17 hK17 => ?_
  refine WP_region ?_
  refine RL_do rfl rfl (Do_move (v := v1) rfl) ?_
  have H18 := H
  obtain ⟨x19, e20, hF⟩ := bindO_some hF
  refine RL_call rfl rfl (DoC_func en8 rfl) (F_ref9_CheckTable_w p0 v1 _ e20 _ _ _ (H.enter [] [0] (by decide) rfl)) ?_
  rintro _ w21 ⟨rfl, G22⟩
  have H := H18.step (G22.only : Only [] _ _)
  refine ⟨_, rfl, ?_⟩
  refine RL_do rfl rfl (Do_assign (v := .int .i64 x19) rfl) ?_
  refine (RL_nil (thenQ_n (hK17 _ _ ?_)))
  refine WP_seq_k fun K23 hK23 => ?_
  refine WP_region ?_
  refine RL_do rfl rfl (Do_move (v := .int .i64 x19) rfl) ?_
  obtain ⟨x24, e25, hF⟩ := letO_some hF
  refine RL_do rfl rfl (Do_as (Do_neq (a := x19) (b := 0) rfl rfl) (congrArg Value.bool e25)) ?_
  refine (RL_nil (thenQ_n (hK23 _ _ ?_)))
  refine WP_ifb (b := x24) rfl (fun c26 => ?_) (fun c26 => ?_)
  · have hF := iteB_t c26 hF
    refine WP_seq_k fun K27 hK27 => ?_
    refine WP_region ?_
    refine RL_do rfl rfl (Do_move (v := .int .i64 x19) rfl) ?_
    refine RL_do rfl rfl (Do_assign (v := .string (bs [])) rfl) ?_
    refine RL_do rfl rfl (Do_assign (v := .int .i64 x19) rfl) ?_
    refine (RL_nil (thenQ_n (hK27 _ _ ?_)))
    have hR := Option.some.inj hF
    subst hR
    refine (WP_ret (thenQ_r (post2 (v1 := .string (bs [])) (v2 := .int .i64 x19) rfl rfl rfl ?_)))
    exact ⟨rfl, H.pick [] (by decide)⟩
  · have hF := iteB_f c26 hF
    refine (WP_skip (thenQ_n (hK16 _ _ ?_)))
    obtain ⟨k949, ek950, hF⟩ := joinO_some hF
    refine WP_seqS [2, 3, 5, 6, 7, 17, 18, 19, 20, 21, 22, 23, 24, 25, 26, 27, 28, 29, 30, 31, 32, 33, 34, 35, 36, 37, 38, 39, 40, 41, 42, 43, 44, 45] (fun (g : Unit) => []) (fun g wl => Hd O w wl S [.fz (.sl rFleetRow v1 p0), .fz (.at 0 0 ((Fl.arr 20 (Fl.int .u64)).f G_internal_strconv_uint64pow10))] ∧ k949 () = some r) ?_ ?_
    · skip
      refine WP_seq_k fun K951 hK951 => ?_
      refine WP_region ?_
      refine RL_do rfl rfl (Do_assign (v := .int .i64 0) rfl) ?_
      refine (RL_nil (thenQ_n (hK951 _ _ ?_)))
      refine WP_block ?_
      unfold F_ref9_Print_L1 at hF
      obtain ⟨B1866, n1867, eB1868, hF⟩ := loopO_some hF
      refine WP_loopS [2, 3, 5, 6, 7, 17, 18, 19, 20, 21, 22, 23, 24, 25, 26, 27, 28, 29, 30, 31, 32, 33, 34, 35, 36, 37, 38, 39, 40, 41, 42, 43, 44, 45] (fun (g : Nat × Int) => [(5, .int .i64 g.2)]) (fun g wl => Hd O w wl S [.fz (.sl rFleetRow v1 p0), .fz (.at 0 0 ((Fl.arr 20 (Fl.int .u64)).f G_internal_strconv_uint64pow10))] ∧ loopN B1866 g.1 g.2 = some r) (fun g => g.1) (n1867, 0) (Sl_cons rfl Sl_nil) ⟨H.pick [0, 1] (by decide), hF⟩ ?_
      clear H hF
      rintro ⟨n1867, g1865⟩ ρ w1870 ⟨H, hF⟩
      obtain ⟨n1871, rfl, hF⟩ := loopN_pos hF
      have hF := loop_body eB1868 hF
      refine WP_seq_k fun K1881 hK1881 => ?_
      refine WP_seq_k fun K1882 hK1882 => ?_
      refine WP_region ?_
      refine RL_do rfl rfl (Do_move (v := .int .i64 g1865) rfl) ?_
      refine RL_do rfl rfl (Do_move (v := v1) rfl) ?_
      obtain ⟨x1883, e1884, hF⟩ := letO_some hF
      obtain ⟨a1885, c1886, q1887⟩ := SlF.len ((H.item (i := 0) rfl))
      refine RL_do rfl rfl (Do_as (Do_len u22 q1887) (congrArg (Value.int .i64) e1884)) ?_
      obtain ⟨x1888, e1889, hF⟩ := letO_some hF
      refine RL_do rfl rfl (Do_as (Do_lss (a := g1865) (b := x1883) rfl rfl) (congrArg Value.bool e1889)) ?_
      refine (RL_nil (thenQ_n (hK1882 _ _ ?_)))
      refine WP_ifb (b := x1888) rfl (fun c1890 => ?_) (fun c1890 => ?_)
      · have hF := iteB_t c1890 hF
        refine (WP_skip (thenQ_n (hK1881 _ _ ?_)))
        obtain ⟨k2108, ek2109, hF⟩ := joinO_some hF
        refine WP_seqS [2, 3, 6, 7, 23, 24, 25, 26, 27, 28, 29, 30, 31, 32, 33, 34, 35, 36, 37, 38, 39, 40, 41, 42, 43, 44, 45] (fun (g : Unit) => []) (fun g wl => Hd O w wl S [.fz (.sl rFleetRow v1 p0), .fz (.at 0 0 ((Fl.arr 20 (Fl.int .u64)).f G_internal_strconv_uint64pow10))] ∧ k2108 () = some r) ?_ ?_
        · skip
          refine WP_block ?_
          refine WP_seq_k fun K2110 hK2110 => ?_
          refine WP_region ?_
          refine RL_do rfl rfl (Do_move (v := v1) rfl) ?_
          refine RL_do rfl rfl (Do_move (v := .int .i64 g1865) rfl) ?_
          obtain ⟨x2111, e2112, hF⟩ := bindO_some hF
          obtain ⟨b2113, o2114, c2115, cs2116, q2117, h2120, h2118, h2119, h2121⟩ := rd_at (H.item (i := 0) rfl) e2112
          obtain ⟨v2122, rfl, h2123⟩ := rFleetRow_open h2120
          have H := H.fzs [.at b2113 (o2114 + g1865.toNat * 4) _, .sl (Rp.int .i64) v2122 x2111.Events] ⟨⟨h2118, h2119, h2121⟩, h2123, trivial⟩
          refine RL_do rfl rfl (Do_idx u22 sz25 q2117 rfl (at_some e2112).1 (at_some e2112).2.1 rfl rfl) ?_
          refine RL_do rfl rfl (fa25_0 rfl) ?_
          refine RL_do rfl rfl (Do_load one9 rfl (Cells.get (H.item (i := 2) rfl).2.2 (i := 0) rfl)) ?_
          refine RL_do rfl rfl (Do_assign (v := .string (bs x2111.Key)) rfl) ?_
          refine (RL_nil (thenQ_n (hK2110 _ _ ?_)))
          obtain ⟨k2223, ek2224, hF⟩ := joinO_some hF
          refine WP_seqS [2, 3, 7, 28, 29, 30, 31, 32, 33, 34, 35, 36, 37, 38, 39, 40, 41, 42, 43] (fun (g : Unit) => []) (fun g wl => Hd O w wl S [.fz (.sl rFleetRow v1 p0), .fz (.at 0 0 ((Fl.arr 20 (Fl.int .u64)).f G_internal_strconv_uint64pow10))] ∧ k2223 () = some r) ?_ ?_
          · skip
            refine WP_seq_k fun K2225 hK2225 => ?_
            refine WP_region ?_
            refine RL_do rfl rfl (Do_assign (v := .int .i64 0) rfl) ?_
            refine (RL_nil (thenQ_n (hK2225 _ _ ?_)))
            refine WP_block ?_
            unfold F_ref9_Print_L2 at hF
            obtain ⟨B2316, n2317, eB2318, hF⟩ := loopO_some hF
            refine WP_loopS [2, 3, 7, 28, 29, 30, 31, 32, 33, 34, 35, 36, 37, 38, 39, 40, 41, 42, 43] (fun (g : Nat × Int) => [(7, .int .i64 g.2)]) (fun g wl => Hd O w wl S [.fz (.sl rFleetRow v1 p0), .fz (.at 0 0 ((Fl.arr 20 (Fl.int .u64)).f G_internal_strconv_uint64pow10))] ∧ loopN B2316 g.1 g.2 = some r) (fun g => g.1) (n2317, 0) (Sl_cons rfl Sl_nil) ⟨H.pick [0, 1] (by decide), hF⟩ ?_
            clear H hF
            rintro ⟨n2317, g2315⟩ ρ w2320 ⟨H, hF⟩
            obtain ⟨n2321, rfl, hF⟩ := loopN_pos hF
            have hF := loop_body eB2318 hF
            refine WP_seq_k fun K2328 hK2328 => ?_
            refine WP_seq_k fun K2329 hK2329 => ?_
            refine WP_region ?_
            refine RL_do rfl rfl (Do_move (v := .int .i64 g2315) rfl) ?_
            refine RL_do rfl rfl (Do_move (v := .string (bs x2111.Key)) rfl) ?_
            obtain ⟨x2330, e2331, hF⟩ := letO_some hF
            refine RL_do rfl rfl (Do_as (Do_slen (s1 := x2111.Key) u9 rfl) (congrArg (Value.int .i64) e2331)) ?_
            obtain ⟨x2332, e2333, hF⟩ := letO_some hF
            refine RL_do rfl rfl (Do_as (Do_lss (a := g2315) (b := x2330) rfl rfl) (congrArg Value.bool e2333)) ?_
            refine (RL_nil (thenQ_n (hK2329 _ _ ?_)))
            refine WP_ifb (b := x2332) rfl (fun c2334 => ?_) (fun c2334 => ?_)
            · have hF := iteB_t c2334 hF
              refine (WP_skip (thenQ_n (hK2328 _ _ ?_)))
              refine WP_seq_k fun K2349 hK2349 => ?_
              refine WP_block ?_
              obtain ⟨g2359, hF, hK2361⟩ := bindO_some hF
              refine WP_seqS [34, 35, 36, 37, 38, 39, 40, 41, 42, 43] (fun (g : Unit) => [(43, .bool g2359)]) (fun g wl => Hd O w wl S [.fz (.sl rFleetRow v1 p0), .fz (.at 0 0 ((Fl.arr 20 (Fl.int .u64)).f G_internal_strconv_uint64pow10))]) ?_ ?_
              · skip
                refine WP_region ?_
                refine RL_do rfl rfl (Do_move (v := .string (bs x2111.Key)) rfl) ?_
                refine RL_do rfl rfl (Do_move (v := .int .i64 g2315) rfl) ?_
                obtain ⟨x2362, e2363, hF⟩ := bindO_some hF
                refine RL_do rfl rfl (Do_sidx (s1 := x2111.Key) (q := g2315) u9 rfl rfl e2363) ?_
                obtain ⟨x2364, e2365, hF⟩ := letO_some hF
                refine RL_do rfl rfl (Do_as (Do_lss (a := x2362) (b := 33) rfl rfl) (congrArg Value.bool e2365)) ?_
                refine RL_splitb (b := x2364) rfl rfl rfl (fun c2366 => ?_) (fun c2366 => ?_)
                · have hF := iteB_t c2366 hF
                  refine RL_off rfl rfl ?_
                  refine RL_off rfl rfl ?_
                  refine RL_off rfl rfl ?_
                  refine RL_off rfl rfl ?_
                  refine RL_do rfl rfl (Do_pick_t (v := .bool true) rfl rfl) ?_
                  have hR := Option.some.inj hF
                  subst hR
                  refine (RL_nil (thenQ_n (And.intro ?_ ?_)))
                  · repeat' (first | with_reducible exact Fr_refl | refine Fr_upd rfl ?_ | refine Fr_over rfl rfl ?_)
                  · exact ⟨(), (Sl_cons rfl Sl_nil), H.pick [0, 1] (by decide)⟩
                · have hF := iteB_f c2366 hF
                  refine RL_do rfl rfl (Do_move (v := .string (bs x2111.Key)) rfl) ?_
                  refine RL_do rfl rfl (Do_move (v := .int .i64 g2315) rfl) ?_
                  obtain ⟨x2367, e2368, hF⟩ := bindO_some hF
                  refine RL_do rfl rfl (Do_sidx (s1 := x2111.Key) (q := g2315) u9 rfl rfl e2368) ?_
                  obtain ⟨x2369, e2370, hF⟩ := letO_some hF
                  refine RL_do rfl rfl (Do_as (Do_gtr (a := x2367) (b := 126) rfl rfl) (congrArg Value.bool e2370)) ?_
                  refine RL_do rfl rfl (Do_pick_f (v := .bool x2369) rfl rfl) ?_
                  have hR := Option.some.inj hF
                  subst hR
                  refine (RL_nil (thenQ_n (And.intro ?_ ?_)))
                  · repeat' (first | with_reducible exact Fr_refl | refine Fr_upd rfl ?_ | refine Fr_over rfl rfl ?_)
                  · exact ⟨(), (Sl_cons rfl Sl_nil), H.pick [0, 1] (by decide)⟩
              · rintro _ ρ w2360 H
                have hF := hK2361
                refine WP_ifb (b := g2359) rfl (fun c2371 => ?_) (fun c2371 => ?_)
                · have hF := iteB_t c2371 hF
                  refine WP_seq_k fun K2372 hK2372 => ?_
                  refine WP_region ?_
                  refine RL_do rfl rfl (Do_assign (v := .string (bs [])) rfl) ?_
                  refine RL_do rfl rfl (Do_assign (v := .int .i64 2) rfl) ?_
                  refine (RL_nil (thenQ_n (hK2372 _ _ ?_)))
                  have hR := Option.some.inj hF
                  subst hR
                  refine (WP_ret (blockQ_r (thenQ_r (thenQ_r (blockQ_r (thenQ_r (blockQ_r (thenQ_r (thenQ_r (blockQ_r (thenQ_r (post2 (v1 := .string (bs [])) (v2 := .int .i64 2) rfl rfl rfl ?_))))))))))))
                  exact ⟨rfl, H.pick [] (by decide)⟩
                · have hF := iteB_f c2371 hF
                  refine (WP_skip (blockQ_n (thenQ_n (hK2349 _ _ ?_))))
                  refine WP_region ?_
                  refine RL_do rfl rfl (Do_move (v := .int .i64 g2315) rfl) ?_
                  obtain ⟨x2373, e2374, hF⟩ := letO_some hF
                  refine RL_do rfl rfl (Do_add (a := g2315) (b := 1) rfl rfl e2374) ?_
                  refine RL_do rfl rfl (Do_assign (v := .int .i64 x2373) rfl) ?_
                  refine (RL_nil (thenQ_n (And.intro ?_ ?_)))
                  · repeat' (first | with_reducible exact Fr_refl | refine Fr_upd rfl ?_ | refine Fr_over rfl rfl ?_)
                  · exact ⟨(n2321, x2373), (Sl_cons rfl Sl_nil), ⟨H.pick [0, 1] (by decide), hF⟩, Nat.lt_succ_self _⟩
            · have hF := iteB_f c2334 hF
              refine (WP_exit (thenQ_x (thenQ_x (blockQ_eq (thenQ_n (And.intro ?_ ?_))))))
              · repeat' (first | with_reducible exact Fr_refl | refine Fr_upd rfl ?_ | refine Fr_over rfl rfl ?_)
              · exact ⟨(), Sl_nil, ⟨H.pick [0, 1] (by decide), hF⟩⟩
          · rintro _ ρ w2222 ⟨H, hF⟩
            have hF := join_body ek2224 hF
            refine WP_seq_k fun K2375 hK2375 => ?_
            refine WP_region ?_
            refine RL_do rfl rfl (Do_move (v := .string (bs x2111.Key)) rfl) ?_
            obtain ⟨x2376, e2377, hF⟩ := letO_some hF
            refine RL_do rfl rfl (Do_as (Do_eqls (s1 := x2111.Key) (s2 := [45]) rfl rfl) (congrArg Value.bool e2377)) ?_
            refine (RL_nil (thenQ_n (hK2375 _ _ ?_)))
            refine WP_ifb (b := x2376) rfl (fun c2378 => ?_) (fun c2378 => ?_)
            · have hF := iteB_t c2378 hF
              refine WP_seq_k fun K2379 hK2379 => ?_
              refine WP_region ?_
              refine RL_do rfl rfl (Do_assign (v := .string (bs [])) rfl) ?_
              refine RL_do rfl rfl (Do_assign (v := .int .i64 2) rfl) ?_
              refine (RL_nil (thenQ_n (hK2379 _ _ ?_)))
              have hR := Option.some.inj hF
              subst hR
              refine (WP_ret (blockQ_r (thenQ_r (thenQ_r (blockQ_r (thenQ_r (post2 (v1 := .string (bs [])) (v2 := .int .i64 2) rfl rfl rfl ?_)))))))
              exact ⟨rfl, H.pick [] (by decide)⟩
            · have hF := iteB_f c2378 hF
              refine (WP_skip (blockQ_n (thenQ_n (And.intro ?_ ?_))))
              · repeat' (first | with_reducible exact Fr_refl | refine Fr_upd rfl ?_ | refine Fr_over rfl rfl ?_)
              · exact ⟨(), Sl_nil, ⟨H.pick [0, 1] (by decide), hF⟩⟩
        · rintro _ ρ w2107 ⟨H, hF⟩
          have hF := join_body ek2109 hF
          refine WP_region ?_
          refine RL_do rfl rfl (Do_move (v := .int .i64 g1865) rfl) ?_
          obtain ⟨x2380, e2381, hF⟩ := letO_some hF
          refine RL_do rfl rfl (Do_add (a := g1865) (b := 1) rfl rfl e2381) ?_
          refine RL_do rfl rfl (Do_assign (v := .int .i64 x2380) rfl) ?_
          refine (RL_nil (thenQ_n (And.intro ?_ ?_)))
          · repeat' (first | with_reducible exact Fr_refl | refine Fr_upd rfl ?_ | refine Fr_over rfl rfl ?_)
          · exact ⟨(n1871, x2380), (Sl_cons rfl Sl_nil), ⟨H.pick [0, 1] (by decide), hF⟩, Nat.lt_succ_self _⟩
      · have hF := iteB_f c1890 hF
        refine (WP_exit (thenQ_x (thenQ_x (blockQ_eq (thenQ_n (And.intro ?_ ?_))))))
        · repeat' (first | with_reducible exact Fr_refl | refine Fr_upd rfl ?_ | refine Fr_over rfl rfl ?_)
        · exact ⟨(), Sl_nil, ⟨H.pick [0, 1] (by decide), hF⟩⟩
    · rintro _ ρ w948 ⟨H, hF⟩
      have hF := join_body ek950 hF
      refine WP_seq_k fun K2382 hK2382 => ?_
      refine WP_region ?_
      refine RL_do rfl rfl (Do_assign (v := .slice none 0 0) rfl) ?_
      refine (RL_nil (thenQ_n (hK2382 _ _ ?_)))
      obtain ⟨g3162, hF, hK3165⟩ := bindO_some hF
      refine WP_seqS [8, 9, 10, 11, 46, 47, 48, 49, 50, 51, 52, 53, 54, 55, 56, 57, 58, 59, 60, 61, 62, 63, 64, 65, 66, 67, 68, 69, 70, 71, 72, 73, 74, 75, 76, 77, 78, 79, 80, 81, 82, 83, 84, 85, 86, 87, 88, 89, 90, 91, 92, 93, 94, 95, 96, 97, 98, 99, 100, 101, 102, 103] (fun (g : Value) => [(8, g)]) (fun g wl => Hd O w wl S [.own (Rp.int .u8) g 5 g3162, .fz (.at 0 0 ((Fl.arr 20 (Fl.int .u64)).f G_internal_strconv_uint64pow10))]) ?_ ?_
      · skip
        refine WP_seq_k fun K3166 hK3166 => ?_
        refine WP_region ?_
        refine RL_do rfl rfl (Do_assign (v := .int .i64 0) rfl) ?_
        refine (RL_nil (thenQ_n (hK3166 _ _ ?_)))
        refine WP_block ?_
        have H := own_nil H (Rp.int .u8) 5
        unfold F_ref9_Print_L3 at hF
        obtain ⟨B3942, n3943, eB3944, hF⟩ := loopO_some hF
        refine WP_loopS [8, 9, 10, 11, 46, 47, 48, 49, 50, 51, 52, 53, 54, 55, 56, 57, 58, 59, 60, 61, 62, 63, 64, 65, 66, 67, 68, 69, 70, 71, 72, 73, 74, 75, 76, 77, 78, 79, 80, 81, 82, 83, 84, 85, 86, 87, 88, 89, 90, 91, 92, 93, 94, 95, 96, 97, 98, 99, 100, 101, 102, 103] (fun (g : Nat × (List Int) × Int × Value) => [(8, g.2.2.2), (9, .int .i64 g.2.2.1)]) (fun g wl => Hd O w wl S [.own (Rp.int .u8) g.2.2.2 5 g.2.1, .fz (.sl rFleetRow v1 p0), .fz (.at 0 0 ((Fl.arr 20 (Fl.int .u64)).f G_internal_strconv_uint64pow10))] ∧ loopN B3942 g.1 (g.2.1, g.2.2.1) = some g3162) (fun g => g.1) (n3943, [], 0, .slice none 0 0) (Sl_cons rfl (Sl_cons rfl Sl_nil)) ⟨H.pick [2, 0, 1] (by decide), hF⟩ ?_
        clear H hF
        rintro ⟨n3943, g3938, g3940, v3939⟩ ρ w3946 ⟨H, hF⟩
        obtain ⟨n3947, rfl, hF⟩ := loopN_pos hF
        have hF := loop_body eB3944 hF
        refine WP_seq_k fun K3957 hK3957 => ?_
        refine WP_seq_k fun K3958 hK3958 => ?_
        refine WP_region ?_
        refine RL_do rfl rfl (Do_move (v := .int .i64 g3940) rfl) ?_
        refine RL_do rfl rfl (Do_move (v := v1) rfl) ?_
        obtain ⟨x3959, e3960, hF⟩ := letO_some hF
        obtain ⟨a3961, c3962, q3963⟩ := SlF.len ((H.item (i := 1) rfl))
        refine RL_do rfl rfl (Do_as (Do_len u22 q3963) (congrArg (Value.int .i64) e3960)) ?_
        obtain ⟨x3964, e3965, hF⟩ := letO_some hF
        refine RL_do rfl rfl (Do_as (Do_lss (a := g3940) (b := x3959) rfl rfl) (congrArg Value.bool e3965)) ?_
        refine (RL_nil (thenQ_n (hK3958 _ _ ?_)))
        refine WP_ifb (b := x3964) rfl (fun c3966 => ?_) (fun c3966 => ?_)
        · have hF := iteB_t c3966 hF
          refine (WP_skip (thenQ_n (hK3957 _ _ ?_)))
          obtain ⟨g4324, hF, hK4327⟩ := bindO_some hF
          refine WP_seqS [8, 10, 11, 52, 53, 54, 55, 56, 57, 58, 59, 60, 61, 62, 63, 64, 65, 66, 67, 68, 69, 70, 71, 72, 73, 74, 75, 76, 77, 78, 79, 80, 81, 82, 83, 84, 85, 86, 87, 88, 89, 90, 91, 92, 93, 94, 95, 96, 97, 98, 99, 100, 101, 102, 103] (fun (g : Value) => [(8, g)]) (fun g wl => Hd O w wl S [.own (Rp.int .u8) g 5 g4324, .fz (.sl rFleetRow v1 p0), .fz (.at 0 0 ((Fl.arr 20 (Fl.int .u64)).f G_internal_strconv_uint64pow10))]) ?_ ?_
          · skip
            refine WP_block ?_
            refine WP_seq_k fun K4328 hK4328 => ?_
            refine WP_region ?_
            refine RL_do rfl rfl (Do_move (v := v1) rfl) ?_
            refine RL_do rfl rfl (Do_move (v := .int .i64 g3940) rfl) ?_
            obtain ⟨x4329, e4330, hF⟩ := bindO_some hF
            obtain ⟨b4331, o4332, c4333, cs4334, q4335, h4338, h4336, h4337, h4339⟩ := rd_at (H.item (i := 1) rfl) e4330
            obtain ⟨v4340, rfl, h4341⟩ := rFleetRow_open h4338
            have H := H.fzs [.at b4331 (o4332 + g3940.toNat * 4) _, .sl (Rp.int .i64) v4340 x4329.Events] ⟨⟨h4336, h4337, h4339⟩, h4341, trivial⟩
            refine RL_do rfl rfl (Do_idx u22 sz25 q4335 rfl (at_some e4330).1 (at_some e4330).2.1 rfl rfl) ?_
            refine RL_do rfl rfl (fa25_0 rfl) ?_
            refine RL_do rfl rfl (Do_load one9 rfl (Cells.get (H.item (i := 3) rfl).2.2 (i := 0) rfl)) ?_
            refine RL_do rfl rfl (Do_assign (v := .string (bs x4329.Key)) rfl) ?_
            refine (RL_nil (thenQ_n (hK4328 _ _ ?_)))
            obtain ⟨g4348, hF, hK4350⟩ := bindO_some hF
            refine WP_seqS [10, 57, 58] (fun (g : Unit) => [(10, .string (bs g4348))]) (fun g wl => Hd O w wl S [.own (Rp.int .u8) v3939 5 g3938, .fz (.sl rFleetRow v1 p0), .fz (.at 0 0 ((Fl.arr 20 (Fl.int .u64)).f G_internal_strconv_uint64pow10))]) ?_ ?_
            · skip
              refine WP_seq_k fun K4351 hK4351 => ?_
              refine WP_region ?_
              refine RL_do rfl rfl (Do_move (v := .string (bs x4329.Key)) rfl) ?_
              obtain ⟨x4352, e4353, hF⟩ := letO_some hF
              refine RL_do rfl rfl (Do_as (Do_eqls (s1 := x4329.Key) (s2 := []) rfl rfl) (congrArg Value.bool e4353)) ?_
              refine (RL_nil (thenQ_n (hK4351 _ _ ?_)))
              refine WP_ifb (b := x4352) rfl (fun c4354 => ?_) (fun c4354 => ?_)
              · have hF := iteB_t c4354 hF
                refine WP_region ?_
                refine RL_do rfl rfl (Do_assign (v := .string (bs [45])) rfl) ?_
                have hR := Option.some.inj hF
                subst hR
                refine (RL_nil (thenQ_n (And.intro ?_ ?_)))
                · repeat' (first | with_reducible exact Fr_refl | refine Fr_upd rfl ?_ | refine Fr_over rfl rfl ?_)
                · exact ⟨(), (Sl_cons rfl Sl_nil), H.pick [0, 1, 2] (by decide)⟩
              · have hF := iteB_f c4354 hF
                have hR := Option.some.inj hF
                subst hR
                refine (WP_skip (thenQ_n (And.intro ?_ ?_)))
                · repeat' (first | with_reducible exact Fr_refl | refine Fr_upd rfl ?_ | refine Fr_over rfl rfl ?_)
                · exact ⟨(), (Sl_cons rfl Sl_nil), H.pick [0, 1, 2] (by decide)⟩
            · rintro _ ρ w4349 H
              have hF := hK4350
              refine WP_seq_k fun K4355 hK4355 => ?_
              refine WP_region ?_
              refine RL_do rfl rfl (Do_move (v := v3939) rfl) ?_
              refine RL_do rfl rfl (Do_move (v := .string (bs g4348)) rfl) ?_
              obtain ⟨x4356, e4357, hF⟩ := bindO_some hF
              refine RL_do rfl rfl (Do_cat (s1 := [114, 111, 119, 32]) (s2 := g4348) rfl rfl e4357) ?_
              obtain ⟨x4358, e4359, hF⟩ := bindO_some hF
              refine RL_ex rfl rfl (Lx_appstr H (i := 0) rfl u32 u9 z8_5 rfl rfl e4359) ?_
              rintro v4360 w4361 H
              refine RL_do rfl rfl (Do_assign (v := v4360) rfl) ?_
              refine (RL_nil (thenQ_n (hK4355 _ _ ?_)))
              obtain ⟨g4676, hF, hK4679⟩ := bindO_some hF
              refine WP_seqS [8, 11, 63, 64, 65, 66, 67, 68, 69, 70, 71, 72, 73, 74, 75, 76, 77, 78, 79, 80, 81, 82, 83, 84, 85, 86, 87, 88, 89, 90, 91, 92, 93, 94, 95, 96, 97, 98, 99, 100] (fun (g : Value) => [(8, g)]) (fun g wl => Hd O w wl S [.own (Rp.int .u8) g 5 g4676, .fz (.sl rFleetRow v1 p0), .fz (.at 0 0 ((Fl.arr 20 (Fl.int .u64)).f G_internal_strconv_uint64pow10))]) ?_ ?_
              · skip
                refine WP_seq_k fun K4680 hK4680 => ?_
                refine WP_region ?_
                refine RL_do rfl rfl (Do_move (v := v1) rfl) ?_
                refine RL_do rfl rfl (Do_move (v := .int .i64 g3940) rfl) ?_
                obtain ⟨x4681, e4682, hF⟩ := bindO_some hF
                obtain ⟨b4683, o4684, c4685, cs4686, q4687, h4690, h4688, h4689, h4691⟩ := rd_at (H.item (i := 1) rfl) e4682
                obtain ⟨v4692, rfl, h4693⟩ := rFleetRow_open h4690
                have H := H.fzs [.at b4683 (o4684 + g3940.toNat * 4) _, .sl (Rp.int .i64) v4692 x4681.Events] ⟨⟨h4688, h4689, h4691⟩, h4693, trivial⟩
                refine RL_do rfl rfl (Do_idx u22 sz25 q4687 rfl (at_some e4682).1 (at_some e4682).2.1 rfl rfl) ?_
                refine RL_do rfl rfl (fa25_1 rfl) ?_
                refine RL_do rfl rfl (Do_load one4 rfl (Cells.get (H.item (i := 3) rfl).2.2 (i := 1) rfl)) ?_
                refine (RL_nil (thenQ_n (hK4680 _ _ ?_)))
                refine WP_ifb (b := x4681.Hidden) rfl (fun c4696 => ?_) (fun c4696 => ?_)
                · have hF := iteB_t c4696 hF
                  refine WP_region ?_
                  refine RL_do rfl rfl (Do_move (v := v4360) rfl) ?_
                  obtain ⟨x4697, e4698, hF⟩ := bindO_some hF
                  refine RL_ex rfl rfl (Lx_appstr H (i := 0) rfl u32 u9 z8_5 rfl rfl e4698) ?_
                  rintro v4699 w4700 H
                  refine RL_do rfl rfl (Do_assign (v := v4699) rfl) ?_
                  have hR := Option.some.inj hF
                  subst hR
                  refine (RL_nil (thenQ_n (And.intro ?_ ?_)))
                  · repeat' (first | with_reducible exact Fr_refl | refine Fr_upd rfl ?_ | refine Fr_over rfl rfl ?_)
                  · exact ⟨v4699, (Sl_cons rfl Sl_nil), H.pick [0, 1, 2] (by decide)⟩
                · have hF := iteB_f c4696 hF
                  refine WP_seq_k fun K4701 hK4701 => ?_
                  refine WP_region ?_
                  refine RL_do rfl rfl (Do_move (v := v4360) rfl) ?_
                  refine RL_do rfl rfl (Do_move (v := v1) rfl) ?_
                  refine RL_do rfl rfl (Do_move (v := .int .i64 g3940) rfl) ?_
                  obtain ⟨x4702, e4703, hF⟩ := bindO_some hF
                  obtain ⟨b4704, o4705, c4706, cs4707, q4708, h4711, h4709, h4710, h4712⟩ := rd_at (H.item (i := 1) rfl) e4703
                  obtain ⟨v4713, rfl, h4714⟩ := rFleetRow_open h4711
                  have H := H.fzs [.at b4704 (o4705 + g3940.toNat * 4) _, .sl (Rp.int .i64) v4713 x4702.Events] ⟨⟨h4709, h4710, h4712⟩, h4714, trivial⟩
                  refine RL_do rfl rfl (Do_idx u22 sz25 q4708 rfl (at_some e4703).1 (at_some e4703).2.1 rfl rfl) ?_
                  refine RL_do rfl rfl (fa25_2 rfl) ?_
                  refine RL_do rfl rfl (Do_load one3 rfl (Cells.get (H.item (i := 5) rfl).2.2 (i := 2) rfl)) ?_
                  have H4717 := H
                  obtain ⟨x4718, e4719, hF⟩ := bindO_some hF
                  refine RL_call rfl rfl (DoC_func en38 rfl) (F_strconv_Itoa_w x4702.Flights _ e4719 _ _ _ (H.enter [] [2] (by decide) rfl)) ?_
                  rintro _ w4720 ⟨rfl, G4721⟩
                  have H := H4717.step (G4721.only : Only [] _ _)
                  refine ⟨_, rfl, ?_⟩
                  obtain ⟨x4722, e4723, hF⟩ := bindO_some hF
                  refine RL_do rfl rfl (Do_cat (s1 := [32]) (s2 := x4718) rfl rfl e4723) ?_
                  obtain ⟨x4724, e4725, hF⟩ := bindO_some hF
                  refine RL_ex rfl rfl (Lx_appstr H (i := 0) rfl u32 u9 z8_5 rfl rfl e4725) ?_
                  rintro v4726 w4727 H
                  refine RL_do rfl rfl (Do_assign (v := v4726) rfl) ?_
                  refine (RL_nil (thenQ_n (hK4701 _ _ ?_)))
                  refine WP_seq_k fun K4728 hK4728 => ?_
                  refine WP_region ?_
                  refine RL_do rfl rfl (Do_assign (v := .int .i64 0) rfl) ?_
                  refine (RL_nil (thenQ_n (hK4728 _ _ ?_)))
                  refine WP_block ?_
                  unfold F_ref9_Print_L4 at hF
                  obtain ⟨B4991, n4992, eB4993, hF⟩ := loopO_some hF
                  refine WP_loopS [8, 11, 79, 80, 81, 82, 83, 84, 85, 86, 87, 88, 89, 90, 91, 92, 93, 94, 95, 96, 97, 98, 99, 100] (fun (g : Nat × (List Int) × Int × Value) => [(8, g.2.2.2), (11, .int .i64 g.2.2.1)]) (fun g wl => Hd O w wl S [.own (Rp.int .u8) g.2.2.2 5 g.2.1, .fz (.sl rFleetRow v1 p0), .fz (.at 0 0 ((Fl.arr 20 (Fl.int .u64)).f G_internal_strconv_uint64pow10))] ∧ loopN B4991 g.1 (g.2.1, g.2.2.1) = some g4676) (fun g => g.1) (n4992, x4724, 0, v4726) (Sl_cons rfl (Sl_cons rfl Sl_nil)) ⟨H.pick [0, 1, 2] (by decide), hF⟩ ?_
                  clear H hF
                  rintro ⟨n4992, g4988, g4990, v4989⟩ ρ w4995 ⟨H, hF⟩
                  obtain ⟨n4996, rfl, hF⟩ := loopN_pos hF
                  have hF := loop_body eB4993 hF
                  refine WP_seq_k fun K5021 hK5021 => ?_
                  refine WP_seq_k fun K5022 hK5022 => ?_
                  refine WP_region ?_
                  refine RL_do rfl rfl (Do_move (v := .int .i64 g4990) rfl) ?_
                  refine RL_do rfl rfl (Do_move (v := v1) rfl) ?_
                  refine RL_do rfl rfl (Do_move (v := .int .i64 g3940) rfl) ?_
                  obtain ⟨x5023, e5024, hF⟩ := bindO_some hF
                  obtain ⟨b5025, o5026, c5027, cs5028, q5029, h5032, h5030, h5031, h5033⟩ := rd_at (H.item (i := 1) rfl) e5024
                  obtain ⟨v5034, rfl, h5035⟩ := rFleetRow_open h5032
                  have H := H.fzs [.at b5025 (o5026 + g3940.toNat * 4) _, .sl (Rp.int .i64) v5034 x5023.Events] ⟨⟨h5030, h5031, h5033⟩, h5035, trivial⟩
                  refine RL_do rfl rfl (Do_idx u22 sz25 q5029 rfl (at_some e5024).1 (at_some e5024).2.1 rfl rfl) ?_
                  refine RL_do rfl rfl (fa25_3 rfl) ?_
                  refine RL_do rfl rfl (Do_load one23 rfl (Cells.get (H.item (i := 3) rfl).2.2 (i := 3) rfl)) ?_
                  obtain ⟨x5038, e5039, hF⟩ := letO_some hF
                  obtain ⟨a5040, c5041, q5042⟩ := SlF.len ((H.item (i := 4) rfl))
                  refine RL_do rfl rfl (Do_as (Do_len u23 q5042) (congrArg (Value.int .i64) e5039)) ?_
                  obtain ⟨x5043, e5044, hF⟩ := letO_some hF
                  refine RL_do rfl rfl (Do_as (Do_lss (a := g4990) (b := x5038) rfl rfl) (congrArg Value.bool e5044)) ?_
                  refine (RL_nil (thenQ_n (hK5022 _ _ ?_)))
                  refine WP_ifb (b := x5043) rfl (fun c5045 => ?_) (fun c5045 => ?_)
                  · have hF := iteB_t c5045 hF
                    refine (WP_skip (thenQ_n (hK5021 _ _ ?_)))
                    refine WP_seq_k fun K5084 hK5084 => ?_
                    refine WP_block ?_
                    refine WP_region ?_
                    refine RL_do rfl rfl (Do_move (v := v4989) rfl) ?_
                    refine RL_do rfl rfl (Do_move (v := v1) rfl) ?_
                    refine RL_do rfl rfl (Do_move (v := .int .i64 g3940) rfl) ?_
                    obtain ⟨x5085, e5086, hF⟩ := bindO_some hF
                    obtain ⟨b5087, o5088, c5089, cs5090, q5091, h5094, h5092, h5093, h5095⟩ := rd_at (H.item (i := 1) rfl) e5086
                    obtain ⟨v5096, rfl, h5097⟩ := rFleetRow_open h5094
                    have H := H.fzs [.at b5087 (o5088 + g3940.toNat * 4) _, .sl (Rp.int .i64) v5096 x5085.Events] ⟨⟨h5092, h5093, h5095⟩, h5097, trivial⟩
                    refine RL_do rfl rfl (Do_idx u22 sz25 q5091 rfl (at_some e5086).1 (at_some e5086).2.1 rfl rfl) ?_
                    refine RL_do rfl rfl (fa25_3 rfl) ?_
                    refine RL_do rfl rfl (Do_load one23 rfl (Cells.get (H.item (i := 5) rfl).2.2 (i := 3) rfl)) ?_
                    refine RL_do rfl rfl (Do_move (v := .int .i64 g4990) rfl) ?_
                    obtain ⟨x5100, e5101, hF⟩ := bindO_some hF
                    obtain ⟨b5102, o5103, c5104, cs5105, q5106, h5109, h5107, h5108, h5110⟩ := rd_at (H.item (i := 6) rfl) e5101
                    obtain rfl : cs5105 = [.int .i64 x5100] := h5109
                    have H := H.fz (.at b5102 (o5103 + g4990.toNat * 1) _) ⟨h5107, h5108, h5110⟩
                    refine RL_do rfl rfl (Do_idx u23 sz3 q5106 rfl (at_some e5101).1 (at_some e5101).2.1 rfl rfl) ?_
                    refine RL_do rfl rfl (Do_load one3 rfl (Cells.get (H.item (i := 7) rfl).2.2 (i := 0) rfl)) ?_
                    have H5112 := H
                    obtain ⟨x5113, e5114, hF⟩ := bindO_some hF
                    refine RL_call rfl rfl (DoC_func en38 rfl) (F_strconv_Itoa_w x5100 _ e5114 _ _ _ (H.enter [] [2] (by decide) rfl)) ?_
                    rintro _ w5115 ⟨rfl, G5116⟩
                    have H := H5112.step (G5116.only : Only [] _ _)
                    refine ⟨_, rfl, ?_⟩
                    obtain ⟨x5117, e5118, hF⟩ := bindO_some hF
                    refine RL_do rfl rfl (Do_cat (s1 := [32]) (s2 := x5113) rfl rfl e5118) ?_
                    obtain ⟨x5119, e5120, hF⟩ := bindO_some hF
                    refine RL_ex rfl rfl (Lx_appstr H (i := 0) rfl u32 u9 z8_5 rfl rfl e5120) ?_
                    rintro v5121 w5122 H
                    refine RL_do rfl rfl (Do_assign (v := v5121) rfl) ?_
                    refine (RL_nil (blockQ_n (thenQ_n (hK5084 _ _ ?_))))
                    refine WP_region ?_
                    refine RL_do rfl rfl (Do_move (v := .int .i64 g4990) rfl) ?_
                    obtain ⟨x5123, e5124, hF⟩ := letO_some hF
                    refine RL_do rfl rfl (Do_add (a := g4990) (b := 1) rfl rfl e5124) ?_
                    refine RL_do rfl rfl (Do_assign (v := .int .i64 x5123) rfl) ?_
                    refine (RL_nil (thenQ_n (And.intro ?_ ?_)))
                    · repeat' (first | with_reducible exact Fr_refl | refine Fr_upd rfl ?_ | refine Fr_over rfl rfl ?_)
                    · exact ⟨(n4996, x5119, x5123, v5121), (Sl_cons rfl (Sl_cons rfl Sl_nil)), ⟨H.pick [0, 1, 2] (by decide), hF⟩, Nat.lt_succ_self _⟩
                  · have hF := iteB_f c5045 hF
                    have hR := Option.some.inj hF
                    subst hR
                    refine (WP_exit (thenQ_x (thenQ_x (blockQ_eq (thenQ_n (And.intro ?_ ?_))))))
                    · repeat' (first | with_reducible exact Fr_refl | refine Fr_upd rfl ?_ | refine Fr_over rfl rfl ?_)
                    · exact ⟨v4989, (Sl_cons rfl Sl_nil), H.pick [0, 1, 2] (by decide)⟩
              · rintro v4677 ρ w4678 H
                have hF := hK4679
                refine WP_region ?_
                refine RL_do rfl rfl (Do_move (v := v4677) rfl) ?_
                obtain ⟨x5125, e5126, hF⟩ := letO_some hF
                subst e5126
                refine RL_ex rfl rfl (Lx_bs (r := (Rp.int .u8)) (xl := [10]) (cs := [.int .u8 10]) u32 el5 (by decide) (by decide) rfl (fillB_parts (vs := [.int .u8 10]) (by decide) rfl rfl ⟨rfl, trivial⟩ rfl) H ⟨[.int .u8 10], [], rfl, rfl, rfl⟩) ?_
                rintro v5128 w5129 H
                obtain ⟨x5130, e5131, hF⟩ := bindO_some hF
                refine RL_ex rfl rfl (Lx_app H (i := 0) rfl u32 el5 rfl rfl (Sr.of_own (H.item (i := 3) rfl)) e5131) ?_
                rintro v5132 w5133 H
                refine RL_do rfl rfl (Do_assign (v := v5132) rfl) ?_
                have hR := Option.some.inj hF
                subst hR
                refine (RL_nil (blockQ_n (thenQ_n (And.intro ?_ ?_))))
                · repeat' (first | with_reducible exact Fr_refl | refine Fr_upd rfl ?_ | refine Fr_over rfl rfl ?_)
                · exact ⟨v5132, (Sl_cons rfl Sl_nil), H.pick [0, 1, 2] (by decide)⟩
          · rintro v4325 ρ w4326 H
            have hF := hK4327
            refine WP_region ?_
            refine RL_do rfl rfl (Do_move (v := .int .i64 g3940) rfl) ?_
            obtain ⟨x5134, e5135, hF⟩ := letO_some hF
            refine RL_do rfl rfl (Do_add (a := g3940) (b := 1) rfl rfl e5135) ?_
            refine RL_do rfl rfl (Do_assign (v := .int .i64 x5134) rfl) ?_
            refine (RL_nil (thenQ_n (And.intro ?_ ?_)))
            · repeat' (first | with_reducible exact Fr_refl | refine Fr_upd rfl ?_ | refine Fr_over rfl rfl ?_)
            · exact ⟨(n3947, g4324, x5134, v4325), (Sl_cons rfl (Sl_cons rfl Sl_nil)), ⟨H.pick [0, 1, 2] (by decide), hF⟩, Nat.lt_succ_self _⟩
        · have hF := iteB_f c3966 hF
          have hR := Option.some.inj hF
          subst hR
          refine (WP_exit (thenQ_x (thenQ_x (blockQ_eq (thenQ_n (And.intro ?_ ?_))))))
          · repeat' (first | with_reducible exact Fr_refl | refine Fr_upd rfl ?_ | refine Fr_over rfl rfl ?_)
          · exact ⟨v3939, (Sl_cons rfl Sl_nil), H.pick [0, 2] (by decide)⟩
      · rintro v3163 ρ w3164 H
        have hF := hK3165
        refine WP_seq_k fun K5146 hK5146 => ?_
        refine WP_seq_k fun K5147 hK5147 => ?_
        refine WP_region ?_
        refine RL_do rfl rfl (Do_move (v := v3163) rfl) ?_
        obtain ⟨x5148, e5149, hF⟩ := letO_some hF
        obtain ⟨a5150, c5151, q5152⟩ := Sr.len (Sr.of_own (H.item (i := 0) rfl))
        refine RL_do rfl rfl (Do_as (Do_len u32 q5152) (congrArg (Value.int .i64) e5149)) ?_
        obtain ⟨x5153, e5154, hF⟩ := letO_some hF
        refine RL_do rfl rfl (Do_as (Do_gtr (a := x5148) (b := 1000000) rfl rfl) (congrArg Value.bool e5154)) ?_
        refine (RL_nil (thenQ_n (hK5147 _ _ ?_)))
        refine WP_ifb (b := x5153) rfl (fun c5155 => ?_) (fun c5155 => ?_)
        · have hF := iteB_t c5155 hF
          refine WP_seq_k fun K5156 hK5156 => ?_
          refine WP_region ?_
          refine RL_do rfl rfl (Do_assign (v := .string (bs [])) rfl) ?_
          refine RL_do rfl rfl (Do_assign (v := .int .i64 3) rfl) ?_
          refine (RL_nil (thenQ_n (hK5156 _ _ ?_)))
          have hR := Option.some.inj hF
          subst hR
          refine (WP_ret (thenQ_r (post2 (v1 := .string (bs [])) (v2 := .int .i64 3) rfl rfl rfl ?_)))
          exact ⟨rfl, H.pick [] (by decide)⟩
        · have hF := iteB_f c5155 hF
          refine (WP_skip (thenQ_n (hK5146 _ _ ?_)))
          refine WP_seq_k fun K5157 hK5157 => ?_
          refine WP_region ?_
          refine RL_do rfl rfl (Do_move (v := v3163) rfl) ?_
          obtain ⟨x5158, e5159, hF⟩ := letO_some hF
          refine RL_do rfl rfl (Do_as (Do_bytestr (xl := g3162) u32 u5 u9 rfl (Sr.of_own (H.item (i := 0) rfl))) (congrArg (fun s => Value.string (bs s)) e5159)) ?_
          refine RL_do rfl rfl (Do_assign (v := .string (bs x5158)) rfl) ?_
          refine RL_do rfl rfl (Do_assign (v := .int .i64 0) rfl) ?_
          refine (RL_nil (thenQ_n (hK5157 _ _ ?_)))
          have hR := Option.some.inj hF
          subst hR
          refine (WP_ret (post2 (v1 := .string (bs x5158)) (v2 := .int .i64 0) rfl rfl rfl ?_))
          exact ⟨rfl, H.pick [] (by decide)⟩
end Go.Proofs.YtbjhondbheijiaaDoor.L
namespace Go.Proofs.YtbjhondbheijiaaDoor.L
open Go.RowKit Go.OB Go.Lf
/- orangebox/orangeboxlaw9.totals -/
set_option maxHeartbeats 4000000 in
theorem F_law9_totals_w (r : Bool) (hF : F_law9_totals = some r) (O S : List Nat) (w : World) (H : Hd O w w S []) :
    Calls Tryd.prog 17 ([] : List Value).toArray w fun e w' => e = .returned (.bool r) ∧ Hd O w w' S [] := by
  unfold F_law9_totals at hF
  refine calls_of_WP 32 Tryd.func17 rfl rfl rfl ?_
  refine WP_seq_k fun K1 hK1 => ?_
  refine WP_region ?_
  refine RL_do rfl rfl (Do_assign (v := .bool false) rfl) ?_
  refine (RL_nil (thenQ_n (hK1 _ _ ?_)))
  refine WP_seq_k fun K2 hK2 => ?_
  refine WP_region ?_
  obtain ⟨x3, e4, hF⟩ := letO_some hF
  subst e4
  refine RL_ex rfl rfl (Lx_bs (r := (Rp.int .i64)) (xl := [1]) (cs := [.int .i64 1]) u23 el3 (by decide) (by decide) rfl (fillB_parts (vs := [.int .i64 1]) (by decide) rfl rfl ⟨rfl, trivial⟩ rfl) H ⟨[.int .i64 1], [], rfl, rfl, rfl⟩) ?_
  rintro v6 w7 H
  obtain ⟨a8, c9, q10⟩ := Sr.len (Sr.of_own (H.item (i := 0) rfl))
  refine RL_do rfl rfl (Do_build (cs := [.string (bs [97]), .bool false, .int .i64 2, v6]) (by rw [q10]; exact bt25_0_2_3 _ _ a8 _ c9)) ?_
  obtain ⟨x11, e12, hF⟩ := letO_some hF
  subst e12
  refine RL_ex rfl rfl (Lx_bs (r := (Rp.int .i64)) (xl := [4]) (cs := [.int .i64 4]) u23 el3 (by decide) (by decide) rfl (fillB_parts (vs := [.int .i64 4]) (by decide) rfl rfl ⟨rfl, trivial⟩ rfl) H ⟨[.int .i64 4], [], rfl, rfl, rfl⟩) ?_
  rintro v14 w15 H
  obtain ⟨a16, c17, q18⟩ := Sr.len (Sr.of_own (H.item (i := 1) rfl))
  refine RL_do rfl rfl (Do_build (cs := [.string (bs [98]), .bool false, .int .i64 3, v14]) (by rw [q18]; exact bt25_0_2_3 _ _ a16 _ c17)) ?_
  have H := H.freeze (i := 0) rfl
  have H := H.freeze (i := 1) rfl
  obtain ⟨x19, e20, hF⟩ := letO_some hF
  subst e20
  refine RL_ex rfl rfl (Lx_bs (r := rFleetRow) (xl := [FleetRow.mk [97] false 2 ([1] : List Int), FleetRow.mk [98] false 3 ([4] : List Int)]) (cs := [.string (bs [97]), .bool false, .int .i64 2, v6, .string (bs [98]), .bool false, .int .i64 3, v14]) u22 el25 (by decide) (by decide) rfl (fillB_parts (vs := [.agg [.string (bs [97]), .bool false, .int .i64 2, v6].toArray, .agg [.string (bs [98]), .bool false, .int .i64 3, v14].toArray]) (by decide) rfl rfl ⟨rfl, rfl, trivial⟩ rfl) H ⟨[.string (bs [97]), .bool false, .int .i64 2, v6], [.string (bs [98]), .bool false, .int .i64 3, v14], rfl, (rFleetRow_mk (x := FleetRow.mk [97] false 2 ([1] : List Int)) (H.item (i := 0) rfl)), ⟨[.string (bs [98]), .bool false, .int .i64 3, v14], [], rfl, (rFleetRow_mk (x := FleetRow.mk [98] false 3 ([4] : List Int)) (H.item (i := 1) rfl)), rfl⟩⟩) ?_
  rintro v22 w23 H
  have H := H.freeze (i := 2) rfl
  obtain ⟨⟨x24, x25⟩, e26, hF⟩ := bindO_some hF
  refine RL_call rfl rfl (DoC_func en5 rfl) (F_fleet_Total_w ([FleetRow.mk [97] false 2 ([1] : List Int), FleetRow.mk [98] false 3 ([4] : List Int)] : List FleetRow) v22 _ e26 _ _ _ (H.enter [] [2] (by decide) rfl)) ?_
  rintro _ w29 ⟨v27, rfl, G30⟩
  have H := H.back1 [2] rfl G30
  refine ⟨_, rfl, ?_⟩
  refine RL_do rfl rfl (Do_move (v := .tuple #[.agg [.string (bs x24.Key), .bool x24.Hidden, .int .i64 x24.Flights, v27].toArray, .int .i64 x25]) rfl) ?_
  refine RL_do rfl rfl (Do_extract (v := .agg [.string (bs x24.Key), .bool x24.Hidden, .int .i64 x24.Flights, v27].toArray) rfl rfl) ?_
  refine RL_do rfl rfl (Do_extract (v := .int .i64 x25) rfl rfl) ?_
  refine RL_ex rfl rfl (Lx_alloc zero25 H) ?_
  rintro _ w33 ⟨b31, rfl, H⟩
  refine RL_exU rfl (Lx_storeN (vs := [.string (bs x24.Key), .bool x24.Hidden, .int .i64 x24.Flights, v27]) H 4 rfl sz25 rfl rfl rfl ⟨rfl, rfl, rfl, (slf_one (H.item (i := 3) rfl)), trivial⟩ rfl) ?_
  rintro w34 H
  refine RL_do rfl rfl (Do_assign (v := .int .i64 x25) rfl) ?_
  refine (RL_nil (thenQ_n (hK2 _ _ ?_)))
  obtain ⟨g63, hF, hK65⟩ := bindO_some hF
  refine WP_seqS [0, 12, 13, 14, 15, 16, 17, 18, 19, 20, 21, 22, 23, 24, 25, 26, 27, 28, 29, 30, 31] (fun (g : Unit) => [(0, .bool g63)]) (fun g wl => Hd O w wl S []) ?_ ?_
  · skip
    refine WP_region ?_
    refine RL_do rfl rfl (Do_move (v := .int .i64 x25) rfl) ?_
    obtain ⟨x66, e67, hF⟩ := letO_some hF
    refine RL_do rfl rfl (Do_as (Do_eql (a := x25) (b := 0) rfl rfl) (congrArg Value.bool e67)) ?_
    refine RL_splitb (b := x66) rfl rfl rfl (fun c68 => ?_) (fun c68 => ?_)
    · have hF := iteB_t c68 hF
      refine RL_do rfl rfl (fa25_2 rfl) ?_
      refine RL_do rfl rfl (Do_load one3 rfl (Cells.get (Blk.cells (H.item (i := 4) rfl)) (i := 2) rfl)) ?_
      obtain ⟨x69, e70, hF⟩ := letO_some hF
      refine RL_do rfl rfl (Do_as (Do_eql (a := x24.Flights) (b := 5) rfl rfl) (congrArg Value.bool e70)) ?_
      refine RL_do rfl rfl (Do_pick_t (v := .bool x69) rfl rfl) ?_
      refine RL_splitb (b := x69) rfl rfl rfl (fun c71 => ?_) (fun c71 => ?_)
      · have hF := iteB_t c71 hF
        refine RL_do rfl rfl (fa25_3 rfl) ?_
        refine RL_do rfl rfl (Do_load one23 rfl (Cells.get (Blk.cells (H.item (i := 4) rfl)) (i := 3) rfl)) ?_
        obtain ⟨x72, e73, hF⟩ := letO_some hF
        obtain ⟨a74, c75, q76⟩ := SlF.len ((H.item (i := 3) rfl))
        refine RL_do rfl rfl (Do_as (Do_len u23 q76) (congrArg (Value.int .i64) e73)) ?_
        obtain ⟨x77, e78, hF⟩ := letO_some hF
        refine RL_do rfl rfl (Do_as (Do_eql (a := x72) (b := 1) rfl rfl) (congrArg Value.bool e78)) ?_
        refine RL_do rfl rfl (Do_pick_t (v := .bool x77) rfl rfl) ?_
        refine RL_splitb (b := x77) rfl rfl rfl (fun c79 => ?_) (fun c79 => ?_)
        · have hF := iteB_t c79 hF
          refine RL_do rfl rfl (fa25_3 rfl) ?_
          refine RL_do rfl rfl (Do_load one23 rfl (Cells.get (Blk.cells (H.item (i := 4) rfl)) (i := 3) rfl)) ?_
          obtain ⟨x80, e81, hF⟩ := bindO_some hF
          obtain ⟨b82, o83, c84, cs85, q86, h89, h87, h88, h90⟩ := rd_at (H.item (i := 3) rfl) e81
          obtain rfl : cs85 = [.int .i64 x80] := h89
          have H := H.fz (.at b82 (o83 + (0 : Int).toNat * 1) _) ⟨h87, h88, h90⟩
          refine RL_do rfl rfl (Do_idx u23 sz3 q86 rfl (at_some e81).1 (at_some e81).2.1 rfl rfl) ?_
          refine RL_do rfl rfl (Do_load one3 rfl (Cells.get (H.item (i := 5) rfl).2.2 (i := 0) rfl)) ?_
          obtain ⟨x92, e93, hF⟩ := letO_some hF
          refine RL_do rfl rfl (Do_as (Do_eql (a := x80) (b := 5) rfl rfl) (congrArg Value.bool e93)) ?_
          refine RL_do rfl rfl (Do_pick_t (v := .bool x92) rfl rfl) ?_
          refine RL_do rfl rfl (Do_assign (v := .bool x92) rfl) ?_
          have hR := Option.some.inj hF
          subst hR
          refine (RL_nil (thenQ_n (And.intro ?_ ?_)))
          · repeat' (first | with_reducible exact Fr_refl | refine Fr_upd rfl ?_ | refine Fr_over rfl rfl ?_)
          · exact ⟨(), (Sl_cons rfl Sl_nil), H.pick [] (by decide)⟩
        · have hF := iteB_f c79 hF
          refine RL_off rfl rfl ?_
          refine RL_off rfl rfl ?_
          refine RL_off rfl rfl ?_
          refine RL_off rfl rfl ?_
          refine RL_off rfl rfl ?_
          refine RL_do rfl rfl (Do_pick_f (v := .bool false) rfl rfl) ?_
          refine RL_do rfl rfl (Do_assign (v := .bool false) rfl) ?_
          have hR := Option.some.inj hF
          subst hR
          refine (RL_nil (thenQ_n (And.intro ?_ ?_)))
          · repeat' (first | with_reducible exact Fr_refl | refine Fr_upd rfl ?_ | refine Fr_over rfl rfl ?_)
          · exact ⟨(), (Sl_cons rfl Sl_nil), H.pick [] (by decide)⟩
      · have hF := iteB_f c71 hF
        refine RL_off rfl rfl ?_
        refine RL_off rfl rfl ?_
        refine RL_off rfl rfl ?_
        refine RL_off rfl rfl ?_
        refine RL_do rfl rfl (Do_pick_f (v := .bool false) rfl rfl) ?_
        refine RL_do rfl rfl (Do_move (v := .bool false) rfl) ?_
        refine RL_off rfl rfl ?_
        refine RL_off rfl rfl ?_
        refine RL_off rfl rfl ?_
        refine RL_off rfl rfl ?_
        refine RL_off rfl rfl ?_
        refine RL_do rfl rfl (Do_pick_f (v := .bool false) rfl rfl) ?_
        refine RL_do rfl rfl (Do_assign (v := .bool false) rfl) ?_
        have hR := Option.some.inj hF
        subst hR
        refine (RL_nil (thenQ_n (And.intro ?_ ?_)))
        · repeat' (first | with_reducible exact Fr_refl | refine Fr_upd rfl ?_ | refine Fr_over rfl rfl ?_)
        · exact ⟨(), (Sl_cons rfl Sl_nil), H.pick [] (by decide)⟩
    · have hF := iteB_f c68 hF
      refine RL_off rfl rfl ?_
      refine RL_off rfl rfl ?_
      refine RL_off rfl rfl ?_
      refine RL_do rfl rfl (Do_pick_f (v := .bool false) rfl rfl) ?_
      refine RL_do rfl rfl (Do_move (v := .bool false) rfl) ?_
      refine RL_off rfl rfl ?_
      refine RL_off rfl rfl ?_
      refine RL_off rfl rfl ?_
      refine RL_off rfl rfl ?_
      refine RL_do rfl rfl (Do_pick_f (v := .bool false) rfl rfl) ?_
      refine RL_do rfl rfl (Do_move (v := .bool false) rfl) ?_
      refine RL_off rfl rfl ?_
      refine RL_off rfl rfl ?_
      refine RL_off rfl rfl ?_
      refine RL_off rfl rfl ?_
      refine RL_off rfl rfl ?_
      refine RL_do rfl rfl (Do_pick_f (v := .bool false) rfl rfl) ?_
      refine RL_do rfl rfl (Do_assign (v := .bool false) rfl) ?_
      have hR := Option.some.inj hF
      subst hR
      refine (RL_nil (thenQ_n (And.intro ?_ ?_)))
      · repeat' (first | with_reducible exact Fr_refl | refine Fr_upd rfl ?_ | refine Fr_over rfl rfl ?_)
      · exact ⟨(), (Sl_cons rfl Sl_nil), H.pick [] (by decide)⟩
  · rintro _ ρ w64 H
    have hF := hK65
    have hR := Option.some.inj hF
    subst hR
    refine (WP_ret (post1 (v1 := .bool g63) rfl rfl ?_))
    exact ⟨rfl, H.pick [] (by decide)⟩
end Go.Proofs.YtbjhondbheijiaaDoor.L
