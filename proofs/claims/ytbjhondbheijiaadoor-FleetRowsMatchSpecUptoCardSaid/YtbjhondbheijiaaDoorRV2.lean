/- Walks: what each function computes, for every argument; no condition but those that stand in the statements. -/
import Derived.Test.YtbjhondbheijiaaDoorRV0
import Derived.Test.YtbjhondbheijiaaDoorRV1
namespace Go.Proofs.YtbjhondbheijiaaDoor.L
open Go.RowKit Go.OB Go.Lf
/- (*orangebox/orangeboxref0.Ink).Rows -/
set_option maxHeartbeats 4000000 in
theorem F_ref0_Ink_Rows_w (p0 : Orangeboxref0Ink) (p1 : List FleetRow) (b1 : Nat) (v2 : Value) (v5 : Value) (r : Orangeboxref0Ink) (hF : F_ref0_Ink_Rows p0 p1 = some r) (O S : List Nat) (w : World) (H : Hd O w w S [.own (Rp.int .u8) v2 5 p0.out, .blk b1 [v2] 34, .fz (.sl rFleetRow v5 p1), .fz (.at 0 0 ((Fl.arr 20 (Fl.int .u64)).f G_internal_strconv_uint64pow10))]) :
    Calls Tryd.prog 33 ([.pointer (some ⟨b1, 0, none⟩), v5] : List Value).toArray w fun e w' => ∃ u8, e = .returned (.tuple #[]) ∧ Hd O w w' S [.own (Rp.int .u8) u8 5 r.out, .blk b1 [u8] 34] := by
  unfold F_ref0_Ink_Rows at hF
  refine calls_of_WP 21 Tryd.func33 rfl rfl rfl ?_
  refine WP_seq_k fun K9 hK9 => ?_
  refine WP_region ?_
  refine RL_do rfl rfl (Do_move (v := .pointer (some ⟨b1, 0, none⟩)) rfl) ?_
  refine RL_do rfl rfl (Do_move (v := v5) rfl) ?_
  obtain ⟨x10, e11, hF⟩ := letO_some hF
  obtain ⟨a12, c13, q14⟩ := SlF.len ((H.item (i := 2) rfl))
  refine RL_do rfl rfl (Do_as (Do_len u22 q14) (congrArg (Value.int .i64) e11)) ?_
  obtain ⟨x15, e16, hF⟩ := bindO_some hF
  refine RL_call rfl rfl (DoC_func en35 rfl) (F_ref0_Ink_Int_w p0 x10 b1 v2 _ e16 _ _ _ (H.enter [0, 1] [3] (by decide) rfl)) ?_
  rintro _ w19 ⟨v17, rfl, G20⟩
  have H : Hd O _ w19 _ [.fz (.sl rFleetRow v5 p1), .fz (.at 0 0 ((Fl.arr 20 (Fl.int .u64)).f G_internal_strconv_uint64pow10)), .own (Rp.int .u8) v17 5 x15.out, .blk b1 [v17] 34] := H.back [0, 1] [3] rfl G20
  refine ⟨_, rfl, ?_⟩
  refine (RL_nil (thenQ_n (hK9 _ _ ?_)))
  refine WP_seq_k fun K21 hK21 => ?_
  refine WP_region ?_
  refine RL_do rfl rfl (Do_assign (v := .int .i64 0) rfl) ?_
  refine (RL_nil (thenQ_n (hK21 _ _ ?_)))
  refine WP_block ?_
  unfold F_ref0_Ink_Rows_L1 at hF
  obtain ⟨B158, n159, eB160, hF⟩ := loopO_some hF
  refine WP_loopS [4, 9, 10, 11, 12, 13, 14, 15, 16, 17, 18, 19, 20] (fun (g : Nat × Int × (List Int) × Value) => [(4, .int .i64 g.2.1)]) (fun g wl => Hd O w wl S [.fz (.sl rFleetRow v5 p1), .fz (.at 0 0 ((Fl.arr 20 (Fl.int .u64)).f G_internal_strconv_uint64pow10)), .blk b1 [g.2.2.2] 34, .own (Rp.int .u8) g.2.2.2 5 g.2.2.1] ∧ loopN B158 g.1 (g.2.1, g.2.2.1) = some r) (fun g => g.1) (n159, 0, x15.out, v17) (Sl_cons rfl Sl_nil) ⟨H.pick [0, 1, 3, 2] (by decide), hF⟩ ?_
  clear H hF
  rintro ⟨n159, g154, g156, v157⟩ ρ w162 ⟨H, hF⟩
  obtain ⟨n163, rfl, hF⟩ := loopN_pos hF
  have hF := loop_body eB160 hF
  refine WP_seq_k fun K173 hK173 => ?_
  refine WP_seq_k fun K174 hK174 => ?_
  refine WP_region ?_
  refine RL_do rfl rfl (Do_move (v := .int .i64 g154) rfl) ?_
  refine RL_do rfl rfl (Do_move (v := v5) rfl) ?_
  obtain ⟨x175, e176, hF⟩ := letO_some hF
  obtain ⟨a177, c178, q179⟩ := SlF.len ((H.item (i := 0) rfl))
  refine RL_do rfl rfl (Do_as (Do_len u22 q179) (congrArg (Value.int .i64) e176)) ?_
  obtain ⟨x180, e181, hF⟩ := letO_some hF
  refine RL_do rfl rfl (Do_as (Do_lss (a := g154) (b := x175) rfl rfl) (congrArg Value.bool e181)) ?_
  refine (RL_nil (thenQ_n (hK174 _ _ ?_)))
  refine WP_ifb (b := x180) rfl (fun c182 => ?_) (fun c182 => ?_)
  · have hF := iteB_t c182 hF
    refine (WP_skip (thenQ_n (hK173 _ _ ?_)))
    refine WP_seq_k fun K204 hK204 => ?_
    refine WP_block ?_
    refine WP_region ?_
    refine RL_do rfl rfl (Do_move (v := .pointer (some ⟨b1, 0, none⟩)) rfl) ?_
    refine RL_do rfl rfl (Do_move (v := v5) rfl) ?_
    refine RL_do rfl rfl (Do_move (v := .int .i64 g154) rfl) ?_
    obtain ⟨x205, e206, hF⟩ := bindO_some hF
    obtain ⟨b207, o208, c209, cs210, q211, h214, h212, h213, h215⟩ := rd_at (H.item (i := 0) rfl) e206
    obtain ⟨v216, rfl, h217⟩ := rFleetRow_open h214
    have H := H.fzs [.at b207 (o208 + g154.toNat * 4) _, .sl (Rp.int .i64) v216 x205.Events] ⟨⟨h212, h213, h215⟩, h217, trivial⟩
    refine RL_do rfl rfl (Do_idx u22 sz25 q211 rfl (at_some e206).1 (at_some e206).2.1 rfl rfl) ?_
    refine RL_do rfl rfl (Do_as (Do_loads (cs := [.string (bs x205.Key), .bool x205.Hidden, .int .i64 x205.Flights, v216]) agg25 rfl sz25 rfl (H.item (i := 4) rfl).2.2) rfl) ?_
    obtain ⟨x220, e221, hF⟩ := bindO_some hF
    refine RL_call rfl rfl (DoC_func en55 rfl) (F_ref0_Ink_Row_w (Orangeboxref0Ink.mk g156) x205 b1 v157 v216 _ e221 _ _ _ (H.enter [3, 2] [5, 1] (by decide) rfl)) ?_
    rintro _ w224 ⟨v222, rfl, G225⟩
    have H : Hd O _ w224 _ [.fz (.sl rFleetRow v5 p1), .fz (.at 0 0 ((Fl.arr 20 (Fl.int .u64)).f G_internal_strconv_uint64pow10)), .fz (.at b207 (o208 + g154.toNat * 4) [.string (bs x205.Key), .bool x205.Hidden, .int .i64 x205.Flights, v216]), .fz (.sl (Rp.int .i64) v216 x205.Events), .own (Rp.int .u8) v222 5 x220.out, .blk b1 [v222] 34] := H.back [3, 2] [5, 1] rfl G225
    refine ⟨_, rfl, ?_⟩
    refine (RL_nil (blockQ_n (thenQ_n (hK204 _ _ ?_))))
    refine WP_region ?_
    refine RL_do rfl rfl (Do_move (v := .int .i64 g154) rfl) ?_
    obtain ⟨x226, e227, hF⟩ := letO_some hF
    refine RL_do rfl rfl (Do_add (a := g154) (b := 1) rfl rfl e227) ?_
    refine RL_do rfl rfl (Do_assign (v := .int .i64 x226) rfl) ?_
    refine (RL_nil (thenQ_n (And.intro ?_ ?_)))
    · repeat' (first | with_reducible exact Fr_refl | refine Fr_upd rfl ?_ | refine Fr_over rfl rfl ?_)
    · exact ⟨(n163, x226, x220.out, v222), (Sl_cons rfl Sl_nil), ⟨H.pick [0, 1, 5, 4] (by decide), hF⟩, Nat.lt_succ_self _⟩
  · have hF := iteB_f c182 hF
    have hR := Option.some.inj hF
    subst hR
    refine (WP_exit (thenQ_x (thenQ_x (blockQ_eq (post0n rfl ?_)))))
    exact ⟨v157, rfl, H.pick [3, 2] (by decide)⟩
end Go.Proofs.YtbjhondbheijiaaDoor.L
namespace Go.Proofs.YtbjhondbheijiaaDoor.L
open Go.RowKit Go.OB Go.Lf
/- orangebox/orangeboxlaw9.rows -/
set_option maxHeartbeats 4000000 in
theorem F_law9_rows_w (p0 : List FleetRow) (p1 : Int) (v1 : Value) (r : Str) (hF : F_law9_rows p0 p1 = some r) (O S : List Nat) (w : World) (H : Hd O w w S [.fz (.sl rFleetRow v1 p0), .fz (.at 0 0 ((Fl.arr 20 (Fl.int .u64)).f G_internal_strconv_uint64pow10))]) :
    Calls Tryd.prog 9 ([v1, .int .i64 p1] : List Value).toArray w fun e w' => e = .returned (.string (bs r)) ∧ Hd O w w' S [] := by
  unfold F_law9_rows at hF
  refine calls_of_WP 16 Tryd.func9 rfl rfl rfl ?_
  refine WP_seq_k fun K4 hK4 => ?_
  refine WP_region ?_
  refine RL_do rfl rfl (Do_assign (v := .string (bs [])) rfl) ?_
  refine (RL_nil (thenQ_n (hK4 _ _ ?_)))
  refine WP_seq_k fun K5 hK5 => ?_
  refine WP_region ?_
  refine RL_do rfl rfl (Do_build (cs := [.slice none 0 0]) bz34) ?_
  refine RL_ex rfl rfl (Lx_box (cs := [.slice none 0 0]) rfl H) ?_
  rintro _ w8 ⟨b6, rfl, H⟩
  refine RL_do rfl rfl (Do_assign (v := .pointer (some ⟨b6, 0, none⟩)) rfl) ?_
  refine (RL_nil (thenQ_n (hK5 _ _ ?_)))
  refine WP_seq_k fun K9 hK9 => ?_
  refine WP_region ?_
  refine RL_do rfl rfl (Do_move (v := .pointer (some ⟨b6, 0, none⟩)) rfl) ?_
  refine RL_do rfl rfl (Do_move (v := v1) rfl) ?_
  have H := own_nil H (Rp.int .u8) 5
  obtain ⟨x11, e12, hF⟩ := bindO_some hF
  refine RL_call rfl rfl (DoC_func en33 rfl) (F_ref0_Ink_Rows_w (Orangeboxref0Ink.mk []) p0 b6 (.slice none 0 0) v1 _ e12 _ _ _ (H.enter [3, 2] [0, 1] (by decide) rfl)) ?_
  rintro _ w15 ⟨v13, rfl, G16⟩
  have H : Hd O _ w15 _ [.fz (.sl rFleetRow v1 p0), .fz (.at 0 0 ((Fl.arr 20 (Fl.int .u64)).f G_internal_strconv_uint64pow10)), .own (Rp.int .u8) v13 5 x11.out, .blk b6 [v13] 34] := H.back [3, 2] [0, 1] rfl G16
  refine ⟨_, rfl, ?_⟩
  refine (RL_nil (thenQ_n (hK9 _ _ ?_)))
  refine WP_seq_k fun K17 hK17 => ?_
  refine WP_region ?_
  refine RL_do rfl rfl (Do_move (v := .pointer (some ⟨b6, 0, none⟩)) rfl) ?_
  refine RL_do rfl rfl (Do_move (v := .int .i64 p1) rfl) ?_
  obtain ⟨x18, e19, hF⟩ := bindO_some hF
  refine RL_call rfl rfl (DoC_func en13 rfl) (F_ref0_Ink_Errno_w x11 p1 b6 v13 _ e19 _ _ _ (H.enter [2, 3] [1] (by decide) rfl)) ?_
  rintro _ w22 ⟨v20, rfl, G23⟩
  have H : Hd O _ w22 _ [.fz (.sl rFleetRow v1 p0), .fz (.at 0 0 ((Fl.arr 20 (Fl.int .u64)).f G_internal_strconv_uint64pow10)), .own (Rp.int .u8) v20 5 x18.out, .blk b6 [v20] 34] := H.back [2, 3] [1] rfl G23
  refine ⟨_, rfl, ?_⟩
  refine (RL_nil (thenQ_n (hK17 _ _ ?_)))
  refine WP_seq_k fun K24 hK24 => ?_
  refine WP_region ?_
  refine RL_do rfl rfl (Do_move (v := .pointer (some ⟨b6, 0, none⟩)) rfl) ?_
  have H25 := H
  have H := H.freezeB (i := 3) rfl
  have H := H.freeze (i := 2) rfl
  have H := H.fz (.pt rOrangeboxref0Ink (some ⟨b6, 0, none⟩) (some x18)) ⟨_, _, _, rfl, (H.item (i := 3) rfl).1, (H.item (i := 3) rfl).2.1, (rOrangeboxref0Ink_mk (x := x18) (H.item (i := 2) rfl)), (H.item (i := 3) rfl).2.2⟩
  obtain ⟨x27, e28, hF⟩ := bindO_some hF
  refine RL_call rfl rfl (DoC_func en16 rfl) (F_ref0_Ink_Told_w (some x18) (some ⟨b6, 0, none⟩) _ e28 _ _ _ (H.enter [] [4] (by decide) rfl)) ?_
  rintro _ w29 ⟨rfl, G30⟩
  have H := H25.step (G30.only : Only [] _ _)
  refine ⟨_, rfl, ?_⟩
  refine RL_do rfl rfl (Do_assign (v := .string (bs x27)) rfl) ?_
  refine (RL_nil (thenQ_n (hK24 _ _ ?_)))
  have hR := Option.some.inj hF
  subst hR
  refine (WP_ret (post1 (v1 := .string (bs x27)) rfl rfl ?_))
  exact ⟨rfl, H.pick [] (by decide)⟩
end Go.Proofs.YtbjhondbheijiaaDoor.L
namespace Go.Proofs.YtbjhondbheijiaaDoor.L
open Go.RowKit Go.OB Go.Lf
/- orangebox/fleet.Reveals$1 -/
set_option maxHeartbeats 4000000 in
theorem F_fleet_Reveals_1_w (p0 : FleetRow) (c0 : FleetRow) (v1 : Value) (b3 : Nat) (v4 : Value) (r : Bool) (hF : F_fleet_Reveals_1 p0 c0 = some r) (O S : List Nat) (w : World) (H : Hd O w w S [.blk b3 [.string (bs c0.Key), .bool c0.Hidden, .int .i64 c0.Flights, v4] 25, .fz (.sl (Rp.int .i64) v1 p0.Events), .fz (.sl (Rp.int .i64) v4 c0.Events)]) :
    Calls Tryd.prog 34 ([.agg [.string (bs p0.Key), .bool p0.Hidden, .int .i64 p0.Flights, v1].toArray, .pointer (some ⟨b3, 0, none⟩)] : List Value).toArray w fun e w' => e = .returned (.bool r) ∧ Hd O w w' S [.blk b3 [.string (bs c0.Key), .bool c0.Hidden, .int .i64 c0.Flights, v4] 25] := by
  unfold F_fleet_Reveals_1 at hF
  refine calls_of_WP 9 Tryd.func34 rfl rfl rfl ?_
  refine WP_seq_k fun K7 hK7 => ?_
  refine WP_region ?_
  refine RL_ex rfl rfl (Lx_box (cs := [.string (bs p0.Key), .bool p0.Hidden, .int .i64 p0.Flights, v1]) rfl H) ?_
  rintro _ w10 ⟨b8, rfl, H⟩
  refine RL_do rfl rfl (Do_assign (v := .bool false) rfl) ?_
  refine (RL_nil (thenQ_n (hK7 _ _ ?_)))
  refine WP_seq_k fun K11 hK11 => ?_
  refine WP_region ?_
  refine RL_do rfl rfl (fa25_0 rfl) ?_
  refine RL_do rfl rfl (Do_load one9 rfl (Cells.get (Blk.cells (H.item (i := 3) rfl)) (i := 0) rfl)) ?_
  refine RL_do rfl rfl (fa25_0 rfl) ?_
  refine RL_do rfl rfl (Do_load one9 rfl (Cells.get (Blk.cells (H.item (i := 0) rfl)) (i := 0) rfl)) ?_
  obtain ⟨x12, e13, hF⟩ := letO_some hF
  refine RL_do rfl rfl (Do_as (Do_eqls (s1 := p0.Key) (s2 := c0.Key) rfl rfl) (congrArg Value.bool e13)) ?_
  refine RL_do rfl rfl (Do_assign (v := .bool x12) rfl) ?_
  refine (RL_nil (thenQ_n (hK11 _ _ ?_)))
  have hR := Option.some.inj hF
  subst hR
  refine (WP_ret (post1 (v1 := .bool x12) rfl rfl ?_))
  exact ⟨rfl, H.pick [0] (by decide)⟩
end Go.Proofs.YtbjhondbheijiaaDoor.L
namespace Go.Proofs.YtbjhondbheijiaaDoor.L
open Go.RowKit Go.OB Go.Lf
/- slices.IndexFunc[[]orangebox/api.FleetRow,orangebox/api.FleetRow]@orangebox/fleet.Reveals$1 -/
set_option maxHeartbeats 4000000 in
theorem F_slices_IndexFunc___api_FleetRow_api_FleetRow__fleet_Reveals_1_w (p0 : List FleetRow) (p1c0 : FleetRow) (v1 : Value) (b3 : Nat) (v4 : Value) (r : Int) (hF : F_slices_IndexFunc___api_FleetRow_api_FleetRow__fleet_Reveals_1 p0 p1c0 = some r) (O S : List Nat) (w : World) (H : Hd O w w S [.blk b3 [.string (bs p1c0.Key), .bool p1c0.Hidden, .int .i64 p1c0.Flights, v4] 25, .fz (.sl rFleetRow v1 p0), .fz (.sl (Rp.int .i64) v4 p1c0.Events)]) :
    Calls Tryd.prog 25 ([v1, .func (.func 34) #[] [.pointer (some ⟨b3, 0, none⟩)].toArray] : List Value).toArray w fun e w' => e = .returned (.int .i64 r) ∧ Hd O w w' S [.blk b3 [.string (bs p1c0.Key), .bool p1c0.Hidden, .int .i64 p1c0.Flights, v4] 25] := by
  unfold F_slices_IndexFunc___api_FleetRow_api_FleetRow__fleet_Reveals_1 at hF
  refine calls_of_WP 19 Tryd.func25 rfl rfl rfl ?_
  refine WP_seq_k fun K7 hK7 => ?_
  refine WP_region ?_
  refine RL_do rfl rfl (Do_assign (v := .int .i64 0) rfl) ?_
  refine (RL_nil (thenQ_n (hK7 _ _ ?_)))
  obtain ⟨k132, ek133, hF⟩ := joinO_some hF
  refine WP_seqS [4, 5, 6, 7, 8, 9, 10, 11, 12, 13, 14, 15, 16, 17, 18] (fun (g : Unit) => []) (fun g wl => Hd O w wl S [.blk b3 [.string (bs p1c0.Key), .bool p1c0.Hidden, .int .i64 p1c0.Flights, v4] 25, .fz (.sl (Rp.int .i64) v4 p1c0.Events)] ∧ k132 () = some r) ?_ ?_
  · skip
    refine WP_seq_k fun K134 hK134 => ?_
    refine WP_region ?_
    refine RL_do rfl rfl (Do_move (v := v1) rfl) ?_
    obtain ⟨x135, e136, hF⟩ := letO_some hF
    obtain ⟨a137, c138, q139⟩ := SlF.len ((H.item (i := 1) rfl))
    refine RL_do rfl rfl (Do_as (Do_len u22 q139) (congrArg (Value.int .i64) e136)) ?_
    refine RL_do rfl rfl (Do_move (v := .int .i64 0) rfl) ?_
    refine (RL_nil (thenQ_n (hK134 _ _ ?_)))
    refine WP_block ?_
    unfold F_slices_IndexFunc___api_FleetRow_api_FleetRow__fleet_Reveals_1_L1 at hF
    obtain ⟨B252, n253, eB254, hF⟩ := loopO_some hF
    refine WP_loopS [4, 5, 8, 9, 10, 11, 12, 13, 14, 15, 16, 17, 18] (fun (g : Nat × Int) => [(8, .int .i64 g.2)]) (fun g wl => Hd O w wl S [.blk b3 [.string (bs p1c0.Key), .bool p1c0.Hidden, .int .i64 p1c0.Flights, v4] 25, .fz (.sl (Rp.int .i64) v4 p1c0.Events), .fz (.sl rFleetRow v1 p0)] ∧ loopN B252 g.1 g.2 = some r) (fun g => g.1) (n253, 0) (Sl_cons rfl Sl_nil) ⟨H.pick [0, 2, 1] (by decide), hF⟩ ?_
    clear H hF
    rintro ⟨n253, g251⟩ ρ w256 ⟨H, hF⟩
    obtain ⟨n257, rfl, hF⟩ := loopN_pos hF
    have hF := loop_body eB254 hF
    refine WP_seq_k fun K258 hK258 => ?_
    refine WP_region ?_
    obtain ⟨x259, e260, hF⟩ := letO_some hF
    refine RL_do rfl rfl (Do_as (Do_lss (a := g251) (b := x135) rfl rfl) (congrArg Value.bool e260)) ?_
    refine (RL_nil (thenQ_n (hK258 _ _ ?_)))
    refine WP_seq_k fun K262 hK262 => ?_
    refine WP_ifb (b := x259) rfl (fun c263 => ?_) (fun c263 => ?_)
    · have hF := iteB_t c263 hF
      refine (WP_skip (thenQ_n (hK262 _ _ ?_)))
      refine WP_seq_k fun K287 hK287 => ?_
      refine WP_block ?_
      refine WP_seq_k fun K288 hK288 => ?_
      refine WP_region ?_
      refine RL_do rfl rfl (Do_move (v := .int .i64 g251) rfl) ?_
      refine RL_do rfl rfl (Do_assign (v := .int .i64 g251) rfl) ?_
      refine (RL_nil (thenQ_n (hK288 _ _ ?_)))
      refine WP_seq_k fun K289 hK289 => ?_
      refine WP_region ?_
      refine RL_do rfl rfl (Do_move (v := .func (.func 34) #[] [.pointer (some ⟨b3, 0, none⟩)].toArray) rfl) ?_
      refine RL_do rfl rfl (Do_move (v := v1) rfl) ?_
      refine RL_do rfl rfl (Do_move (v := .int .i64 g251) rfl) ?_
      obtain ⟨x290, e291, hF⟩ := bindO_some hF
      obtain ⟨b292, o293, c294, cs295, q296, h299, h297, h298, h300⟩ := rd_at (H.item (i := 2) rfl) e291
      obtain ⟨v301, rfl, h302⟩ := rFleetRow_open h299
      have H := H.fzs [.at b292 (o293 + g251.toNat * 4) _, .sl (Rp.int .i64) v301 x290.Events] ⟨⟨h297, h298, h300⟩, h302, trivial⟩
      refine RL_do rfl rfl (Do_idx u22 sz25 q296 rfl (at_some e291).1 (at_some e291).2.1 rfl rfl) ?_
      refine RL_do rfl rfl (Do_as (Do_loads (cs := [.string (bs x290.Key), .bool x290.Hidden, .int .i64 x290.Flights, v301]) agg25 rfl sz25 rfl (H.item (i := 3) rfl).2.2) rfl) ?_
      obtain ⟨x305, e306, hF⟩ := bindO_some hF
      refine RL_call rfl rfl (DoC_clo en34 rfl rfl) (F_fleet_Reveals_1_w x290 p1c0 v301 b3 v4 _ e306 _ _ _ (H.enter [0] [4, 1] (by decide) rfl)) ?_
      rintro _ w307 ⟨rfl, G308⟩
      have H : Hd O _ w307 _ [.fz (.sl (Rp.int .i64) v4 p1c0.Events), .fz (.sl rFleetRow v1 p0), .fz (.at b292 (o293 + g251.toNat * 4) [.string (bs x290.Key), .bool x290.Hidden, .int .i64 x290.Flights, v301]), .fz (.sl (Rp.int .i64) v301 x290.Events), .blk b3 [.string (bs p1c0.Key), .bool p1c0.Hidden, .int .i64 p1c0.Flights, v4] 25] := H.back [0] [4, 1] rfl G308
      refine ⟨_, rfl, ?_⟩
      refine (RL_nil (thenQ_n (hK289 _ _ ?_)))
      refine WP_ifb (b := x305) rfl (fun c309 => ?_) (fun c309 => ?_)
      · have hF := iteB_t c309 hF
        refine WP_seq_k fun K310 hK310 => ?_
        refine WP_region ?_
        refine RL_do rfl rfl (Do_move (v := .int .i64 g251) rfl) ?_
        refine RL_do rfl rfl (Do_assign (v := .int .i64 g251) rfl) ?_
        refine (RL_nil (thenQ_n (hK310 _ _ ?_)))
        have hR := Option.some.inj hF
        subst hR
        refine (WP_ret (blockQ_r (thenQ_r (thenQ_r (blockQ_r (thenQ_r (post1 (v1 := .int .i64 g251) rfl rfl ?_)))))))
        exact ⟨rfl, H.pick [4] (by decide)⟩
      · have hF := iteB_f c309 hF
        refine (WP_skip (blockQ_n (thenQ_n (hK287 _ _ ?_))))
        refine WP_region ?_
        obtain ⟨x311, e312, hF⟩ := letO_some hF
        refine RL_do rfl rfl (Do_add (a := g251) (b := 1) rfl rfl e312) ?_
        refine RL_do rfl rfl (Do_move (v := .int .i64 x311) rfl) ?_
        refine (RL_nil (thenQ_n (And.intro ?_ ?_)))
        · repeat' (first | with_reducible exact Fr_refl | refine Fr_upd rfl ?_ | refine Fr_over rfl rfl ?_)
        · exact ⟨(n257, x311), (Sl_cons rfl Sl_nil), ⟨H.pick [4, 0, 1] (by decide), hF⟩, Nat.lt_succ_self _⟩
    · have hF := iteB_f c263 hF
      refine (WP_exit (thenQ_x (thenQ_x (blockQ_eq (thenQ_n (And.intro ?_ ?_))))))
      · repeat' (first | with_reducible exact Fr_refl | refine Fr_upd rfl ?_ | refine Fr_over rfl rfl ?_)
      · exact ⟨(), Sl_nil, ⟨H.pick [0, 1] (by decide), hF⟩⟩
  · rintro _ ρ w131 ⟨H, hF⟩
    have hF := join_body ek133 hF
    refine WP_seq_k fun K313 hK313 => ?_
    refine WP_region ?_
    refine RL_do rfl rfl (Do_assign (v := .int .i64 (-1)) rfl) ?_
    refine (RL_nil (thenQ_n (hK313 _ _ ?_)))
    have hR := Option.some.inj hF
    subst hR
    refine (WP_ret (post1 (v1 := .int .i64 (-1)) rfl rfl ?_))
    exact ⟨rfl, H.pick [0] (by decide)⟩
end Go.Proofs.YtbjhondbheijiaaDoor.L
namespace Go.Proofs.YtbjhondbheijiaaDoor.L
open Go.RowKit Go.OB Go.Lf
/- orangebox/fleet.Reveals -/
set_option maxHeartbeats 4000000 in
theorem F_fleet_Reveals_w (p0 : List FleetRow) (p1 : List FleetRow) (p2 : Int) (v1 : Value) (v3 : Value) (r : (List Str) × Int) (hF : F_fleet_Reveals p0 p1 p2 = some r) (O S : List Nat) (w : World) (H : Hd O w w S [.fz (.sl rFleetRow v1 p0), .fz (.sl rFleetRow v3 p1)]) :
    Calls Tryd.prog 10 ([v1, v3, .int .i64 p2] : List Value).toArray w fun e w' => ∃ u5, e = .returned (.tuple #[u5, .int .i64 r.2]) ∧ Hd O w w' S [.own Rp.str u5 9 r.1] := by
  unfold F_fleet_Reveals at hF
  refine calls_of_WP 77 Tryd.func10 rfl rfl rfl ?_
  refine WP_seq_k fun K6 hK6 => ?_
  refine WP_region ?_
  refine RL_do rfl rfl (Do_assign (v := .slice none 0 0) rfl) ?_
  refine RL_do rfl rfl (Do_assign (v := .int .i64 0) rfl) ?_
  refine (RL_nil (thenQ_n (hK6 _ _ ?_)))
  obtain ⟨k148, ek149, hF⟩ := joinO_some hF
  refine WP_seqS [6, 7, 9, 10, 16, 17, 18, 19, 20, 21, 22, 23, 24, 25, 26, 27, 28, 29] (fun (g : Unit) => []) (fun g wl => Hd O w wl S [.fz (.sl rFleetRow v1 p0), .fz (.sl rFleetRow v3 p1)] ∧ k148 () = some r) ?_ ?_
  · skip
    refine WP_seq_k fun K150 hK150 => ?_
    refine WP_region ?_
    refine RL_do rfl rfl (Do_move (v := v1) rfl) ?_
    refine RL_do rfl rfl (Do_move (v := v3) rfl) ?_
    obtain ⟨x151, e152, hF⟩ := letO_some hF
    subst e152
    refine RL_ex rfl rfl (Lx_bs (r := (Rp.sl rFleetRow)) (xl := [p0, p1]) (cs := [v1, v3]) u64 el22 (by decide) (by decide) rfl (fillB_ones rfl rfl ⟨(slf_one (H.item (i := 0) rfl)), (slf_one (H.item (i := 1) rfl)), trivial⟩) H ⟨[v1], [v3], rfl, ⟨_, rfl, (H.item (i := 0) rfl)⟩, ⟨[v3], [], rfl, ⟨_, rfl, (H.item (i := 1) rfl)⟩, rfl⟩⟩) ?_
    rintro v154 w155 H
    obtain ⟨x156, e157, hF⟩ := letO_some hF
    obtain ⟨a158, c159, q160⟩ := Sr.len (Sr.of_own (H.item (i := 2) rfl))
    refine RL_do rfl rfl (Do_as (Do_len u64 q160) (congrArg (Value.int .i64) e157)) ?_
    refine RL_do rfl rfl (Do_move (v := .int .i64 0) rfl) ?_
    refine (RL_nil (thenQ_n (hK150 _ _ ?_)))
    refine WP_block ?_
    unfold F_fleet_Reveals_L1 at hF
    obtain ⟨B285, n286, eB287, hF⟩ := loopO_some hF
    refine WP_loopS [6, 7, 9, 10, 20, 21, 22, 23, 24, 25, 26, 27, 28, 29] (fun (g : Nat × Int) => [(20, .int .i64 g.2)]) (fun g wl => Hd O w wl S [.fz (.sl rFleetRow v1 p0), .fz (.sl rFleetRow v3 p1), .own (Rp.sl rFleetRow) v154 22 ([p0, p1] : List (List FleetRow))] ∧ loopN B285 g.1 g.2 = some r) (fun g => g.1) (n286, 0) (Sl_cons rfl Sl_nil) ⟨H.pick [0, 1, 2] (by decide), hF⟩ ?_
    clear H hF
    rintro ⟨n286, g284⟩ ρ w289 ⟨H, hF⟩
    obtain ⟨n290, rfl, hF⟩ := loopN_pos hF
    have hF := loop_body eB287 hF
    refine WP_seq_k fun K291 hK291 => ?_
    refine WP_region ?_
    obtain ⟨x292, e293, hF⟩ := letO_some hF
    refine RL_do rfl rfl (Do_as (Do_lss (a := g284) (b := x156) rfl rfl) (congrArg Value.bool e293)) ?_
    refine (RL_nil (thenQ_n (hK291 _ _ ?_)))
    refine WP_seq_k fun K295 hK295 => ?_
    refine WP_ifb (b := x292) rfl (fun c296 => ?_) (fun c296 => ?_)
    · have hF := iteB_t c296 hF
      refine (WP_skip (thenQ_n (hK295 _ _ ?_)))
      refine WP_seq_k fun K323 hK323 => ?_
      refine WP_block ?_
      refine WP_seq_k fun K324 hK324 => ?_
      refine WP_region ?_
      obtain ⟨x325, e326, hF⟩ := bindO_some hF
      obtain ⟨b327, c329, cs330, q331, h334, h335⟩ := own_at (H.item (i := 2) rfl) e326
      obtain ⟨v336, rfl, h337⟩ := h334
      have H := H.fzs [.sl rFleetRow v336 x325] ⟨h337, trivial⟩
      refine RL_do rfl rfl (Do_idx u64 sz22 q331 rfl (at_some e326).1 (at_some e326).2.1 rfl rfl) ?_
      refine RL_do rfl rfl (Do_load one22 rfl (Cells.get h335 (i := 0) rfl)) ?_
      refine RL_do rfl rfl (Do_assign (v := v336) rfl) ?_
      refine (RL_nil (thenQ_n (hK324 _ _ ?_)))
      refine WP_seq_k fun K339 hK339 => ?_
      refine WP_region ?_
      refine RL_do rfl rfl (Do_move (v := v336) rfl) ?_
      have H340 := H
      obtain ⟨x341, e342, hF⟩ := bindO_some hF
      refine RL_call rfl rfl (DoC_func en7 rfl) (F_fleet_CheckTable_w x325 v336 _ e342 _ _ _ (H.enter [] [3] (by decide) rfl)) ?_
      rintro _ w343 ⟨rfl, G344⟩
      have H := H340.step (G344.only : Only [] _ _)
      refine ⟨_, rfl, ?_⟩
      refine RL_do rfl rfl (Do_assign (v := .int .i64 x341) rfl) ?_
      refine (RL_nil (thenQ_n (hK339 _ _ ?_)))
      refine WP_seq_k fun K345 hK345 => ?_
      refine WP_region ?_
      refine RL_do rfl rfl (Do_move (v := .int .i64 x341) rfl) ?_
      obtain ⟨x346, e347, hF⟩ := letO_some hF
      refine RL_do rfl rfl (Do_as (Do_neq (a := x341) (b := 0) rfl rfl) (congrArg Value.bool e347)) ?_
      refine (RL_nil (thenQ_n (hK345 _ _ ?_)))
      refine WP_ifb (b := x346) rfl (fun c348 => ?_) (fun c348 => ?_)
      · have hF := iteB_t c348 hF
        refine WP_seq_k fun K349 hK349 => ?_
        refine WP_region ?_
        refine RL_do rfl rfl (Do_move (v := .int .i64 x341) rfl) ?_
        refine RL_do rfl rfl (Do_assign (v := .slice none 0 0) rfl) ?_
        refine RL_do rfl rfl (Do_assign (v := .int .i64 x341) rfl) ?_
        refine (RL_nil (thenQ_n (hK349 _ _ ?_)))
        have H := own_nil H Rp.str 9
        have hR := Option.some.inj hF
        subst hR
        refine (WP_ret (blockQ_r (thenQ_r (thenQ_r (blockQ_r (thenQ_r (post2 (v1 := .slice none 0 0) (v2 := .int .i64 x341) rfl rfl rfl ?_)))))))
        exact ⟨.slice none 0 0, rfl, H.pick [4] (by decide)⟩
      · have hF := iteB_f c348 hF
        refine (WP_skip (blockQ_n (thenQ_n (hK323 _ _ ?_))))
        refine WP_region ?_
        obtain ⟨x351, e352, hF⟩ := letO_some hF
        refine RL_do rfl rfl (Do_add (a := g284) (b := 1) rfl rfl e352) ?_
        refine RL_do rfl rfl (Do_move (v := .int .i64 x351) rfl) ?_
        refine (RL_nil (thenQ_n (And.intro ?_ ?_)))
        · repeat' (first | with_reducible exact Fr_refl | refine Fr_upd rfl ?_ | refine Fr_over rfl rfl ?_)
        · exact ⟨(n290, x351), (Sl_cons rfl Sl_nil), ⟨H.pick [0, 1, 2] (by decide), hF⟩, Nat.lt_succ_self _⟩
    · have hF := iteB_f c296 hF
      refine (WP_exit (thenQ_x (thenQ_x (blockQ_eq (thenQ_n (And.intro ?_ ?_))))))
      · repeat' (first | with_reducible exact Fr_refl | refine Fr_upd rfl ?_ | refine Fr_over rfl rfl ?_)
      · exact ⟨(), Sl_nil, ⟨H.pick [0, 1] (by decide), hF⟩⟩
  · rintro _ ρ w147 ⟨H, hF⟩
    have hF := join_body ek149 hF
    refine WP_seq_k fun K363 hK363 => ?_
    refine WP_seq_k fun K364 hK364 => ?_
    refine WP_region ?_
    refine RL_do rfl rfl (Do_move (v := .int .i64 p2) rfl) ?_
    have H365 := H
    obtain ⟨x366, e367, hF⟩ := bindO_some hF
    refine RL_call rfl rfl (DoC_func en28 rfl) (F_fleet_within_w p2 1 1000 _ e367 _ _ _ (H.enter [] [] (by decide) rfl)) ?_
    rintro _ w368 ⟨rfl, G369⟩
    have H := H365.step (G369.only : Only [] _ _)
    refine ⟨_, rfl, ?_⟩
    obtain ⟨x370, e371, hF⟩ := letO_some hF
    refine RL_do rfl rfl (Do_as (Do_not (p := x366) rfl) (congrArg Value.bool e371)) ?_
    refine (RL_nil (thenQ_n (hK364 _ _ ?_)))
    refine WP_ifb (b := x370) rfl (fun c372 => ?_) (fun c372 => ?_)
    · have hF := iteB_t c372 hF
      refine WP_seq_k fun K373 hK373 => ?_
      refine WP_region ?_
      refine RL_do rfl rfl (Do_assign (v := .slice none 0 0) rfl) ?_
      refine RL_do rfl rfl (Do_assign (v := .int .i64 9) rfl) ?_
      refine (RL_nil (thenQ_n (hK373 _ _ ?_)))
      have H := own_nil H Rp.str 9
      have hR := Option.some.inj hF
      subst hR
      refine (WP_ret (thenQ_r (post2 (v1 := .slice none 0 0) (v2 := .int .i64 9) rfl rfl rfl ?_)))
      exact ⟨.slice none 0 0, rfl, H.pick [2] (by decide)⟩
    · have hF := iteB_f c372 hF
      refine (WP_skip (thenQ_n (hK363 _ _ ?_)))
      refine WP_seq_k fun K375 hK375 => ?_
      refine WP_region ?_
      refine RL_do rfl rfl (Do_assign (v := .slice none 0 0) rfl) ?_
      refine (RL_nil (thenQ_n (hK375 _ _ ?_)))
      obtain ⟨g650, hF, hK653⟩ := bindO_some hF
      refine WP_seqS [11, 13, 14, 15, 33, 34, 35, 36, 37, 38, 39, 40, 41, 42, 43, 44, 45, 46, 47, 48, 49, 50, 51, 52, 53, 54, 55, 56, 57, 58, 59, 60, 61, 62, 63, 64, 65, 66, 67, 68, 69, 70, 71, 72, 73, 74, 75] (fun (g : Value) => [(11, g)]) (fun g wl => Hd O w wl S [.own Rp.str g 9 g650]) ?_ ?_
      · skip
        refine WP_seq_k fun K654 hK654 => ?_
        refine WP_region ?_
        refine RL_do rfl rfl (Do_move (v := v3) rfl) ?_
        obtain ⟨x655, e656, hF⟩ := letO_some hF
        obtain ⟨a657, c658, q659⟩ := SlF.len ((H.item (i := 1) rfl))
        refine RL_do rfl rfl (Do_as (Do_len u22 q659) (congrArg (Value.int .i64) e656)) ?_
        refine RL_do rfl rfl (Do_move (v := .int .i64 0) rfl) ?_
        refine (RL_nil (thenQ_n (hK654 _ _ ?_)))
        refine WP_block ?_
        have H := own_nil H Rp.str 9
        unfold F_fleet_Reveals_L2 at hF
        obtain ⟨B925, n926, eB927, hF⟩ := loopO_some hF
        refine WP_loopS [11, 13, 14, 15, 35, 36, 37, 38, 39, 40, 41, 42, 43, 44, 45, 46, 47, 48, 49, 50, 51, 52, 53, 54, 55, 56, 57, 58, 59, 60, 61, 62, 63, 64, 65, 66, 67, 68, 69, 70, 71, 72, 73, 74, 75] (fun (g : Nat × (List Str) × Int × Value) => [(11, g.2.2.2), (35, .int .i64 g.2.2.1)]) (fun g wl => Hd O w wl S [.own Rp.str g.2.2.2 9 g.2.1, .fz (.sl rFleetRow v1 p0), .fz (.sl rFleetRow v3 p1)] ∧ loopN B925 g.1 (g.2.1, g.2.2.1) = some g650) (fun g => g.1) (n926, [], 0, .slice none 0 0) (Sl_cons rfl (Sl_cons rfl Sl_nil)) ⟨H.pick [2, 0, 1] (by decide), hF⟩ ?_
        clear H hF
        rintro ⟨n926, g921, g923, v922⟩ ρ w929 ⟨H, hF⟩
        obtain ⟨n930, rfl, hF⟩ := loopN_pos hF
        have hF := loop_body eB927 hF
        refine WP_seq_k fun K931 hK931 => ?_
        refine WP_region ?_
        obtain ⟨x932, e933, hF⟩ := letO_some hF
        refine RL_do rfl rfl (Do_as (Do_lss (a := g923) (b := x655) rfl rfl) (congrArg Value.bool e933)) ?_
        refine (RL_nil (thenQ_n (hK931 _ _ ?_)))
        refine WP_seq_k fun K935 hK935 => ?_
        refine WP_ifb (b := x932) rfl (fun c936 => ?_) (fun c936 => ?_)
        · have hF := iteB_t c936 hF
          refine (WP_skip (thenQ_n (hK935 _ _ ?_)))
          obtain ⟨g1052, hF, hK1055⟩ := bindO_some hF
          refine WP_seqS [11, 13, 14, 15, 37, 38, 39, 40, 41, 42, 43, 44, 45, 46, 47, 48, 49, 50, 51, 52, 53, 54, 55, 56, 57, 58, 59, 60, 61, 62, 63, 64, 65, 66, 67, 68, 69, 70, 71, 72, 73, 74] (fun (g : Value) => [(11, g)]) (fun g wl => Hd O w wl S [.own Rp.str g 9 g1052, .fz (.sl rFleetRow v1 p0), .fz (.sl rFleetRow v3 p1)]) ?_ ?_
          · skip
            refine WP_block ?_
            refine WP_seq_k fun K1056 hK1056 => ?_
            refine WP_region ?_
            obtain ⟨x1057, e1058, hF⟩ := bindO_some hF
            obtain ⟨b1059, o1060, c1061, cs1062, q1063, h1066, h1064, h1065, h1067⟩ := rd_at (H.item (i := 2) rfl) e1058
            obtain ⟨v1068, rfl, h1069⟩ := rFleetRow_open h1066
            have H := H.fzs [.at b1059 (o1060 + g923.toNat * 4) _, .sl (Rp.int .i64) v1068 x1057.Events] ⟨⟨h1064, h1065, h1067⟩, h1069, trivial⟩
            refine RL_do rfl rfl (Do_idx u22 sz25 q1063 rfl (at_some e1058).1 (at_some e1058).2.1 rfl rfl) ?_
            refine RL_do rfl rfl (Do_as (Do_loads (cs := [.string (bs x1057.Key), .bool x1057.Hidden, .int .i64 x1057.Flights, v1068]) agg25 rfl sz25 rfl (H.item (i := 3) rfl).2.2) rfl) ?_
            refine RL_ex rfl rfl (Lx_alloc zero25 H) ?_
            rintro _ w1074 ⟨b1072, rfl, H⟩
            refine RL_exU rfl (Lx_storeN (vs := [.string (bs x1057.Key), .bool x1057.Hidden, .int .i64 x1057.Flights, v1068]) H 5 rfl sz25 rfl rfl rfl ⟨rfl, rfl, rfl, (slf_one (H.item (i := 4) rfl)), trivial⟩ rfl) ?_
            rintro w1075 H
            refine (RL_nil (thenQ_n (hK1056 _ _ ?_)))
            refine WP_seq_k fun K1076 hK1076 => ?_
            refine WP_region ?_
            refine RL_do rfl rfl (Do_move (v := v1) rfl) ?_
            refine RL_do rfl rfl (Do_makeFunc rfl) ?_
            obtain ⟨x1077, e1078, hF⟩ := bindO_some hF
            refine RL_call rfl rfl (DoC_func en25 rfl) (F_slices_IndexFunc___api_FleetRow_api_FleetRow__fleet_Reveals_1_w p0 x1057 v1 b1072 v1068 _ e1078 _ _ _ (H.enter [5] [1, 4] (by decide) rfl)) ?_
            rintro _ w1079 ⟨rfl, G1080⟩
            have H : Hd O _ w1079 _ [.own Rp.str v922 9 g921, .fz (.sl rFleetRow v1 p0), .fz (.sl rFleetRow v3 p1), .fz (.at b1059 (o1060 + g923.toNat * 4) [.string (bs x1057.Key), .bool x1057.Hidden, .int .i64 x1057.Flights, v1068]), .fz (.sl (Rp.int .i64) v1068 x1057.Events), .blk b1072 [.string (bs x1057.Key), .bool x1057.Hidden, .int .i64 x1057.Flights, v1068] 25] := H.back [5] [1, 4] rfl G1080
            refine ⟨_, rfl, ?_⟩
            refine RL_do rfl rfl (Do_assign (v := .int .i64 x1077) rfl) ?_
            refine (RL_nil (thenQ_n (hK1076 _ _ ?_)))
            refine WP_seq_k fun K1104 hK1104 => ?_
            obtain ⟨g1124, hF, hK1126⟩ := bindO_some hF
            refine WP_seqS [42, 43, 44, 45, 46, 47, 48, 49, 50, 51, 52, 53, 54] (fun (g : Unit) => [(54, .bool g1124)]) (fun g wl => Hd O w wl S [.own Rp.str v922 9 g921, .fz (.sl rFleetRow v1 p0), .fz (.sl rFleetRow v3 p1), .blk b1072 [.string (bs x1057.Key), .bool x1057.Hidden, .int .i64 x1057.Flights, v1068] 25, .fz (.sl (Rp.int .i64) v1068 x1057.Events)]) ?_ ?_
            · skip
              refine WP_region ?_
              refine RL_do rfl rfl (Do_move (v := .int .i64 x1077) rfl) ?_
              obtain ⟨x1127, e1128, hF⟩ := letO_some hF
              refine RL_do rfl rfl (Do_as (Do_lss (a := x1077) (b := 0) rfl rfl) (congrArg Value.bool e1128)) ?_
              refine RL_splitb (b := x1127) rfl rfl rfl (fun c1129 => ?_) (fun c1129 => ?_)
              · have hF := iteB_t c1129 hF
                refine RL_off rfl rfl ?_
                refine RL_off rfl rfl ?_
                refine RL_do rfl rfl (Do_pick_t (v := .bool true) rfl rfl) ?_
                refine RL_do rfl rfl (Do_move (v := .bool true) rfl) ?_
                refine RL_off rfl rfl ?_
                refine RL_off rfl rfl ?_
                refine RL_off rfl rfl ?_
                refine RL_off rfl rfl ?_
                refine RL_off rfl rfl ?_
                refine RL_do rfl rfl (Do_pick_t (v := .bool true) rfl rfl) ?_
                have hR := Option.some.inj hF
                subst hR
                refine (RL_nil (thenQ_n (And.intro ?_ ?_)))
                · repeat' (first | with_reducible exact Fr_refl | refine Fr_upd rfl ?_ | refine Fr_over rfl rfl ?_)
                · exact ⟨(), (Sl_cons rfl Sl_nil), H.pick [0, 1, 2, 5, 4] (by decide)⟩
              · have hF := iteB_f c1129 hF
                refine RL_do rfl rfl (fa25_1 rfl) ?_
                refine RL_do rfl rfl (Do_load one4 rfl (Cells.get (Blk.cells (H.item (i := 5) rfl)) (i := 1) rfl)) ?_
                refine RL_do rfl rfl (Do_pick_f (v := .bool x1057.Hidden) rfl rfl) ?_
                refine RL_splitb (b := x1057.Hidden) rfl rfl rfl (fun c1130 => ?_) (fun c1130 => ?_)
                · have hF := iteB_t c1130 hF
                  refine RL_off rfl rfl ?_
                  refine RL_off rfl rfl ?_
                  refine RL_off rfl rfl ?_
                  refine RL_off rfl rfl ?_
                  refine RL_off rfl rfl ?_
                  refine RL_do rfl rfl (Do_pick_t (v := .bool true) rfl rfl) ?_
                  have hR := Option.some.inj hF
                  subst hR
                  refine (RL_nil (thenQ_n (And.intro ?_ ?_)))
                  · repeat' (first | with_reducible exact Fr_refl | refine Fr_upd rfl ?_ | refine Fr_over rfl rfl ?_)
                  · exact ⟨(), (Sl_cons rfl Sl_nil), H.pick [0, 1, 2, 5, 4] (by decide)⟩
                · have hF := iteB_f c1130 hF
                  refine RL_do rfl rfl (Do_move (v := v1) rfl) ?_
                  refine RL_do rfl rfl (Do_move (v := .int .i64 x1077) rfl) ?_
                  obtain ⟨x1131, e1132, hF⟩ := bindO_some hF
                  obtain ⟨b1133, o1134, c1135, cs1136, q1137, h1140, h1138, h1139, h1141⟩ := rd_at (H.item (i := 1) rfl) e1132
                  obtain ⟨v1142, rfl, h1143⟩ := rFleetRow_open h1140
                  have H := H.fzs [.at b1133 (o1134 + x1077.toNat * 4) _, .sl (Rp.int .i64) v1142 x1131.Events] ⟨⟨h1138, h1139, h1141⟩, h1143, trivial⟩
                  refine RL_do rfl rfl (Do_idx u22 sz25 q1137 rfl (at_some e1132).1 (at_some e1132).2.1 rfl rfl) ?_
                  refine RL_do rfl rfl (fa25_1 rfl) ?_
                  refine RL_do rfl rfl (Do_load one4 rfl (Cells.get (H.item (i := 6) rfl).2.2 (i := 1) rfl)) ?_
                  refine RL_do rfl rfl (Do_pick_f (v := .bool x1131.Hidden) rfl rfl) ?_
                  have hR := Option.some.inj hF
                  subst hR
                  refine (RL_nil (thenQ_n (And.intro ?_ ?_)))
                  · repeat' (first | with_reducible exact Fr_refl | refine Fr_upd rfl ?_ | refine Fr_over rfl rfl ?_)
                  · exact ⟨(), (Sl_cons rfl Sl_nil), H.pick [0, 1, 2, 5, 4] (by decide)⟩
            · rintro _ ρ w1125 H
              have hF := hK1126
              refine WP_ifb (b := g1124) rfl (fun c1146 => ?_) (fun c1146 => ?_)
              · have hF := iteB_t c1146 hF
                have hR := Option.some.inj hF
                subst hR
                refine (WP_exit (thenQ_x (blockQ_eq (thenQ_n (And.intro ?_ ?_)))))
                · repeat' (first | with_reducible exact Fr_refl | refine Fr_upd rfl ?_ | refine Fr_over rfl rfl ?_)
                · exact ⟨v922, (Sl_cons rfl Sl_nil), H.pick [0, 1, 2] (by decide)⟩
              · have hF := iteB_f c1146 hF
                refine (WP_skip (thenQ_n (hK1104 _ _ ?_)))
                refine WP_seq_k fun K1147 hK1147 => ?_
                have H1148 := H
                have H := H.rebase
                have H1149 := H
                refine WP_mix0 H [0, 1, 2, 3, 4, 5, 6, 7, 8] [.pure, .read, .pure, .pure, .pure, .pure, .read, .pure, .pure] mixed (by kernel_rfl) (by kernel_rfl) (by kernel_rfl) rfl ?_
                refine Mx.XL_pure rfl rfl rfl (fun w' hw' => fa25_2 rfl) ?_
                refine Mx.XL_read oS rfl rfl rfl (fun w' hw' => Do_load one3 rfl (Cells.get (Blk.cells ((H.sees hw').item (i := 3) rfl)) (i := 2) rfl)) ?_
                refine Mx.XL_pure rfl rfl rfl (fun w' hw' => Do_move (v := v1) rfl) ?_
                refine Mx.XL_pure rfl rfl rfl (fun w' hw' => Do_move (v := .int .i64 x1077) rfl) ?_
                obtain ⟨x1150, e1151, hF⟩ := bindO_some hF
                obtain ⟨b1152, o1153, c1154, cs1155, q1156, h1159, h1157, h1158, h1160⟩ := rd_at (H.item (i := 1) rfl) e1151
                obtain ⟨v1161, rfl, h1162⟩ := rFleetRow_open h1159
                have H := H.fzs [.at b1152 (o1153 + x1077.toNat * 4) _, .sl (Rp.int .i64) v1161 x1150.Events] ⟨⟨h1157, h1158, h1160⟩, h1162, trivial⟩
                refine Mx.XL_pure rfl rfl rfl (fun w' hw' => Do_idx u22 sz25 q1156 rfl (at_some e1151).1 (at_some e1151).2.1 rfl rfl) ?_
                refine Mx.XL_pure rfl rfl rfl (fun w' hw' => fa25_2 rfl) ?_
                refine Mx.XL_read oS rfl rfl rfl (fun w' hw' => Do_load one3 rfl (Cells.get ((H.sees hw').item (i := 5) rfl).2.2 (i := 2) rfl)) ?_
                obtain ⟨x1165, e1166, hF⟩ := letO_some hF
                refine Mx.XL_pure rfl rfl rfl (fun w' hw' => Do_sub (a := x1057.Flights) (b := x1150.Flights) rfl rfl e1166) ?_
                refine Mx.XL_pure rfl rfl rfl (fun w' hw' => Do_assign (v := .int .i64 x1165) rfl) ?_
                refine Mx.XL_nil fun w1167 hS => ?_
                have H := H.sees hS
                have H := H1148.rejoin H
                refine (thenQ_n (hK1147 _ _ ?_))
                refine WP_seq_k fun K1168 hK1168 => ?_
                refine WP_region ?_
                refine RL_do rfl rfl (Do_move (v := .int .i64 x1165) rfl) ?_
                refine RL_do rfl rfl (Do_move (v := .int .i64 x1165) rfl) ?_
                obtain ⟨x1169, e1170, hF⟩ := letO_some hF
                refine RL_do rfl rfl (Do_neg (a := x1165) rfl e1170) ?_
                obtain ⟨x1171, e1172, hF⟩ := letO_some hF
                refine RL_do rfl rfl (Do_max (j := x1165) (q := x1169) rfl rfl e1172) ?_
                refine RL_do rfl rfl (Do_move (v := .int .i64 p2) rfl) ?_
                obtain ⟨x1173, e1174, hF⟩ := letO_some hF
                refine RL_do rfl rfl (Do_sub (a := p2) (b := 1) rfl rfl e1174) ?_
                have H1175 := H
                obtain ⟨x1176, e1177, hF⟩ := bindO_some hF
                refine RL_call rfl rfl (DoC_func en28 rfl) (F_fleet_within_w x1171 1 x1173 _ e1177 _ _ _ (H.enter [] [] (by decide) rfl)) ?_
                rintro _ w1178 ⟨rfl, G1179⟩
                have H := H1175.step (G1179.only : Only [] _ _)
                refine ⟨_, rfl, ?_⟩
                refine (RL_nil (thenQ_n (hK1168 _ _ ?_)))
                refine WP_ifb (b := x1176) rfl (fun c1180 => ?_) (fun c1180 => ?_)
                · have hF := iteB_t c1180 hF
                  refine WP_region ?_
                  refine RL_do rfl rfl (Do_move (v := v922) rfl) ?_
                  refine RL_do rfl rfl (fa25_0 rfl) ?_
                  refine RL_do rfl rfl (Do_load one9 rfl (Cells.get (Blk.cells (H.item (i := 3) rfl)) (i := 0) rfl)) ?_
                  obtain ⟨x1181, e1182, hF⟩ := letO_some hF
                  subst e1182
                  refine RL_ex rfl rfl (Lx_bs (r := Rp.str) (xl := [x1057.Key]) (cs := [.string (bs x1057.Key)]) u35 el9 (by decide) (by decide) rfl (fillB_parts (vs := [.string (bs x1057.Key)]) (by decide) rfl rfl ⟨rfl, trivial⟩ rfl) H ⟨[.string (bs x1057.Key)], [], rfl, rfl, rfl⟩) ?_
                  rintro v1184 w1185 H
                  obtain ⟨x1186, e1187, hF⟩ := bindO_some hF
                  refine RL_ex rfl rfl (Lx_app H (i := 0) rfl u35 el9 rfl rfl (Sr.of_own (H.item (i := 7) rfl)) e1187) ?_
                  rintro v1188 w1189 H
                  refine RL_do rfl rfl (Do_assign (v := v1188) rfl) ?_
                  have hR := Option.some.inj hF
                  subst hR
                  refine (RL_nil (blockQ_n (thenQ_n (And.intro ?_ ?_))))
                  · repeat' (first | with_reducible exact Fr_refl | refine Fr_upd rfl ?_ | refine Fr_over rfl rfl ?_)
                  · exact ⟨v1188, (Sl_cons rfl Sl_nil), H.pick [0, 1, 2] (by decide)⟩
                · have hF := iteB_f c1180 hF
                  have hR := Option.some.inj hF
                  subst hR
                  refine (WP_skip (blockQ_n (thenQ_n (And.intro ?_ ?_))))
                  · repeat' (first | with_reducible exact Fr_refl | refine Fr_upd rfl ?_ | refine Fr_over rfl rfl ?_)
                  · exact ⟨v922, (Sl_cons rfl Sl_nil), H.pick [0, 1, 2] (by decide)⟩
          · rintro v1053 ρ w1054 H
            have hF := hK1055
            refine WP_region ?_
            obtain ⟨x1190, e1191, hF⟩ := letO_some hF
            refine RL_do rfl rfl (Do_add (a := g923) (b := 1) rfl rfl e1191) ?_
            refine RL_do rfl rfl (Do_move (v := .int .i64 x1190) rfl) ?_
            refine (RL_nil (thenQ_n (And.intro ?_ ?_)))
            · repeat' (first | with_reducible exact Fr_refl | refine Fr_upd rfl ?_ | refine Fr_over rfl rfl ?_)
            · exact ⟨(n930, g1052, x1190, v1053), (Sl_cons rfl (Sl_cons rfl Sl_nil)), ⟨H.pick [0, 1, 2] (by decide), hF⟩, Nat.lt_succ_self _⟩
        · have hF := iteB_f c936 hF
          have hR := Option.some.inj hF
          subst hR
          refine (WP_exit (thenQ_x (thenQ_x (blockQ_eq (thenQ_n (And.intro ?_ ?_))))))
          · repeat' (first | with_reducible exact Fr_refl | refine Fr_upd rfl ?_ | refine Fr_over rfl rfl ?_)
          · exact ⟨v922, (Sl_cons rfl Sl_nil), H.pick [0] (by decide)⟩
      · rintro v651 ρ w652 H
        have hF := hK653
        refine WP_seq_k fun K1192 hK1192 => ?_
        refine WP_region ?_
        refine RL_do rfl rfl (Do_move (v := v651) rfl) ?_
        refine RL_do rfl rfl (Do_assign (v := v651) rfl) ?_
        refine RL_do rfl rfl (Do_assign (v := .int .i64 0) rfl) ?_
        refine (RL_nil (thenQ_n (hK1192 _ _ ?_)))
        have hR := Option.some.inj hF
        subst hR
        refine (WP_ret (post2 (v1 := v651) (v2 := .int .i64 0) rfl rfl rfl ?_))
        exact ⟨v651, rfl, H.pick [0] (by decide)⟩
end Go.Proofs.YtbjhondbheijiaaDoor.L
namespace Go.Proofs.YtbjhondbheijiaaDoor.L
open Go.RowKit Go.OB Go.Lf
/- orangebox/orangeboxref9.Reveals -/
set_option maxHeartbeats 4000000 in
theorem F_ref9_Reveals_w (p0 : List FleetRow) (p1 : List FleetRow) (p2 : Int) (v1 : Value) (v3 : Value) (r : (List Str) × Int) (hF : F_ref9_Reveals p0 p1 p2 = some r) (O S : List Nat) (w : World) (H : Hd O w w S [.fz (.sl rFleetRow v1 p0), .fz (.sl rFleetRow v3 p1)]) :
    Calls Tryd.prog 11 ([v1, v3, .int .i64 p2] : List Value).toArray w fun e w' => ∃ u5, e = .returned (.tuple #[u5, .int .i64 r.2]) ∧ Hd O w w' S [.own Rp.str u5 9 r.1] := by
  unfold F_ref9_Reveals at hF
  refine calls_of_WP 98 Tryd.func11 rfl rfl rfl ?_
  refine WP_seq_k fun K6 hK6 => ?_
  refine WP_region ?_
  refine RL_do rfl rfl (Do_assign (v := .slice none 0 0) rfl) ?_
  refine RL_do rfl rfl (Do_assign (v := .int .i64 0) rfl) ?_
  refine (RL_nil (thenQ_n (hK6 _ _ ?_)))
  refine WP_seq_k fun K18 hK18 => ?_
  refine WP_seq_k fun K19 hK19 => ?_
  refine WP_region ?_
  refine RL_do rfl rfl (Do_move (v := v1) rfl) ?_
  have H20 := H
  obtain ⟨x21, e22, hF⟩ := bindO_some hF
  refine RL_call rfl rfl (DoC_func en8 rfl) (F_ref9_CheckTable_w p0 v1 _ e22 _ _ _ (H.enter [] [0] (by decide) rfl)) ?_
  rintro _ w23 ⟨rfl, G24⟩
  have H := H20.step (G24.only : Only [] _ _)
  refine ⟨_, rfl, ?_⟩
  refine RL_do rfl rfl (Do_assign (v := .int .i64 x21) rfl) ?_
  refine (RL_nil (thenQ_n (hK19 _ _ ?_)))
  refine WP_seq_k fun K25 hK25 => ?_
  refine WP_region ?_
  refine RL_do rfl rfl (Do_move (v := .int .i64 x21) rfl) ?_
  obtain ⟨x26, e27, hF⟩ := letO_some hF
  refine RL_do rfl rfl (Do_as (Do_neq (a := x21) (b := 0) rfl rfl) (congrArg Value.bool e27)) ?_
  refine (RL_nil (thenQ_n (hK25 _ _ ?_)))
  refine WP_ifb (b := x26) rfl (fun c28 => ?_) (fun c28 => ?_)
  · have hF := iteB_t c28 hF
    refine WP_seq_k fun K29 hK29 => ?_
    refine WP_region ?_
    refine RL_do rfl rfl (Do_move (v := .int .i64 x21) rfl) ?_
    refine RL_do rfl rfl (Do_assign (v := .slice none 0 0) rfl) ?_
    refine RL_do rfl rfl (Do_assign (v := .int .i64 x21) rfl) ?_
    refine (RL_nil (thenQ_n (hK29 _ _ ?_)))
    have H := own_nil H Rp.str 9
    have hR := Option.some.inj hF
    subst hR
    refine (WP_ret (thenQ_r (post2 (v1 := .slice none 0 0) (v2 := .int .i64 x21) rfl rfl rfl ?_)))
    exact ⟨.slice none 0 0, rfl, H.pick [2] (by decide)⟩
  · have hF := iteB_f c28 hF
    refine (WP_skip (thenQ_n (hK18 _ _ ?_)))
    refine WP_seq_k fun K42 hK42 => ?_
    refine WP_seq_k fun K43 hK43 => ?_
    refine WP_region ?_
    refine RL_do rfl rfl (Do_move (v := v3) rfl) ?_
    have H44 := H
    obtain ⟨x45, e46, hF⟩ := bindO_some hF
    refine RL_call rfl rfl (DoC_func en8 rfl) (F_ref9_CheckTable_w p1 v3 _ e46 _ _ _ (H.enter [] [1] (by decide) rfl)) ?_
    rintro _ w47 ⟨rfl, G48⟩
    have H := H44.step (G48.only : Only [] _ _)
    refine ⟨_, rfl, ?_⟩
    refine RL_do rfl rfl (Do_assign (v := .int .i64 x45) rfl) ?_
    refine (RL_nil (thenQ_n (hK43 _ _ ?_)))
    refine WP_seq_k fun K49 hK49 => ?_
    refine WP_region ?_
    refine RL_do rfl rfl (Do_move (v := .int .i64 x45) rfl) ?_
    obtain ⟨x50, e51, hF⟩ := letO_some hF
    refine RL_do rfl rfl (Do_as (Do_neq (a := x45) (b := 0) rfl rfl) (congrArg Value.bool e51)) ?_
    refine (RL_nil (thenQ_n (hK49 _ _ ?_)))
    refine WP_ifb (b := x50) rfl (fun c52 => ?_) (fun c52 => ?_)
    · have hF := iteB_t c52 hF
      refine WP_seq_k fun K53 hK53 => ?_
      refine WP_region ?_
      refine RL_do rfl rfl (Do_move (v := .int .i64 x45) rfl) ?_
      refine RL_do rfl rfl (Do_assign (v := .slice none 0 0) rfl) ?_
      refine RL_do rfl rfl (Do_assign (v := .int .i64 x45) rfl) ?_
      refine (RL_nil (thenQ_n (hK53 _ _ ?_)))
      have H := own_nil H Rp.str 9
      have hR := Option.some.inj hF
      subst hR
      refine (WP_ret (thenQ_r (post2 (v1 := .slice none 0 0) (v2 := .int .i64 x45) rfl rfl rfl ?_)))
      exact ⟨.slice none 0 0, rfl, H.pick [2] (by decide)⟩
    · have hF := iteB_f c52 hF
      refine (WP_skip (thenQ_n (hK42 _ _ ?_)))
      refine WP_seq_k fun K63 hK63 => ?_
      refine WP_seq_k fun K64 hK64 => ?_
      refine WP_region ?_
      refine RL_do rfl rfl (Do_move (v := .int .i64 p2) rfl) ?_
      have H65 := H
      obtain ⟨x66, e67, hF⟩ := bindO_some hF
      refine RL_call rfl rfl (DoC_func en32 rfl) (F_ref9_outside_w p2 1 1000 _ e67 _ _ _ (H.enter [] [] (by decide) rfl)) ?_
      rintro _ w68 ⟨rfl, G69⟩
      have H := H65.step (G69.only : Only [] _ _)
      refine ⟨_, rfl, ?_⟩
      refine (RL_nil (thenQ_n (hK64 _ _ ?_)))
      refine WP_ifb (b := x66) rfl (fun c70 => ?_) (fun c70 => ?_)
      · have hF := iteB_t c70 hF
        refine WP_seq_k fun K71 hK71 => ?_
        refine WP_region ?_
        refine RL_do rfl rfl (Do_assign (v := .slice none 0 0) rfl) ?_
        refine RL_do rfl rfl (Do_assign (v := .int .i64 9) rfl) ?_
        refine (RL_nil (thenQ_n (hK71 _ _ ?_)))
        have H := own_nil H Rp.str 9
        have hR := Option.some.inj hF
        subst hR
        refine (WP_ret (thenQ_r (post2 (v1 := .slice none 0 0) (v2 := .int .i64 9) rfl rfl rfl ?_)))
        exact ⟨.slice none 0 0, rfl, H.pick [2] (by decide)⟩
      · have hF := iteB_f c70 hF
        refine (WP_skip (thenQ_n (hK63 _ _ ?_)))
        refine WP_seq_k fun K73 hK73 => ?_
        refine WP_region ?_
        refine RL_do rfl rfl (Do_assign (v := .slice none 0 0) rfl) ?_
        refine (RL_nil (thenQ_n (hK73 _ _ ?_)))
        obtain ⟨g862, hF, hK865⟩ := bindO_some hF
        refine WP_seqS [10, 11, 12, 13, 26, 27, 28, 29, 30, 31, 32, 33, 34, 35, 36, 37, 38, 39, 40, 41, 42, 43, 44, 45, 46, 47, 48, 49, 50, 51, 52, 53, 54, 55, 56, 57, 58, 59, 60, 61, 62, 63, 64, 65, 66, 67, 68, 69, 70, 71, 72, 73, 74, 75, 76, 77, 78, 79, 80, 81, 82, 83, 84, 85, 86, 87, 88, 89, 90, 91, 92, 93, 94, 95, 96] (fun (g : Value) => [(10, g)]) (fun g wl => Hd O w wl S [.own Rp.str g 9 g862]) ?_ ?_
        · skip
          refine WP_seq_k fun K866 hK866 => ?_
          refine WP_region ?_
          refine RL_do rfl rfl (Do_assign (v := .int .i64 0) rfl) ?_
          refine (RL_nil (thenQ_n (hK866 _ _ ?_)))
          refine WP_block ?_
          have H := own_nil H Rp.str 9
          unfold F_ref9_Reveals_L1 at hF
          obtain ⟨B1651, n1652, eB1653, hF⟩ := loopO_some hF
          refine WP_loopS [10, 11, 12, 13, 26, 27, 28, 29, 30, 31, 32, 33, 34, 35, 36, 37, 38, 39, 40, 41, 42, 43, 44, 45, 46, 47, 48, 49, 50, 51, 52, 53, 54, 55, 56, 57, 58, 59, 60, 61, 62, 63, 64, 65, 66, 67, 68, 69, 70, 71, 72, 73, 74, 75, 76, 77, 78, 79, 80, 81, 82, 83, 84, 85, 86, 87, 88, 89, 90, 91, 92, 93, 94, 95, 96] (fun (g : Nat × (List Str) × Int × Value) => [(10, g.2.2.2), (11, .int .i64 g.2.2.1)]) (fun g wl => Hd O w wl S [.own Rp.str g.2.2.2 9 g.2.1, .fz (.sl rFleetRow v1 p0), .fz (.sl rFleetRow v3 p1)] ∧ loopN B1651 g.1 (g.2.1, g.2.2.1) = some g862) (fun g => g.1) (n1652, [], 0, .slice none 0 0) (Sl_cons rfl (Sl_cons rfl Sl_nil)) ⟨H.pick [2, 0, 1] (by decide), hF⟩ ?_
          clear H hF
          rintro ⟨n1652, g1647, g1649, v1648⟩ ρ w1655 ⟨H, hF⟩
          obtain ⟨n1656, rfl, hF⟩ := loopN_pos hF
          have hF := loop_body eB1653 hF
          refine WP_seq_k fun K1666 hK1666 => ?_
          refine WP_seq_k fun K1667 hK1667 => ?_
          refine WP_region ?_
          refine RL_do rfl rfl (Do_move (v := .int .i64 g1649) rfl) ?_
          refine RL_do rfl rfl (Do_move (v := v3) rfl) ?_
          obtain ⟨x1668, e1669, hF⟩ := letO_some hF
          obtain ⟨a1670, c1671, q1672⟩ := SlF.len ((H.item (i := 2) rfl))
          refine RL_do rfl rfl (Do_as (Do_len u22 q1672) (congrArg (Value.int .i64) e1669)) ?_
          obtain ⟨x1673, e1674, hF⟩ := letO_some hF
          refine RL_do rfl rfl (Do_as (Do_lss (a := g1649) (b := x1668) rfl rfl) (congrArg Value.bool e1674)) ?_
          refine (RL_nil (thenQ_n (hK1667 _ _ ?_)))
          refine WP_ifb (b := x1673) rfl (fun c1675 => ?_) (fun c1675 => ?_)
          · have hF := iteB_t c1675 hF
            refine (WP_skip (thenQ_n (hK1666 _ _ ?_)))
            obtain ⟨g2036, hF, hK2039⟩ := bindO_some hF
            refine WP_seqS [10, 12, 13, 32, 33, 34, 35, 36, 37, 38, 39, 40, 41, 42, 43, 44, 45, 46, 47, 48, 49, 50, 51, 52, 53, 54, 55, 56, 57, 58, 59, 60, 61, 62, 63, 64, 65, 66, 67, 68, 69, 70, 71, 72, 73, 74, 75, 76, 77, 78, 79, 80, 81, 82, 83, 84, 85, 86, 87, 88, 89, 90, 91, 92, 93, 94, 95, 96] (fun (g : Value) => [(10, g)]) (fun g wl => Hd O w wl S [.own Rp.str g 9 g2036, .fz (.sl rFleetRow v1 p0), .fz (.sl rFleetRow v3 p1)]) ?_ ?_
            · skip
              refine WP_block ?_
              refine WP_seq_k fun K2040 hK2040 => ?_
              refine WP_region ?_
              refine RL_do rfl rfl (Do_assign (v := .int .i64 0) rfl) ?_
              refine (RL_nil (thenQ_n (hK2040 _ _ ?_)))
              refine WP_block ?_
              unfold F_ref9_Reveals_L2 at hF
              obtain ⟨B2397, n2398, eB2399, hF⟩ := loopO_some hF
              refine WP_loopS [10, 12, 13, 32, 33, 34, 35, 36, 37, 38, 39, 40, 41, 42, 43, 44, 45, 46, 47, 48, 49, 50, 51, 52, 53, 54, 55, 56, 57, 58, 59, 60, 61, 62, 63, 64, 65, 66, 67, 68, 69, 70, 71, 72, 73, 74, 75, 76, 77, 78, 79, 80, 81, 82, 83, 84, 85, 86, 87, 88, 89, 90, 91, 92, 93, 94, 95, 96] (fun (g : Nat × (List Str) × Int × Value) => [(10, g.2.2.2), (12, .int .i64 g.2.2.1)]) (fun g wl => Hd O w wl S [.own Rp.str g.2.2.2 9 g.2.1, .fz (.sl rFleetRow v1 p0), .fz (.sl rFleetRow v3 p1)] ∧ loopN B2397 g.1 (g.2.1, g.2.2.1) = some g2036) (fun g => g.1) (n2398, g1647, 0, v1648) (Sl_cons rfl (Sl_cons rfl Sl_nil)) ⟨H.pick [0, 1, 2] (by decide), hF⟩ ?_
              clear H hF
              rintro ⟨n2398, g2394, g2396, v2395⟩ ρ w2401 ⟨H, hF⟩
              obtain ⟨n2402, rfl, hF⟩ := loopN_pos hF
              have hF := loop_body eB2399 hF
              refine WP_seq_k fun K2412 hK2412 => ?_
              refine WP_seq_k fun K2413 hK2413 => ?_
              refine WP_region ?_
              refine RL_do rfl rfl (Do_move (v := .int .i64 g2396) rfl) ?_
              refine RL_do rfl rfl (Do_move (v := v1) rfl) ?_
              obtain ⟨x2414, e2415, hF⟩ := letO_some hF
              obtain ⟨a2416, c2417, q2418⟩ := SlF.len ((H.item (i := 1) rfl))
              refine RL_do rfl rfl (Do_as (Do_len u22 q2418) (congrArg (Value.int .i64) e2415)) ?_
              obtain ⟨x2419, e2420, hF⟩ := letO_some hF
              refine RL_do rfl rfl (Do_as (Do_lss (a := g2396) (b := x2414) rfl rfl) (congrArg Value.bool e2420)) ?_
              refine (RL_nil (thenQ_n (hK2413 _ _ ?_)))
              refine WP_ifb (b := x2419) rfl (fun c2421 => ?_) (fun c2421 => ?_)
              · have hF := iteB_t c2421 hF
                refine (WP_skip (thenQ_n (hK2412 _ _ ?_)))
                obtain ⟨g2572, hF, hK2575⟩ := bindO_some hF
                refine WP_seqS [10, 13, 38, 39, 40, 41, 42, 43, 44, 45, 46, 47, 48, 49, 50, 51, 52, 53, 54, 55, 56, 57, 58, 59, 60, 61, 62, 63, 64, 65, 66, 67, 68, 69, 70, 71, 72, 73, 74, 75, 76, 77, 78, 79, 80, 81, 82, 83, 84, 85, 86, 87, 88, 89, 90, 91, 92, 93, 94, 95, 96] (fun (g : Value) => [(10, g)]) (fun g wl => Hd O w wl S [.own Rp.str g 9 g2572, .fz (.sl rFleetRow v1 p0), .fz (.sl rFleetRow v3 p1)]) ?_ ?_
                · skip
                  refine WP_block ?_
                  refine WP_seq_k fun K2576 hK2576 => ?_
                  have H2577 := H
                  have H := H.rebase
                  have H2578 := H
                  refine WP_mix0 H [0, 1, 2, 3, 4, 5, 6, 7, 8, 9, 10, 11] [.pure, .pure, .pure, .pure, .read, .pure, .pure, .pure, .pure, .read, .pure, .pure] mixed (by kernel_rfl) (by kernel_rfl) (by kernel_rfl) rfl ?_
                  refine Mx.XL_pure rfl rfl rfl (fun w' hw' => Do_move (v := v3) rfl) ?_
                  refine Mx.XL_pure rfl rfl rfl (fun w' hw' => Do_move (v := .int .i64 g1649) rfl) ?_
                  obtain ⟨x2579, e2580, hF⟩ := bindO_some hF
                  obtain ⟨b2581, o2582, c2583, cs2584, q2585, h2588, h2586, h2587, h2589⟩ := rd_at (H.item (i := 2) rfl) e2580
                  obtain ⟨v2590, rfl, h2591⟩ := rFleetRow_open h2588
                  have H := H.fzs [.at b2581 (o2582 + g1649.toNat * 4) _, .sl (Rp.int .i64) v2590 x2579.Events] ⟨⟨h2586, h2587, h2589⟩, h2591, trivial⟩
                  refine Mx.XL_pure rfl rfl rfl (fun w' hw' => Do_idx u22 sz25 q2585 rfl (at_some e2580).1 (at_some e2580).2.1 rfl rfl) ?_
                  refine Mx.XL_pure rfl rfl rfl (fun w' hw' => fa25_2 rfl) ?_
                  refine Mx.XL_read oS rfl rfl rfl (fun w' hw' => Do_load one3 rfl (Cells.get ((H.sees hw').item (i := 3) rfl).2.2 (i := 2) rfl)) ?_
                  refine Mx.XL_pure rfl rfl rfl (fun w' hw' => Do_move (v := v1) rfl) ?_
                  refine Mx.XL_pure rfl rfl rfl (fun w' hw' => Do_move (v := .int .i64 g2396) rfl) ?_
                  obtain ⟨x2594, e2595, hF⟩ := bindO_some hF
                  obtain ⟨b2596, o2597, c2598, cs2599, q2600, h2603, h2601, h2602, h2604⟩ := rd_at (H.item (i := 1) rfl) e2595
                  obtain ⟨v2605, rfl, h2606⟩ := rFleetRow_open h2603
                  have H := H.fzs [.at b2596 (o2597 + g2396.toNat * 4) _, .sl (Rp.int .i64) v2605 x2594.Events] ⟨⟨h2601, h2602, h2604⟩, h2606, trivial⟩
                  refine Mx.XL_pure rfl rfl rfl (fun w' hw' => Do_idx u22 sz25 q2600 rfl (at_some e2595).1 (at_some e2595).2.1 rfl rfl) ?_
                  refine Mx.XL_pure rfl rfl rfl (fun w' hw' => fa25_2 rfl) ?_
                  refine Mx.XL_read oS rfl rfl rfl (fun w' hw' => Do_load one3 rfl (Cells.get ((H.sees hw').item (i := 5) rfl).2.2 (i := 2) rfl)) ?_
                  obtain ⟨x2609, e2610, hF⟩ := letO_some hF
                  refine Mx.XL_pure rfl rfl rfl (fun w' hw' => Do_sub (a := x2579.Flights) (b := x2594.Flights) rfl rfl e2610) ?_
                  refine Mx.XL_pure rfl rfl rfl (fun w' hw' => Do_assign (v := .int .i64 x2609) rfl) ?_
                  refine Mx.XL_nil fun w2611 hS => ?_
                  have H := H.sees hS
                  have H := H2577.rejoin H
                  refine (thenQ_n (hK2576 _ _ ?_))
                  refine WP_seq_k fun K2612 hK2612 => ?_
                  refine WP_region ?_
                  refine RL_do rfl rfl (Do_move (v := .int .i64 x2609) rfl) ?_
                  refine RL_do rfl rfl (Do_move (v := .int .i64 x2609) rfl) ?_
                  obtain ⟨x2613, e2614, hF⟩ := letO_some hF
                  refine RL_do rfl rfl (Do_neg (a := x2609) rfl e2614) ?_
                  obtain ⟨x2615, e2616, hF⟩ := letO_some hF
                  refine RL_do rfl rfl (Do_max (j := x2609) (q := x2613) rfl rfl e2616) ?_
                  refine RL_do rfl rfl (Do_assign (v := .int .i64 x2615) rfl) ?_
                  refine (RL_nil (thenQ_n (hK2612 _ _ ?_)))
                  obtain ⟨g2698, hF, hK2700⟩ := bindO_some hF
                  refine WP_seqS [53, 54, 55, 56, 57, 58, 59, 60, 61, 62, 63, 64, 65, 66, 67, 68, 69, 70, 71, 72, 73, 74, 75, 76, 77, 78, 79, 80, 81, 82, 83, 84, 85, 86, 87, 88] (fun (g : Unit) => [(88, .bool g2698)]) (fun g wl => Hd O w wl S [.own Rp.str v2395 9 g2394, .fz (.sl rFleetRow v1 p0), .fz (.sl rFleetRow v3 p1)]) ?_ ?_
                  · skip
                    have H2701 := H
                    have H := H.rebase
                    have H2702 := H
                    refine WP_mix0 H [0, 1, 2, 3, 4, 5, 6, 7, 8, 9, 10, 11, 12, 13, 14, 15, 16, 17, 18, 19, 20, 21, 22, 23, 24, 25, 26, 27, 28, 29, 30, 31, 32, 33, 34, 35] [.pure, .pure, .pure, .pure, .read, .pure, .pure, .pure, .pure, .read, .pure, .pure, .pure, .pure, .pure, .pure, .read, .pure, .pure, .pure, .pure, .pure, .pure, .pure, .read, .pure, .pure, .pure, .pure, .pure, .pure, .pure, .pure, .pure, .pure, .pure] mixed (by kernel_rfl) (by kernel_rfl) (by kernel_rfl) rfl ?_
                    refine Mx.XL_pure rfl rfl rfl (fun w' hw' => Do_move (v := v1) rfl) ?_
                    refine Mx.XL_pure rfl rfl rfl (fun w' hw' => Do_move (v := .int .i64 g2396) rfl) ?_
                    obtain ⟨x2703, e2704, hF⟩ := bindO_some hF
                    obtain ⟨b2705, o2706, c2707, cs2708, q2709, h2712, h2710, h2711, h2713⟩ := rd_at (H.item (i := 1) rfl) e2704
                    obtain ⟨v2714, rfl, h2715⟩ := rFleetRow_open h2712
                    have H := H.fzs [.at b2705 (o2706 + g2396.toNat * 4) _, .sl (Rp.int .i64) v2714 x2703.Events] ⟨⟨h2710, h2711, h2713⟩, h2715, trivial⟩
                    refine Mx.XL_pure rfl rfl rfl (fun w' hw' => Do_idx u22 sz25 q2709 rfl (at_some e2704).1 (at_some e2704).2.1 rfl rfl) ?_
                    refine Mx.XL_pure rfl rfl rfl (fun w' hw' => fa25_0 rfl) ?_
                    refine Mx.XL_read oS rfl rfl rfl (fun w' hw' => Do_load one9 rfl (Cells.get ((H.sees hw').item (i := 7) rfl).2.2 (i := 0) rfl)) ?_
                    refine Mx.XL_pure rfl rfl rfl (fun w' hw' => Do_move (v := v3) rfl) ?_
                    refine Mx.XL_pure rfl rfl rfl (fun w' hw' => Do_move (v := .int .i64 g1649) rfl) ?_
                    obtain ⟨x2718, e2719, hF⟩ := bindO_some hF
                    obtain ⟨b2720, o2721, c2722, cs2723, q2724, h2727, h2725, h2726, h2728⟩ := rd_at (H.item (i := 2) rfl) e2719
                    obtain ⟨v2729, rfl, h2730⟩ := rFleetRow_open h2727
                    have H := H.fzs [.at b2720 (o2721 + g1649.toNat * 4) _, .sl (Rp.int .i64) v2729 x2718.Events] ⟨⟨h2725, h2726, h2728⟩, h2730, trivial⟩
                    refine Mx.XL_pure rfl rfl rfl (fun w' hw' => Do_idx u22 sz25 q2724 rfl (at_some e2719).1 (at_some e2719).2.1 rfl rfl) ?_
                    refine Mx.XL_pure rfl rfl rfl (fun w' hw' => fa25_0 rfl) ?_
                    refine Mx.XL_read oS rfl rfl rfl (fun w' hw' => Do_load one9 rfl (Cells.get ((H.sees hw').item (i := 9) rfl).2.2 (i := 0) rfl)) ?_
                    obtain ⟨x2733, e2734, hF⟩ := letO_some hF
                    refine Mx.XL_pure rfl rfl rfl (fun w' hw' => Do_as (Do_eqls (s1 := x2703.Key) (s2 := x2718.Key) rfl rfl) (congrArg Value.bool e2734)) ?_
                    refine Mx.XL_splitb (b := x2733) rfl rfl rfl rfl (fun c2735 => ?_) (fun c2735 => ?_)
                    · have hF := iteB_t c2735 hF
                      refine Mx.XL_pure rfl rfl rfl (fun w' hw' => Do_move (v := v1) rfl) ?_
                      refine Mx.XL_pure rfl rfl rfl (fun w' hw' => Do_move (v := .int .i64 g2396) rfl) ?_
                      obtain ⟨x2736, e2737, hF⟩ := bindO_some hF
                      obtain ⟨b2738, o2739, c2740, cs2741, q2742, h2745, h2743, h2744, h2746⟩ := rd_at (H.item (i := 1) rfl) e2737
                      obtain ⟨v2747, rfl, h2748⟩ := rFleetRow_open h2745
                      have H := H.fzs [.at b2738 (o2739 + g2396.toNat * 4) _, .sl (Rp.int .i64) v2747 x2736.Events] ⟨⟨h2743, h2744, h2746⟩, h2748, trivial⟩
                      refine Mx.XL_pure rfl rfl rfl (fun w' hw' => Do_idx u22 sz25 q2742 rfl (at_some e2737).1 (at_some e2737).2.1 rfl rfl) ?_
                      refine Mx.XL_pure rfl rfl rfl (fun w' hw' => fa25_1 rfl) ?_
                      refine Mx.XL_read oS rfl rfl rfl (fun w' hw' => Do_load one4 rfl (Cells.get ((H.sees hw').item (i := 11) rfl).2.2 (i := 1) rfl)) ?_
                      obtain ⟨x2751, e2752, hF⟩ := letO_some hF
                      refine Mx.XL_pure rfl rfl rfl (fun w' hw' => Do_as (Do_not (p := x2736.Hidden) rfl) (congrArg Value.bool e2752)) ?_
                      refine Mx.XL_pure rfl rfl rfl (fun w' hw' => Do_pick_t (v := .bool x2751) rfl rfl) ?_
                      refine Mx.XL_splitb (b := x2751) rfl rfl rfl rfl (fun c2753 => ?_) (fun c2753 => ?_)
                      · have hF := iteB_t c2753 hF
                        refine Mx.XL_pure rfl rfl rfl (fun w' hw' => Do_move (v := v3) rfl) ?_
                        refine Mx.XL_pure rfl rfl rfl (fun w' hw' => Do_move (v := .int .i64 g1649) rfl) ?_
                        obtain ⟨x2754, e2755, hF⟩ := bindO_some hF
                        obtain ⟨b2756, o2757, c2758, cs2759, q2760, h2763, h2761, h2762, h2764⟩ := rd_at (H.item (i := 2) rfl) e2755
                        obtain ⟨v2765, rfl, h2766⟩ := rFleetRow_open h2763
                        have H := H.fzs [.at b2756 (o2757 + g1649.toNat * 4) _, .sl (Rp.int .i64) v2765 x2754.Events] ⟨⟨h2761, h2762, h2764⟩, h2766, trivial⟩
                        refine Mx.XL_pure rfl rfl rfl (fun w' hw' => Do_idx u22 sz25 q2760 rfl (at_some e2755).1 (at_some e2755).2.1 rfl rfl) ?_
                        refine Mx.XL_pure rfl rfl rfl (fun w' hw' => fa25_1 rfl) ?_
                        refine Mx.XL_read oS rfl rfl rfl (fun w' hw' => Do_load one4 rfl (Cells.get ((H.sees hw').item (i := 13) rfl).2.2 (i := 1) rfl)) ?_
                        obtain ⟨x2769, e2770, hF⟩ := letO_some hF
                        refine Mx.XL_pure rfl rfl rfl (fun w' hw' => Do_as (Do_not (p := x2754.Hidden) rfl) (congrArg Value.bool e2770)) ?_
                        refine Mx.XL_pure rfl rfl rfl (fun w' hw' => Do_pick_t (v := .bool x2769) rfl rfl) ?_
                        refine Mx.XL_splitb (b := x2769) rfl rfl rfl rfl (fun c2771 => ?_) (fun c2771 => ?_)
                        · have hF := iteB_t c2771 hF
                          refine Mx.XL_pure rfl rfl rfl (fun w' hw' => Do_move (v := .int .i64 x2615) rfl) ?_
                          obtain ⟨x2772, e2773, hF⟩ := letO_some hF
                          refine Mx.XL_pure rfl rfl rfl (fun w' hw' => Do_as (Do_geq (a := x2615) (b := 1) rfl rfl) (congrArg Value.bool e2773)) ?_
                          refine Mx.XL_pure rfl rfl rfl (fun w' hw' => Do_pick_t (v := .bool x2772) rfl rfl) ?_
                          refine Mx.XL_splitb (b := x2772) rfl rfl rfl rfl (fun c2774 => ?_) (fun c2774 => ?_)
                          · have hF := iteB_t c2774 hF
                            refine Mx.XL_pure rfl rfl rfl (fun w' hw' => Do_move (v := .int .i64 x2615) rfl) ?_
                            refine Mx.XL_pure rfl rfl rfl (fun w' hw' => Do_move (v := .int .i64 p2) rfl) ?_
                            obtain ⟨x2775, e2776, hF⟩ := letO_some hF
                            refine Mx.XL_pure rfl rfl rfl (fun w' hw' => Do_as (Do_lss (a := x2615) (b := p2) rfl rfl) (congrArg Value.bool e2776)) ?_
                            refine Mx.XL_pure rfl rfl rfl (fun w' hw' => Do_pick_t (v := .bool x2775) rfl rfl) ?_
                            refine Mx.XL_nil fun w2777 hS => ?_
                            have H := H.sees hS
                            have H := H2701.rejoin H
                            have hR := Option.some.inj hF
                            subst hR
                            refine (thenQ_n (And.intro ?_ ?_))
                            · repeat' (first | with_reducible exact Fr_refl | refine Fr_upd rfl ?_ | refine Fr_over rfl rfl ?_)
                            · exact ⟨(), (Sl_cons rfl Sl_nil), H.pick [0, 1, 2] (by decide)⟩
                          · have hF := iteB_f c2774 hF
                            refine Mx.XL_offp rfl rfl rfl ?_
                            refine Mx.XL_offp rfl rfl rfl ?_
                            refine Mx.XL_offp rfl rfl rfl ?_
                            refine Mx.XL_pure rfl rfl rfl (fun w' hw' => Do_pick_f (v := .bool false) rfl rfl) ?_
                            refine Mx.XL_nil fun w2778 hS => ?_
                            have H := H.sees hS
                            have H := H2701.rejoin H
                            have hR := Option.some.inj hF
                            subst hR
                            refine (thenQ_n (And.intro ?_ ?_))
                            · repeat' (first | with_reducible exact Fr_refl | refine Fr_upd rfl ?_ | refine Fr_over rfl rfl ?_)
                            · exact ⟨(), (Sl_cons rfl Sl_nil), H.pick [0, 1, 2] (by decide)⟩
                        · have hF := iteB_f c2771 hF
                          refine Mx.XL_offp rfl rfl rfl ?_
                          refine Mx.XL_offp rfl rfl rfl ?_
                          refine Mx.XL_pure rfl rfl rfl (fun w' hw' => Do_pick_f (v := .bool false) rfl rfl) ?_
                          refine Mx.XL_pure rfl rfl rfl (fun w' hw' => Do_move (v := .bool false) rfl) ?_
                          refine Mx.XL_offp rfl rfl rfl ?_
                          refine Mx.XL_offp rfl rfl rfl ?_
                          refine Mx.XL_offp rfl rfl rfl ?_
                          refine Mx.XL_pure rfl rfl rfl (fun w' hw' => Do_pick_f (v := .bool false) rfl rfl) ?_
                          refine Mx.XL_nil fun w2779 hS => ?_
                          have H := H.sees hS
                          have H := H2701.rejoin H
                          have hR := Option.some.inj hF
                          subst hR
                          refine (thenQ_n (And.intro ?_ ?_))
                          · repeat' (first | with_reducible exact Fr_refl | refine Fr_upd rfl ?_ | refine Fr_over rfl rfl ?_)
                          · exact ⟨(), (Sl_cons rfl Sl_nil), H.pick [0, 1, 2] (by decide)⟩
                      · have hF := iteB_f c2753 hF
                        refine Mx.XL_offp rfl rfl rfl ?_
                        refine Mx.XL_offp rfl rfl rfl ?_
                        refine Mx.XL_offp rfl rfl rfl ?_
                        refine Mx.XL_offp rfl rfl rfl ?_
                        refine Mx.XL_offr oS rfl rfl rfl ?_
                        refine Mx.XL_offp rfl rfl rfl ?_
                        refine Mx.XL_pure rfl rfl rfl (fun w' hw' => Do_pick_f (v := .bool false) rfl rfl) ?_
                        refine Mx.XL_pure rfl rfl rfl (fun w' hw' => Do_move (v := .bool false) rfl) ?_
                        refine Mx.XL_offp rfl rfl rfl ?_
                        refine Mx.XL_offp rfl rfl rfl ?_
                        refine Mx.XL_pure rfl rfl rfl (fun w' hw' => Do_pick_f (v := .bool false) rfl rfl) ?_
                        refine Mx.XL_pure rfl rfl rfl (fun w' hw' => Do_move (v := .bool false) rfl) ?_
                        refine Mx.XL_offp rfl rfl rfl ?_
                        refine Mx.XL_offp rfl rfl rfl ?_
                        refine Mx.XL_offp rfl rfl rfl ?_
                        refine Mx.XL_pure rfl rfl rfl (fun w' hw' => Do_pick_f (v := .bool false) rfl rfl) ?_
                        refine Mx.XL_nil fun w2780 hS => ?_
                        have H := H.sees hS
                        have H := H2701.rejoin H
                        have hR := Option.some.inj hF
                        subst hR
                        refine (thenQ_n (And.intro ?_ ?_))
                        · repeat' (first | with_reducible exact Fr_refl | refine Fr_upd rfl ?_ | refine Fr_over rfl rfl ?_)
                        · exact ⟨(), (Sl_cons rfl Sl_nil), H.pick [0, 1, 2] (by decide)⟩
                    · have hF := iteB_f c2735 hF
                      refine Mx.XL_offp rfl rfl rfl ?_
                      refine Mx.XL_offp rfl rfl rfl ?_
                      refine Mx.XL_offp rfl rfl rfl ?_
                      refine Mx.XL_offp rfl rfl rfl ?_
                      refine Mx.XL_offr oS rfl rfl rfl ?_
                      refine Mx.XL_offp rfl rfl rfl ?_
                      refine Mx.XL_pure rfl rfl rfl (fun w' hw' => Do_pick_f (v := .bool false) rfl rfl) ?_
                      refine Mx.XL_pure rfl rfl rfl (fun w' hw' => Do_move (v := .bool false) rfl) ?_
                      refine Mx.XL_offp rfl rfl rfl ?_
                      refine Mx.XL_offp rfl rfl rfl ?_
                      refine Mx.XL_offp rfl rfl rfl ?_
                      refine Mx.XL_offp rfl rfl rfl ?_
                      refine Mx.XL_offr oS rfl rfl rfl ?_
                      refine Mx.XL_offp rfl rfl rfl ?_
                      refine Mx.XL_pure rfl rfl rfl (fun w' hw' => Do_pick_f (v := .bool false) rfl rfl) ?_
                      refine Mx.XL_pure rfl rfl rfl (fun w' hw' => Do_move (v := .bool false) rfl) ?_
                      refine Mx.XL_offp rfl rfl rfl ?_
                      refine Mx.XL_offp rfl rfl rfl ?_
                      refine Mx.XL_pure rfl rfl rfl (fun w' hw' => Do_pick_f (v := .bool false) rfl rfl) ?_
                      refine Mx.XL_pure rfl rfl rfl (fun w' hw' => Do_move (v := .bool false) rfl) ?_
                      refine Mx.XL_offp rfl rfl rfl ?_
                      refine Mx.XL_offp rfl rfl rfl ?_
                      refine Mx.XL_offp rfl rfl rfl ?_
                      refine Mx.XL_pure rfl rfl rfl (fun w' hw' => Do_pick_f (v := .bool false) rfl rfl) ?_
                      refine Mx.XL_nil fun w2781 hS => ?_
                      have H := H.sees hS
                      have H := H2701.rejoin H
                      have hR := Option.some.inj hF
                      subst hR
                      refine (thenQ_n (And.intro ?_ ?_))
                      · repeat' (first | with_reducible exact Fr_refl | refine Fr_upd rfl ?_ | refine Fr_over rfl rfl ?_)
                      · exact ⟨(), (Sl_cons rfl Sl_nil), H.pick [0, 1, 2] (by decide)⟩
                  · rintro _ ρ w2699 H
                    have hF := hK2700
                    refine WP_ifb (b := g2698) rfl (fun c2782 => ?_) (fun c2782 => ?_)
                    · have hF := iteB_t c2782 hF
                      refine WP_region ?_
                      refine RL_do rfl rfl (Do_move (v := v2395) rfl) ?_
                      refine RL_do rfl rfl (Do_move (v := v3) rfl) ?_
                      refine RL_do rfl rfl (Do_move (v := .int .i64 g1649) rfl) ?_
                      obtain ⟨x2783, e2784, hF⟩ := bindO_some hF
                      obtain ⟨b2785, o2786, c2787, cs2788, q2789, h2792, h2790, h2791, h2793⟩ := rd_at (H.item (i := 2) rfl) e2784
                      obtain ⟨v2794, rfl, h2795⟩ := rFleetRow_open h2792
                      have H := H.fzs [.at b2785 (o2786 + g1649.toNat * 4) _, .sl (Rp.int .i64) v2794 x2783.Events] ⟨⟨h2790, h2791, h2793⟩, h2795, trivial⟩
                      refine RL_do rfl rfl (Do_idx u22 sz25 q2789 rfl (at_some e2784).1 (at_some e2784).2.1 rfl rfl) ?_
                      refine RL_do rfl rfl (fa25_0 rfl) ?_
                      refine RL_do rfl rfl (Do_load one9 rfl (Cells.get (H.item (i := 3) rfl).2.2 (i := 0) rfl)) ?_
                      obtain ⟨x2798, e2799, hF⟩ := letO_some hF
                      subst e2799
                      refine RL_ex rfl rfl (Lx_bs (r := Rp.str) (xl := [x2783.Key]) (cs := [.string (bs x2783.Key)]) u35 el9 (by decide) (by decide) rfl (fillB_parts (vs := [.string (bs x2783.Key)]) (by decide) rfl rfl ⟨rfl, trivial⟩ rfl) H ⟨[.string (bs x2783.Key)], [], rfl, rfl, rfl⟩) ?_
                      rintro v2801 w2802 H
                      obtain ⟨x2803, e2804, hF⟩ := bindO_some hF
                      refine RL_ex rfl rfl (Lx_app H (i := 0) rfl u35 el9 rfl rfl (Sr.of_own (H.item (i := 5) rfl)) e2804) ?_
                      rintro v2805 w2806 H
                      refine RL_do rfl rfl (Do_assign (v := v2805) rfl) ?_
                      have hR := Option.some.inj hF
                      subst hR
                      refine (RL_nil (blockQ_n (thenQ_n (And.intro ?_ ?_))))
                      · repeat' (first | with_reducible exact Fr_refl | refine Fr_upd rfl ?_ | refine Fr_over rfl rfl ?_)
                      · exact ⟨v2805, (Sl_cons rfl Sl_nil), H.pick [0, 1, 2] (by decide)⟩
                    · have hF := iteB_f c2782 hF
                      have hR := Option.some.inj hF
                      subst hR
                      refine (WP_skip (blockQ_n (thenQ_n (And.intro ?_ ?_))))
                      · repeat' (first | with_reducible exact Fr_refl | refine Fr_upd rfl ?_ | refine Fr_over rfl rfl ?_)
                      · exact ⟨v2395, (Sl_cons rfl Sl_nil), H.pick [0, 1, 2] (by decide)⟩
                · rintro v2573 ρ w2574 H
                  have hF := hK2575
                  refine WP_region ?_
                  refine RL_do rfl rfl (Do_move (v := .int .i64 g2396) rfl) ?_
                  obtain ⟨x2807, e2808, hF⟩ := letO_some hF
                  refine RL_do rfl rfl (Do_add (a := g2396) (b := 1) rfl rfl e2808) ?_
                  refine RL_do rfl rfl (Do_assign (v := .int .i64 x2807) rfl) ?_
                  refine (RL_nil (thenQ_n (And.intro ?_ ?_)))
                  · repeat' (first | with_reducible exact Fr_refl | refine Fr_upd rfl ?_ | refine Fr_over rfl rfl ?_)
                  · exact ⟨(n2402, g2572, x2807, v2573), (Sl_cons rfl (Sl_cons rfl Sl_nil)), ⟨H.pick [0, 1, 2] (by decide), hF⟩, Nat.lt_succ_self _⟩
              · have hF := iteB_f c2421 hF
                have hR := Option.some.inj hF
                subst hR
                refine (WP_exit (thenQ_x (thenQ_x (blockQ_eq (blockQ_n (thenQ_n (And.intro ?_ ?_)))))))
                · repeat' (first | with_reducible exact Fr_refl | refine Fr_upd rfl ?_ | refine Fr_over rfl rfl ?_)
                · exact ⟨v2395, (Sl_cons rfl Sl_nil), H.pick [0, 1, 2] (by decide)⟩
            · rintro v2037 ρ w2038 H
              have hF := hK2039
              refine WP_region ?_
              refine RL_do rfl rfl (Do_move (v := .int .i64 g1649) rfl) ?_
              obtain ⟨x2809, e2810, hF⟩ := letO_some hF
              refine RL_do rfl rfl (Do_add (a := g1649) (b := 1) rfl rfl e2810) ?_
              refine RL_do rfl rfl (Do_assign (v := .int .i64 x2809) rfl) ?_
              refine (RL_nil (thenQ_n (And.intro ?_ ?_)))
              · repeat' (first | with_reducible exact Fr_refl | refine Fr_upd rfl ?_ | refine Fr_over rfl rfl ?_)
              · exact ⟨(n1656, g2036, x2809, v2037), (Sl_cons rfl (Sl_cons rfl Sl_nil)), ⟨H.pick [0, 1, 2] (by decide), hF⟩, Nat.lt_succ_self _⟩
          · have hF := iteB_f c1675 hF
            have hR := Option.some.inj hF
            subst hR
            refine (WP_exit (thenQ_x (thenQ_x (blockQ_eq (thenQ_n (And.intro ?_ ?_))))))
            · repeat' (first | with_reducible exact Fr_refl | refine Fr_upd rfl ?_ | refine Fr_over rfl rfl ?_)
            · exact ⟨v1648, (Sl_cons rfl Sl_nil), H.pick [0] (by decide)⟩
        · rintro v863 ρ w864 H
          have hF := hK865
          refine WP_seq_k fun K2811 hK2811 => ?_
          refine WP_region ?_
          refine RL_do rfl rfl (Do_move (v := v863) rfl) ?_
          refine RL_do rfl rfl (Do_assign (v := v863) rfl) ?_
          refine RL_do rfl rfl (Do_assign (v := .int .i64 0) rfl) ?_
          refine (RL_nil (thenQ_n (hK2811 _ _ ?_)))
          have hR := Option.some.inj hF
          subst hR
          refine (WP_ret (post2 (v1 := v863) (v2 := .int .i64 0) rfl rfl rfl ?_))
          exact ⟨v863, rfl, H.pick [0] (by decide)⟩
end Go.Proofs.YtbjhondbheijiaaDoor.L
namespace Go.Proofs.YtbjhondbheijiaaDoor.L
open Go.RowKit Go.OB Go.Lf
/- (*orangebox/orangeboxref0.Ink).Texts -/
set_option maxHeartbeats 4000000 in
theorem F_ref0_Ink_Texts_w (p0 : Orangeboxref0Ink) (p1 : List Str) (b1 : Nat) (v2 : Value) (v5 : Value) (r : Orangeboxref0Ink) (hF : F_ref0_Ink_Texts p0 p1 = some r) (O S : List Nat) (w : World) (H : Hd O w w S [.own (Rp.int .u8) v2 5 p0.out, .blk b1 [v2] 34, .fz (.sl Rp.str v5 p1), .fz (.at 0 0 ((Fl.arr 20 (Fl.int .u64)).f G_internal_strconv_uint64pow10))]) :
    Calls Tryd.prog 12 ([.pointer (some ⟨b1, 0, none⟩), v5] : List Value).toArray w fun e w' => ∃ u8, e = .returned (.tuple #[]) ∧ Hd O w w' S [.own (Rp.int .u8) u8 5 r.out, .blk b1 [u8] 34] := by
  unfold F_ref0_Ink_Texts at hF
  refine calls_of_WP 21 Tryd.func12 rfl rfl rfl ?_
  refine WP_seq_k fun K9 hK9 => ?_
  refine WP_region ?_
  refine RL_do rfl rfl (Do_move (v := .pointer (some ⟨b1, 0, none⟩)) rfl) ?_
  refine RL_do rfl rfl (Do_move (v := v5) rfl) ?_
  obtain ⟨x10, e11, hF⟩ := letO_some hF
  obtain ⟨a12, c13, q14⟩ := SlF.len ((H.item (i := 2) rfl))
  refine RL_do rfl rfl (Do_as (Do_len u35 q14) (congrArg (Value.int .i64) e11)) ?_
  obtain ⟨x15, e16, hF⟩ := bindO_some hF
  refine RL_call rfl rfl (DoC_func en35 rfl) (F_ref0_Ink_Int_w p0 x10 b1 v2 _ e16 _ _ _ (H.enter [0, 1] [3] (by decide) rfl)) ?_
  rintro _ w19 ⟨v17, rfl, G20⟩
  have H : Hd O _ w19 _ [.fz (.sl Rp.str v5 p1), .fz (.at 0 0 ((Fl.arr 20 (Fl.int .u64)).f G_internal_strconv_uint64pow10)), .own (Rp.int .u8) v17 5 x15.out, .blk b1 [v17] 34] := H.back [0, 1] [3] rfl G20
  refine ⟨_, rfl, ?_⟩
  refine (RL_nil (thenQ_n (hK9 _ _ ?_)))
  refine WP_seq_k fun K21 hK21 => ?_
  refine WP_region ?_
  refine RL_do rfl rfl (Do_assign (v := .int .i64 0) rfl) ?_
  refine (RL_nil (thenQ_n (hK21 _ _ ?_)))
  refine WP_block ?_
  unfold F_ref0_Ink_Texts_L1 at hF
  obtain ⟨B146, n147, eB148, hF⟩ := loopO_some hF
  refine WP_loopS [4, 9, 10, 11, 12, 13, 14, 15, 16, 17, 18, 19, 20] (fun (g : Nat × Int × (List Int) × Value) => [(4, .int .i64 g.2.1)]) (fun g wl => Hd O w wl S [.fz (.sl Rp.str v5 p1), .fz (.at 0 0 ((Fl.arr 20 (Fl.int .u64)).f G_internal_strconv_uint64pow10)), .blk b1 [g.2.2.2] 34, .own (Rp.int .u8) g.2.2.2 5 g.2.2.1] ∧ loopN B146 g.1 (g.2.1, g.2.2.1) = some r) (fun g => g.1) (n147, 0, x15.out, v17) (Sl_cons rfl Sl_nil) ⟨H.pick [0, 1, 3, 2] (by decide), hF⟩ ?_
  clear H hF
  rintro ⟨n147, g142, g144, v145⟩ ρ w150 ⟨H, hF⟩
  obtain ⟨n151, rfl, hF⟩ := loopN_pos hF
  have hF := loop_body eB148 hF
  refine WP_seq_k fun K161 hK161 => ?_
  refine WP_seq_k fun K162 hK162 => ?_
  refine WP_region ?_
  refine RL_do rfl rfl (Do_move (v := .int .i64 g142) rfl) ?_
  refine RL_do rfl rfl (Do_move (v := v5) rfl) ?_
  obtain ⟨x163, e164, hF⟩ := letO_some hF
  obtain ⟨a165, c166, q167⟩ := SlF.len ((H.item (i := 0) rfl))
  refine RL_do rfl rfl (Do_as (Do_len u35 q167) (congrArg (Value.int .i64) e164)) ?_
  obtain ⟨x168, e169, hF⟩ := letO_some hF
  refine RL_do rfl rfl (Do_as (Do_lss (a := g142) (b := x163) rfl rfl) (congrArg Value.bool e169)) ?_
  refine (RL_nil (thenQ_n (hK162 _ _ ?_)))
  refine WP_ifb (b := x168) rfl (fun c170 => ?_) (fun c170 => ?_)
  · have hF := iteB_t c170 hF
    refine (WP_skip (thenQ_n (hK161 _ _ ?_)))
    refine WP_seq_k fun K189 hK189 => ?_
    refine WP_block ?_
    refine WP_region ?_
    refine RL_do rfl rfl (Do_move (v := .pointer (some ⟨b1, 0, none⟩)) rfl) ?_
    refine RL_do rfl rfl (Do_move (v := v5) rfl) ?_
    refine RL_do rfl rfl (Do_move (v := .int .i64 g142) rfl) ?_
    obtain ⟨x190, e191, hF⟩ := bindO_some hF
    obtain ⟨b192, o193, c194, cs195, q196, h199, h197, h198, h200⟩ := rd_at (H.item (i := 0) rfl) e191
    obtain rfl : cs195 = [.string (bs x190)] := h199
    have H := H.fz (.at b192 (o193 + g142.toNat * 1) _) ⟨h197, h198, h200⟩
    refine RL_do rfl rfl (Do_idx u35 sz9 q196 rfl (at_some e191).1 (at_some e191).2.1 rfl rfl) ?_
    refine RL_do rfl rfl (Do_load one9 rfl (Cells.get (H.item (i := 4) rfl).2.2 (i := 0) rfl)) ?_
    obtain ⟨x202, e203, hF⟩ := bindO_some hF
    refine RL_call rfl rfl (DoC_func en36 rfl) (F_ref0_Ink_Text_w (Orangeboxref0Ink.mk g144) x190 b1 v145 _ e203 _ _ _ (H.enter [3, 2] [1] (by decide) rfl)) ?_
    rintro _ w206 ⟨v204, rfl, G207⟩
    have H : Hd O _ w206 _ [.fz (.sl Rp.str v5 p1), .fz (.at 0 0 ((Fl.arr 20 (Fl.int .u64)).f G_internal_strconv_uint64pow10)), .fz (.at b192 (o193 + g142.toNat * 1) [.string (bs x190)]), .own (Rp.int .u8) v204 5 x202.out, .blk b1 [v204] 34] := H.back [3, 2] [1] rfl G207
    refine ⟨_, rfl, ?_⟩
    refine (RL_nil (blockQ_n (thenQ_n (hK189 _ _ ?_))))
    refine WP_region ?_
    refine RL_do rfl rfl (Do_move (v := .int .i64 g142) rfl) ?_
    obtain ⟨x208, e209, hF⟩ := letO_some hF
    refine RL_do rfl rfl (Do_add (a := g142) (b := 1) rfl rfl e209) ?_
    refine RL_do rfl rfl (Do_assign (v := .int .i64 x208) rfl) ?_
    refine (RL_nil (thenQ_n (And.intro ?_ ?_)))
    · repeat' (first | with_reducible exact Fr_refl | refine Fr_upd rfl ?_ | refine Fr_over rfl rfl ?_)
    · exact ⟨(n151, x208, x202.out, v204), (Sl_cons rfl Sl_nil), ⟨H.pick [0, 1, 4, 3] (by decide), hF⟩, Nat.lt_succ_self _⟩
  · have hF := iteB_f c170 hF
    have hR := Option.some.inj hF
    subst hR
    refine (WP_exit (thenQ_x (thenQ_x (blockQ_eq (post0n rfl ?_)))))
    exact ⟨v145, rfl, H.pick [3, 2] (by decide)⟩
end Go.Proofs.YtbjhondbheijiaaDoor.L
namespace Go.Proofs.YtbjhondbheijiaaDoor.L
open Go.RowKit Go.OB Go.Lf
/- orangebox/fleet.printable -/
set_option maxHeartbeats 4000000 in
theorem F_fleet_printable_w (p0 : Str) (r : Bool) (hF : F_fleet_printable p0 = some r) (O S : List Nat) (w : World) (H : Hd O w w S []) :
    Calls Tryd.prog 37 ([.string (bs p0)] : List Value).toArray w fun e w' => e = .returned (.bool r) ∧ Hd O w w' S [] := by
  unfold F_fleet_printable at hF
  refine calls_of_WP 22 Tryd.func37 rfl rfl rfl ?_
  refine WP_seq_k fun K1 hK1 => ?_
  refine WP_region ?_
  refine RL_do rfl rfl (Do_assign (v := .bool false) rfl) ?_
  refine (RL_nil (thenQ_n (hK1 _ _ ?_)))
  refine WP_seq_k fun K7 hK7 => ?_
  refine WP_seq_k fun K8 hK8 => ?_
  refine WP_region ?_
  refine RL_do rfl rfl (Do_move (v := .string (bs p0)) rfl) ?_
  obtain ⟨x9, e10, hF⟩ := letO_some hF
  refine RL_do rfl rfl (Do_as (Do_eqls (s1 := p0) (s2 := [45]) rfl rfl) (congrArg Value.bool e10)) ?_
  refine (RL_nil (thenQ_n (hK8 _ _ ?_)))
  refine WP_ifb (b := x9) rfl (fun c11 => ?_) (fun c11 => ?_)
  · have hF := iteB_t c11 hF
    refine WP_seq_k fun K12 hK12 => ?_
    refine WP_region ?_
    refine RL_do rfl rfl (Do_assign (v := .bool false) rfl) ?_
    refine (RL_nil (thenQ_n (hK12 _ _ ?_)))
    have hR := Option.some.inj hF
    subst hR
    refine (WP_ret (thenQ_r (post1 (v1 := .bool false) rfl rfl ?_)))
    exact ⟨rfl, H.pick [] (by decide)⟩
  · have hF := iteB_f c11 hF
    refine (WP_skip (thenQ_n (hK7 _ _ ?_)))
    obtain ⟨k102, ek103, hF⟩ := joinO_some hF
    refine WP_seqS [2, 3, 6, 7, 8, 9, 10, 11, 12, 13, 14, 15, 16, 17, 18, 19, 20, 21] (fun (g : Unit) => []) (fun g wl => Hd O w wl S [] ∧ k102 () = some r) ?_ ?_
    · skip
      refine WP_seq_k fun K104 hK104 => ?_
      refine WP_region ?_
      refine RL_do rfl rfl (Do_move (v := .string (bs p0)) rfl) ?_
      obtain ⟨x105, e106, hF⟩ := letO_some hF
      refine RL_do rfl rfl (Do_as (Do_slen (s1 := p0) u9 rfl) (congrArg (Value.int .i64) e106)) ?_
      refine RL_do rfl rfl (Do_move (v := .int .i64 0) rfl) ?_
      refine (RL_nil (thenQ_n (hK104 _ _ ?_)))
      refine WP_block ?_
      unfold F_fleet_printable_L1 at hF
      obtain ⟨B187, n188, eB189, hF⟩ := loopO_some hF
      refine WP_loopS [2, 3, 8, 9, 10, 11, 12, 13, 14, 15, 16, 17, 18, 19, 20, 21] (fun (g : Nat × Int) => [(8, .int .i64 g.2)]) (fun g wl => Hd O w wl S [] ∧ loopN B187 g.1 g.2 = some r) (fun g => g.1) (n188, 0) (Sl_cons rfl Sl_nil) ⟨H.pick [] (by decide), hF⟩ ?_
      clear H hF
      rintro ⟨n188, g186⟩ ρ w191 ⟨H, hF⟩
      obtain ⟨n192, rfl, hF⟩ := loopN_pos hF
      have hF := loop_body eB189 hF
      refine WP_seq_k fun K193 hK193 => ?_
      refine WP_region ?_
      obtain ⟨x194, e195, hF⟩ := letO_some hF
      refine RL_do rfl rfl (Do_as (Do_lss (a := g186) (b := x105) rfl rfl) (congrArg Value.bool e195)) ?_
      refine (RL_nil (thenQ_n (hK193 _ _ ?_)))
      refine WP_seq_k fun K197 hK197 => ?_
      refine WP_ifb (b := x194) rfl (fun c198 => ?_) (fun c198 => ?_)
      · have hF := iteB_t c198 hF
        refine (WP_skip (thenQ_n (hK197 _ _ ?_)))
        refine WP_seq_k fun K214 hK214 => ?_
        refine WP_block ?_
        refine WP_seq_k fun K215 hK215 => ?_
        refine WP_region ?_
        refine RL_do rfl rfl (Do_move (v := .int .i64 g186) rfl) ?_
        refine RL_do rfl rfl (Do_assign (v := .int .i64 g186) rfl) ?_
        refine (RL_nil (thenQ_n (hK215 _ _ ?_)))
        obtain ⟨g225, hF, hK227⟩ := bindO_some hF
        refine WP_seqS [11, 12, 13, 14, 15, 16, 17, 18, 19, 20] (fun (g : Unit) => [(20, .bool g225)]) (fun g wl => Hd O w wl S []) ?_ ?_
        · skip
          refine WP_region ?_
          refine RL_do rfl rfl (Do_move (v := .string (bs p0)) rfl) ?_
          refine RL_do rfl rfl (Do_move (v := .int .i64 g186) rfl) ?_
          obtain ⟨x228, e229, hF⟩ := bindO_some hF
          refine RL_do rfl rfl (Do_sidx (s1 := p0) (q := g186) u9 rfl rfl e229) ?_
          obtain ⟨x230, e231, hF⟩ := letO_some hF
          refine RL_do rfl rfl (Do_as (Do_lss (a := x228) (b := 33) rfl rfl) (congrArg Value.bool e231)) ?_
          refine RL_splitb (b := x230) rfl rfl rfl (fun c232 => ?_) (fun c232 => ?_)
          · have hF := iteB_t c232 hF
            refine RL_off rfl rfl ?_
            refine RL_off rfl rfl ?_
            refine RL_off rfl rfl ?_
            refine RL_off rfl rfl ?_
            refine RL_do rfl rfl (Do_pick_t (v := .bool true) rfl rfl) ?_
            have hR := Option.some.inj hF
            subst hR
            refine (RL_nil (thenQ_n (And.intro ?_ ?_)))
            · repeat' (first | with_reducible exact Fr_refl | refine Fr_upd rfl ?_ | refine Fr_over rfl rfl ?_)
            · exact ⟨(), (Sl_cons rfl Sl_nil), H.pick [] (by decide)⟩
          · have hF := iteB_f c232 hF
            refine RL_do rfl rfl (Do_move (v := .string (bs p0)) rfl) ?_
            refine RL_do rfl rfl (Do_move (v := .int .i64 g186) rfl) ?_
            obtain ⟨x233, e234, hF⟩ := bindO_some hF
            refine RL_do rfl rfl (Do_sidx (s1 := p0) (q := g186) u9 rfl rfl e234) ?_
            obtain ⟨x235, e236, hF⟩ := letO_some hF
            refine RL_do rfl rfl (Do_as (Do_gtr (a := x233) (b := 126) rfl rfl) (congrArg Value.bool e236)) ?_
            refine RL_do rfl rfl (Do_pick_f (v := .bool x235) rfl rfl) ?_
            have hR := Option.some.inj hF
            subst hR
            refine (RL_nil (thenQ_n (And.intro ?_ ?_)))
            · repeat' (first | with_reducible exact Fr_refl | refine Fr_upd rfl ?_ | refine Fr_over rfl rfl ?_)
            · exact ⟨(), (Sl_cons rfl Sl_nil), H.pick [] (by decide)⟩
        · rintro _ ρ w226 H
          have hF := hK227
          refine WP_ifb (b := g225) rfl (fun c237 => ?_) (fun c237 => ?_)
          · have hF := iteB_t c237 hF
            refine WP_seq_k fun K238 hK238 => ?_
            refine WP_region ?_
            refine RL_do rfl rfl (Do_assign (v := .bool false) rfl) ?_
            refine (RL_nil (thenQ_n (hK238 _ _ ?_)))
            have hR := Option.some.inj hF
            subst hR
            refine (WP_ret (blockQ_r (thenQ_r (thenQ_r (blockQ_r (thenQ_r (post1 (v1 := .bool false) rfl rfl ?_)))))))
            exact ⟨rfl, H.pick [] (by decide)⟩
          · have hF := iteB_f c237 hF
            refine (WP_skip (blockQ_n (thenQ_n (hK214 _ _ ?_))))
            refine WP_region ?_
            obtain ⟨x239, e240, hF⟩ := letO_some hF
            refine RL_do rfl rfl (Do_add (a := g186) (b := 1) rfl rfl e240) ?_
            refine RL_do rfl rfl (Do_move (v := .int .i64 x239) rfl) ?_
            refine (RL_nil (thenQ_n (And.intro ?_ ?_)))
            · repeat' (first | with_reducible exact Fr_refl | refine Fr_upd rfl ?_ | refine Fr_over rfl rfl ?_)
            · exact ⟨(n192, x239), (Sl_cons rfl Sl_nil), ⟨H.pick [] (by decide), hF⟩, Nat.lt_succ_self _⟩
      · have hF := iteB_f c198 hF
        refine (WP_exit (thenQ_x (thenQ_x (blockQ_eq (thenQ_n (And.intro ?_ ?_))))))
        · repeat' (first | with_reducible exact Fr_refl | refine Fr_upd rfl ?_ | refine Fr_over rfl rfl ?_)
        · exact ⟨(), Sl_nil, ⟨H.pick [] (by decide), hF⟩⟩
    · rintro _ ρ w101 ⟨H, hF⟩
      have hF := join_body ek103 hF
      refine WP_seq_k fun K241 hK241 => ?_
      refine WP_region ?_
      refine RL_do rfl rfl (Do_assign (v := .bool true) rfl) ?_
      refine (RL_nil (thenQ_n (hK241 _ _ ?_)))
      have hR := Option.some.inj hF
      subst hR
      refine (WP_ret (post1 (v1 := .bool true) rfl rfl ?_))
      exact ⟨rfl, H.pick [] (by decide)⟩
end Go.Proofs.YtbjhondbheijiaaDoor.L
