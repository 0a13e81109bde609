/- Walks: what each function computes, for every argument; no condition but those that stand in the statements. -/
import Derived.Test.YtafgmocdnjdmoaaDoorAV0
import Derived.Test.YtafgmocdnjdmoaaDoorAV1
namespace Go.Proofs.YtafgmocdnjdmoaaDoor.L
open Go.RowKit Go.OB Go.Lf
/- slices.Equal[[]orangebox/api.Flaw,orangebox/api.Flaw] -/
set_option maxHeartbeats 4000000 in
theorem F_slices_Equal___api_Flaw_api_Flaw__w (p0 : List Flaw) (p1 : List Flaw) (v1 : Value) (v3 : Value) (r : Bool) (hF : F_slices_Equal___api_Flaw_api_Flaw_ p0 p1 = some r) (O S : List Nat) (w : World) (H : Hd O w w S [.fz (.sl rFlaw v1 p0), .fz (.sl rFlaw v3 p1)]) :
    Calls Tryd.prog 54 ([v1, v3] : List Value).toArray w fun e w' => e = .returned (.bool r) ∧ Hd O w w' S [] := by
  unfold F_slices_Equal___api_Flaw_api_Flaw_ at hF
  refine calls_of_WP 26 Tryd.func54 rfl rfl rfl ?_
  refine WP_seq_k fun K5 hK5 => ?_
  refine WP_region ?_
  refine RL_do rfl rfl (Do_assign (v := .bool false) rfl) ?_
  refine (RL_nil (thenQ_n (hK5 _ _ ?_)))
  refine WP_seq_k fun K21 hK21 => ?_
  refine WP_seq_k fun K22 hK22 => ?_
  refine WP_region ?_
  refine RL_do rfl rfl (Do_move (v := v1) rfl) ?_
  obtain ⟨x23, e24, hF⟩ := letO_some hF
  obtain ⟨a25, c26, q27⟩ := SlF.len ((H.item (i := 0) rfl))
  refine RL_do rfl rfl (Do_as (Do_len u50 q27) (congrArg (Value.int .i64) e24)) ?_
  refine RL_do rfl rfl (Do_move (v := v3) rfl) ?_
  obtain ⟨x28, e29, hF⟩ := letO_some hF
  obtain ⟨a30, c31, q32⟩ := SlF.len ((H.item (i := 1) rfl))
  refine RL_do rfl rfl (Do_as (Do_len u50 q32) (congrArg (Value.int .i64) e29)) ?_
  obtain ⟨x33, e34, hF⟩ := letO_some hF
  refine RL_do rfl rfl (Do_as (Do_neq (a := x23) (b := x28) rfl rfl) (congrArg Value.bool e34)) ?_
  refine (RL_nil (thenQ_n (hK22 _ _ ?_)))
  refine WP_ifb (b := x33) rfl (fun c35 => ?_) (fun c35 => ?_)
  · have hF := iteB_t c35 hF
    refine WP_seq_k fun K36 hK36 => ?_
    refine WP_region ?_
    refine RL_do rfl rfl (Do_assign (v := .bool false) rfl) ?_
    refine (RL_nil (thenQ_n (hK36 _ _ ?_)))
    have hR := Option.some.inj hF
    subst hR
    refine (WP_ret (thenQ_r (post1 (v1 := .bool false) rfl rfl ?_)))
    exact ⟨rfl, H.pick [] (by decide)⟩
  · have hF := iteB_f c35 hF
    refine (WP_skip (thenQ_n (hK21 _ _ ?_)))
    obtain ⟨k201, ek202, hF⟩ := joinO_some hF
    refine WP_seqS [4, 5, 11, 12, 13, 14, 15, 16, 17, 18, 19, 20, 21, 22, 23, 24, 25] (fun (g : Unit) => []) (fun g wl => Hd O w wl S [] ∧ k201 () = some r) ?_ ?_
    · skip
      refine WP_seq_k fun K203 hK203 => ?_
      refine WP_region ?_
      refine RL_do rfl rfl (Do_move (v := v1) rfl) ?_
      obtain ⟨x204, e205, hF⟩ := letO_some hF
      obtain ⟨a206, c207, q208⟩ := SlF.len ((H.item (i := 0) rfl))
      refine RL_do rfl rfl (Do_as (Do_len u50 q208) (congrArg (Value.int .i64) e205)) ?_
      refine RL_do rfl rfl (Do_move (v := .int .i64 0) rfl) ?_
      refine (RL_nil (thenQ_n (hK203 _ _ ?_)))
      refine WP_block ?_
      unfold F_slices_Equal___api_Flaw_api_Flaw__L1 at hF
      obtain ⟨B361, n362, eB363, hF⟩ := loopO_some hF
      refine WP_loopS [4, 5, 13, 14, 15, 16, 17, 18, 19, 20, 21, 22, 23, 24, 25] (fun (g : Nat × Int) => [(13, .int .i64 g.2)]) (fun g wl => Hd O w wl S [.fz (.sl rFlaw v1 p0), .fz (.sl rFlaw v3 p1)] ∧ loopN B361 g.1 g.2 = some r) (fun g => g.1) (n362, 0) (Sl_cons rfl Sl_nil) ⟨H.pick [0, 1] (by decide), hF⟩ ?_
      clear H hF
      rintro ⟨n362, g360⟩ ρ w365 ⟨H, hF⟩
      obtain ⟨n366, rfl, hF⟩ := loopN_pos hF
      have hF := loop_body eB363 hF
      refine WP_seq_k fun K367 hK367 => ?_
      refine WP_region ?_
      obtain ⟨x368, e369, hF⟩ := letO_some hF
      refine RL_do rfl rfl (Do_as (Do_lss (a := g360) (b := x204) rfl rfl) (congrArg Value.bool e369)) ?_
      refine (RL_nil (thenQ_n (hK367 _ _ ?_)))
      refine WP_seq_k fun K371 hK371 => ?_
      refine WP_ifb (b := x368) rfl (fun c372 => ?_) (fun c372 => ?_)
      · have hF := iteB_t c372 hF
        refine (WP_skip (thenQ_n (hK371 _ _ ?_)))
        refine WP_seq_k fun K406 hK406 => ?_
        refine WP_block ?_
        refine WP_seq_k fun K407 hK407 => ?_
        refine WP_region ?_
        refine RL_do rfl rfl (Do_move (v := .int .i64 g360) rfl) ?_
        refine RL_do rfl rfl (Do_assign (v := .int .i64 g360) rfl) ?_
        refine (RL_nil (thenQ_n (hK407 _ _ ?_)))
        refine WP_seq_k fun K408 hK408 => ?_
        have H409 := H
        have H := H.rebase
        have H410 := H
        refine WP_mix0 H [0, 1, 2, 3, 4, 5, 6, 7, 8] [.pure, .pure, .pure, .read, .pure, .pure, .pure, .read, .pure] mixed (by kernel_rfl) (by kernel_rfl) (by kernel_rfl) rfl ?_
        refine Mx.XL_pure rfl rfl rfl (fun w' hw' => Do_move (v := v1) rfl) ?_
        refine Mx.XL_pure rfl rfl rfl (fun w' hw' => Do_move (v := .int .i64 g360) rfl) ?_
        obtain ⟨x411, e412, hF⟩ := bindO_some hF
        obtain ⟨b413, o414, c415, cs416, q417, h420, h418, h419, h421⟩ := rd_at (H.item (i := 0) rfl) e412
        obtain rfl := rFlaw_open h420
        have H := H.fz (.at b413 (o414 + g360.toNat * 2) _) ⟨h418, h419, h421⟩
        refine Mx.XL_pure rfl rfl rfl (fun w' hw' => Do_idx u50 sz80 q417 rfl (at_some e412).1 (at_some e412).2.1 rfl rfl) ?_
        refine Mx.XL_read oS rfl rfl rfl (fun w' hw' => Do_as (Do_loads (cs := [.int .i64 x411.Word, .int .i64 x411.Kind]) agg80 rfl sz80 rfl ((H.sees hw').item (i := 2) rfl).2.2) rfl) ?_
        refine Mx.XL_pure rfl rfl rfl (fun w' hw' => Do_move (v := v3) rfl) ?_
        refine Mx.XL_pure rfl rfl rfl (fun w' hw' => Do_move (v := .int .i64 g360) rfl) ?_
        obtain ⟨x423, e424, hF⟩ := bindO_some hF
        obtain ⟨b425, o426, c427, cs428, q429, h432, h430, h431, h433⟩ := rd_at (H.item (i := 1) rfl) e424
        obtain rfl := rFlaw_open h432
        have H := H.fz (.at b425 (o426 + g360.toNat * 2) _) ⟨h430, h431, h433⟩
        refine Mx.XL_pure rfl rfl rfl (fun w' hw' => Do_idx u50 sz80 q429 rfl (at_some e424).1 (at_some e424).2.1 rfl rfl) ?_
        refine Mx.XL_read oS rfl rfl rfl (fun w' hw' => Do_as (Do_loads (cs := [.int .i64 x423.Word, .int .i64 x423.Kind]) agg80 rfl sz80 rfl ((H.sees hw').item (i := 3) rfl).2.2) rfl) ?_
        obtain ⟨x435, e436, hF⟩ := letO_some hF
        refine Mx.XL_pure rfl rfl rfl (fun w' hw' => Do_as (Do_neqF (e := flFlaw) (a := x411) (b := x423) (by kernel_rfl) eqf80 (by decide) agg80 sz80 rfl rfl) (congrArg Value.bool e436)) ?_
        refine Mx.XL_nil fun w437 hS => ?_
        have H := H.sees hS
        have H := H409.rejoin H
        refine (thenQ_n (hK408 _ _ ?_))
        refine WP_ifb (b := x435) rfl (fun c438 => ?_) (fun c438 => ?_)
        · have hF := iteB_t c438 hF
          refine WP_seq_k fun K439 hK439 => ?_
          refine WP_region ?_
          refine RL_do rfl rfl (Do_assign (v := .bool false) rfl) ?_
          refine (RL_nil (thenQ_n (hK439 _ _ ?_)))
          have hR := Option.some.inj hF
          subst hR
          refine (WP_ret (blockQ_r (thenQ_r (thenQ_r (blockQ_r (thenQ_r (post1 (v1 := .bool false) rfl rfl ?_)))))))
          exact ⟨rfl, H.pick [] (by decide)⟩
        · have hF := iteB_f c438 hF
          refine (WP_skip (blockQ_n (thenQ_n (hK406 _ _ ?_))))
          refine WP_region ?_
          obtain ⟨x440, e441, hF⟩ := letO_some hF
          refine RL_do rfl rfl (Do_add (a := g360) (b := 1) rfl rfl e441) ?_
          refine RL_do rfl rfl (Do_move (v := .int .i64 x440) rfl) ?_
          refine (RL_nil (thenQ_n (And.intro ?_ ?_)))
          · repeat' (first | with_reducible exact Fr_refl | refine Fr_upd rfl ?_ | refine Fr_over rfl rfl ?_)
          · exact ⟨(n366, x440), (Sl_cons rfl Sl_nil), ⟨H.pick [0, 1] (by decide), hF⟩, Nat.lt_succ_self _⟩
      · have hF := iteB_f c372 hF
        refine (WP_exit (thenQ_x (thenQ_x (blockQ_eq (thenQ_n (And.intro ?_ ?_))))))
        · repeat' (first | with_reducible exact Fr_refl | refine Fr_upd rfl ?_ | refine Fr_over rfl rfl ?_)
        · exact ⟨(), Sl_nil, ⟨H.pick [] (by decide), hF⟩⟩
    · rintro _ ρ w200 ⟨H, hF⟩
      have hF := join_body ek202 hF
      refine WP_seq_k fun K442 hK442 => ?_
      refine WP_region ?_
      refine RL_do rfl rfl (Do_assign (v := .bool true) rfl) ?_
      refine (RL_nil (thenQ_n (hK442 _ _ ?_)))
      have hR := Option.some.inj hF
      subst hR
      refine (WP_ret (post1 (v1 := .bool true) rfl rfl ?_))
      exact ⟨rfl, H.pick [] (by decide)⟩
end Go.Proofs.YtafgmocdnjdmoaaDoor.L
namespace Go.Proofs.YtafgmocdnjdmoaaDoor.L
open Go.RowKit Go.OB Go.Lf
/- orangebox/orangeboxref1.Wide -/
set_option maxHeartbeats 4000000 in
theorem F_ref1_Wide_w (p0 : Arr 64 Int) (r : Bool) (hF : F_ref1_Wide p0 = some r) (O S : List Nat) (w : World) (H : Hd O w w S []) :
    Calls Tryd.prog 74 ([.agg ((Fl.arr 64 (Fl.int .u16)).f p0).toArray] : List Value).toArray w fun e w' => e = .returned (.bool r) ∧ Hd O w w' S [] := by
  unfold F_ref1_Wide at hF
  refine calls_of_WP 12 Tryd.func74 rfl rfl rfl ?_
  refine WP_seq_k fun K1 hK1 => ?_
  refine WP_region ?_
  refine RL_ex rfl rfl (Lx_box (cs := (Fl.arr 64 (Fl.int .u16)).f p0) rfl H) ?_
  rintro _ w4 ⟨b2, rfl, H⟩
  refine RL_do rfl rfl (Do_assign (v := .bool false) rfl) ?_
  refine (RL_nil (thenQ_n (hK1 _ _ ?_)))
  obtain ⟨k64, ek65, hF⟩ := joinO_some hF
  refine WP_seqS [2, 4, 5, 6, 7, 8, 9, 10, 11] (fun (g : Unit) => []) (fun g wl => Hd O w wl S [] ∧ k64 () = some r) ?_ ?_
  · skip
    refine WP_seq_k fun K66 hK66 => ?_
    refine WP_region ?_
    refine RL_do rfl rfl (Do_loadF (e := (Fl.arr 64 (Fl.int .u16))) (a := p0) agg25 rfl sz25 (Blk.cells (H.item (i := 0) rfl))) ?_
    refine RL_do rfl rfl (Do_move (v := .int .i64 0) rfl) ?_
    refine (RL_nil (thenQ_n (hK66 _ _ ?_)))
    refine WP_block ?_
    unfold F_ref1_Wide_L1 at hF
    obtain ⟨B119, n120, eB121, hF⟩ := loopO_some hF
    refine WP_loopS [2, 4, 6, 7, 8, 9, 10, 11] (fun (g : Nat × Int) => [(6, .int .i64 g.2)]) (fun g wl => Hd O w wl S [] ∧ loopN B119 g.1 g.2 = some r) (fun g => g.1) (n120, 0) (Sl_cons rfl Sl_nil) ⟨H.pick [] (by decide), hF⟩ ?_
    clear H hF
    rintro ⟨n120, g118⟩ ρ w123 ⟨H, hF⟩
    obtain ⟨n124, rfl, hF⟩ := loopN_pos hF
    have hF := loop_body eB121 hF
    refine WP_seq_k fun K125 hK125 => ?_
    refine WP_region ?_
    obtain ⟨x126, e127, hF⟩ := letO_some hF
    refine RL_do rfl rfl (Do_as (Do_lss (a := g118) (b := 64) rfl rfl) (congrArg Value.bool e127)) ?_
    refine (RL_nil (thenQ_n (hK125 _ _ ?_)))
    refine WP_seq_k fun K129 hK129 => ?_
    refine WP_ifb (b := x126) rfl (fun c130 => ?_) (fun c130 => ?_)
    · have hF := iteB_t c130 hF
      refine (WP_skip (thenQ_n (hK129 _ _ ?_)))
      refine WP_seq_k fun K139 hK139 => ?_
      refine WP_block ?_
      refine WP_seq_k fun K140 hK140 => ?_
      refine WP_region ?_
      obtain ⟨x141, e142, hF⟩ := bindO_some hF
      refine RL_do rfl rfl (Do_indexA1 (e := (Fl.int .u16)) (X := p0) u25 one23 sz23 rfl rfl rfl e142 rfl) ?_
      refine RL_do rfl rfl (Do_assign (v := .int .u16 x141) rfl) ?_
      refine (RL_nil (thenQ_n (hK140 _ _ ?_)))
      refine WP_seq_k fun K143 hK143 => ?_
      refine WP_region ?_
      refine RL_do rfl rfl (Do_move (v := .int .u16 x141) rfl) ?_
      obtain ⟨x144, e145, hF⟩ := letO_some hF
      refine RL_do rfl rfl (Do_as (Do_gtr (a := x141) (b := 4095) rfl rfl) (congrArg Value.bool e145)) ?_
      refine (RL_nil (thenQ_n (hK143 _ _ ?_)))
      refine WP_ifb (b := x144) rfl (fun c146 => ?_) (fun c146 => ?_)
      · have hF := iteB_t c146 hF
        refine WP_seq_k fun K147 hK147 => ?_
        refine WP_region ?_
        refine RL_do rfl rfl (Do_assign (v := .bool true) rfl) ?_
        refine (RL_nil (thenQ_n (hK147 _ _ ?_)))
        have hR := Option.some.inj hF
        subst hR
        refine (WP_ret (blockQ_r (thenQ_r (thenQ_r (blockQ_r (thenQ_r (post1 (v1 := .bool true) rfl rfl ?_)))))))
        exact ⟨rfl, H.pick [] (by decide)⟩
      · have hF := iteB_f c146 hF
        refine (WP_skip (blockQ_n (thenQ_n (hK139 _ _ ?_))))
        refine WP_region ?_
        obtain ⟨x148, e149, hF⟩ := letO_some hF
        refine RL_do rfl rfl (Do_add (a := g118) (b := 1) rfl rfl e149) ?_
        refine RL_do rfl rfl (Do_move (v := .int .i64 x148) rfl) ?_
        refine (RL_nil (thenQ_n (And.intro ?_ ?_)))
        · repeat' (first | with_reducible exact Fr_refl | refine Fr_upd rfl ?_ | refine Fr_over rfl rfl ?_)
        · exact ⟨(n124, x148), (Sl_cons rfl Sl_nil), ⟨H.pick [] (by decide), hF⟩, Nat.lt_succ_self _⟩
    · have hF := iteB_f c130 hF
      refine (WP_exit (thenQ_x (thenQ_x (blockQ_eq (thenQ_n (And.intro ?_ ?_))))))
      · repeat' (first | with_reducible exact Fr_refl | refine Fr_upd rfl ?_ | refine Fr_over rfl rfl ?_)
      · exact ⟨(), Sl_nil, ⟨H.pick [] (by decide), hF⟩⟩
  · rintro _ ρ w63 ⟨H, hF⟩
    have hF := join_body ek65 hF
    refine WP_seq_k fun K150 hK150 => ?_
    refine WP_region ?_
    refine RL_do rfl rfl (Do_assign (v := .bool false) rfl) ?_
    refine (RL_nil (thenQ_n (hK150 _ _ ?_)))
    have hR := Option.some.inj hF
    subst hR
    refine (WP_ret (post1 (v1 := .bool false) rfl rfl ?_))
    exact ⟨rfl, H.pick [] (by decide)⟩
end Go.Proofs.YtafgmocdnjdmoaaDoor.L
namespace Go.Proofs.YtafgmocdnjdmoaaDoor.L
open Go.RowKit Go.OB Go.Lf
/- orangebox/orangeboxref1.Seal -/
set_option maxHeartbeats 4000000 in
theorem F_ref1_Seal_w (p0 : Arr 64 Int) (r : (Arr 64 Int) × Int) (hF : F_ref1_Seal p0 = some r) (O S : List Nat) (w : World) (H : Hd O w w S []) :
    Calls Tryd.prog 56 ([.agg ((Fl.arr 64 (Fl.int .u16)).f p0).toArray] : List Value).toArray w fun e w' => e = .returned (.tuple #[.agg ((Fl.arr 64 (Fl.int .u16)).f r.1).toArray, .int .i64 r.2]) ∧ Hd O w w' S [] := by
  unfold F_ref1_Seal at hF
  refine calls_of_WP 9 Tryd.func56 rfl rfl rfl ?_
  refine WP_seq_k fun K1 hK1 => ?_
  refine WP_region ?_
  refine RL_ex rfl rfl (Lx_box (cs := (Fl.arr 64 (Fl.int .u16)).f p0) rfl H) ?_
  rintro _ w4 ⟨b2, rfl, H⟩
  refine RL_ex rfl rfl (Lx_alloc zero25 H) ?_
  rintro _ w7 ⟨b5, rfl, H⟩
  refine RL_do rfl rfl (Do_assign (v := .int .i64 0) rfl) ?_
  refine (RL_nil (thenQ_n (hK1 _ _ ?_)))
  refine WP_seq_k fun K17 hK17 => ?_
  refine WP_seq_k fun K18 hK18 => ?_
  refine WP_region ?_
  refine RL_do rfl rfl (Do_loadF (e := (Fl.arr 64 (Fl.int .u16))) (a := p0) agg25 rfl sz25 (Blk.cells (H.item (i := 0) rfl))) ?_
  have H19 := H
  obtain ⟨x20, e21, hF⟩ := bindO_some hF
  refine RL_call rfl rfl (DoC_func en74 rfl) (F_ref1_Wide_w p0 _ e21 _ _ _ (H.enter [] [] (by decide) rfl)) ?_
  rintro _ w22 ⟨rfl, G23⟩
  have H := H19.step (G23.only : Only [] _ _)
  refine ⟨_, rfl, ?_⟩
  refine (RL_nil (thenQ_n (hK18 _ _ ?_)))
  refine WP_ifb (b := x20) rfl (fun c24 => ?_) (fun c24 => ?_)
  · have hF := iteB_t c24 hF
    refine WP_seq_k fun K25 hK25 => ?_
    refine WP_region ?_
    refine RL_do rfl rfl (Do_build (cs := (Fl.arr 64 (Fl.int .u16)).f (Arr.rep 64 0 : Arr 64 Int)) bz25) ?_
    refine RL_exU rfl (Lx_storeW (e := (Fl.arr 64 (Fl.int .u16))) (a := (Arr.rep 64 0 : Arr 64 Int)) (a' := (Arr.rep 64 0 : Arr 64 Int)) H 1 rfl sz25 rfl rfl) ?_
    rintro w26 H
    refine RL_do rfl rfl (Do_assign (v := .int .i64 9) rfl) ?_
    refine (RL_nil (thenQ_n (hK25 _ _ ?_)))
    have hR := Option.some.inj hF
    subst hR
    refine (WP_ret (thenQ_r (postc1 (v1 := .int .i64 9) rfl rfl (run_loadVar_agg agg25 sz25 (Fl.len _ _) (Blk.cells (H.item (i := 1) rfl))) rfl ?_)))
    exact ⟨rfl, H.pick [] (by decide)⟩
  · have hF := iteB_f c24 hF
    refine (WP_skip (thenQ_n (hK17 _ _ ?_)))
    refine WP_seq_k fun K27 hK27 => ?_
    refine WP_region ?_
    refine RL_do rfl rfl (Do_loadF (e := (Fl.arr 64 (Fl.int .u16))) (a := p0) agg25 rfl sz25 (Blk.cells (H.item (i := 0) rfl))) ?_
    have H28 := H
    obtain ⟨x29, e30, hF⟩ := bindO_some hF
    refine RL_call rfl rfl (DoC_func en98 rfl) (X_sealed_w p0 _ e30 _ _ _ (H.enter [] [] (by decide) rfl)) ?_
    rintro _ w31 ⟨rfl, G32⟩
    have H := H28.step (G32.only : Only [] _ _)
    refine ⟨_, rfl, ?_⟩
    refine RL_exU rfl (Lx_storeW (e := (Fl.arr 64 (Fl.int .u16))) (a := (Arr.rep 64 0 : Arr 64 Int)) (a' := x29) H 1 rfl sz25 rfl rfl) ?_
    rintro w33 H
    refine RL_do rfl rfl (Do_assign (v := .int .i64 0) rfl) ?_
    refine (RL_nil (thenQ_n (hK27 _ _ ?_)))
    have hR := Option.some.inj hF
    subst hR
    refine (WP_ret (postc1 (v1 := .int .i64 0) rfl rfl (run_loadVar_agg agg25 sz25 (Fl.len _ _) (Blk.cells (H.item (i := 1) rfl))) rfl ?_))
    exact ⟨rfl, H.pick [] (by decide)⟩
end Go.Proofs.YtafgmocdnjdmoaaDoor.L
namespace Go.Proofs.YtafgmocdnjdmoaaDoor.L
open Go.RowKit Go.OB Go.Lf
/- orangebox/frame.Hash -/
set_option maxHeartbeats 4000000 in
theorem F_frame_Hash_w (p0 : Arr 64 Int) (r : (Arr 8 Int)) (hF : F_frame_Hash p0 = some r) (O S : List Nat) (w : World) (H : Hd O w w S []) :
    Calls Tryd.prog 57 ([.agg ((Fl.arr 64 (Fl.int .u16)).f p0).toArray] : List Value).toArray w fun e w' => e = .returned (.agg ((Fl.arr 8 (Fl.int .u8)).f r).toArray) ∧ Hd O w w' S [] := by
  unfold F_frame_Hash at hF
  refine calls_of_WP 43 Tryd.func57 rfl rfl rfl ?_
  refine WP_seq_k fun K1 hK1 => ?_
  refine WP_region ?_
  refine RL_ex rfl rfl (Lx_box (cs := (Fl.arr 64 (Fl.int .u16)).f p0) rfl H) ?_
  rintro _ w4 ⟨b2, rfl, H⟩
  refine RL_ex rfl rfl (Lx_alloc zero82 H) ?_
  rintro _ w7 ⟨b5, rfl, H⟩
  refine (RL_nil (thenQ_n (hK1 _ _ ?_)))
  refine WP_seq_k fun K8 hK8 => ?_
  refine WP_region ?_
  refine RL_do rfl rfl (Do_assign (v := .int .u64 14695981039346656037) rfl) ?_
  refine (RL_nil (thenQ_n (hK8 _ _ ?_)))
  obtain ⟨g172, hF, hK174⟩ := bindO_some hF
  refine WP_seqS [3, 5, 7, 10, 11, 12, 13, 14, 15, 16, 17, 18, 19, 20, 21, 22, 23, 24, 25, 26, 27, 28, 29] (fun (g : Unit) => [(3, .int .u64 g172)]) (fun g wl => Hd O w wl S [.blk b5 ((Fl.arr 8 (Fl.int .u8)).f (Arr.rep 8 0 : Arr 8 Int)) 82]) ?_ ?_
  · skip
    refine WP_seq_k fun K175 hK175 => ?_
    refine WP_region ?_
    refine RL_do rfl rfl (Do_loadF (e := (Fl.arr 64 (Fl.int .u16))) (a := p0) agg25 rfl sz25 (Blk.cells (H.item (i := 0) rfl))) ?_
    refine RL_do rfl rfl (Do_move (v := .int .i64 0) rfl) ?_
    refine (RL_nil (thenQ_n (hK175 _ _ ?_)))
    refine WP_block ?_
    unfold F_frame_Hash_L1 at hF
    obtain ⟨B334, n335, eB336, hF⟩ := loopO_some hF
    refine WP_loopS [3, 5, 7, 11, 12, 13, 14, 15, 16, 17, 18, 19, 20, 21, 22, 23, 24, 25, 26, 27, 28, 29] (fun (g : Nat × Int × Int) => [(3, .int .u64 g.2.1), (11, .int .i64 g.2.2)]) (fun g wl => Hd O w wl S [.blk b5 ((Fl.arr 8 (Fl.int .u8)).f (Arr.rep 8 0 : Arr 8 Int)) 82] ∧ loopN B334 g.1 (g.2.1, g.2.2) = some g172) (fun g => g.1) (n335, 14695981039346656037, 0) (Sl_cons rfl (Sl_cons rfl Sl_nil)) ⟨H.pick [1] (by decide), hF⟩ ?_
    clear H hF
    rintro ⟨n335, g332, g333⟩ ρ w338 ⟨H, hF⟩
    obtain ⟨n339, rfl, hF⟩ := loopN_pos hF
    have hF := loop_body eB336 hF
    refine WP_seq_k fun K340 hK340 => ?_
    refine WP_region ?_
    obtain ⟨x341, e342, hF⟩ := letO_some hF
    refine RL_do rfl rfl (Do_as (Do_lss (a := g333) (b := 64) rfl rfl) (congrArg Value.bool e342)) ?_
    refine (RL_nil (thenQ_n (hK340 _ _ ?_)))
    refine WP_seq_k fun K344 hK344 => ?_
    refine WP_ifb (b := x341) rfl (fun c345 => ?_) (fun c345 => ?_)
    · have hF := iteB_t c345 hF
      refine (WP_skip (thenQ_n (hK344 _ _ ?_)))
      obtain ⟨g412, hF, hK414⟩ := bindO_some hF
      refine WP_seqS [3, 5, 7, 13, 14, 15, 16, 17, 18, 19, 20, 21, 22, 23, 24, 25, 26, 27, 28] (fun (g : Unit) => [(3, .int .u64 g412)]) (fun g wl => Hd O w wl S [.blk b5 ((Fl.arr 8 (Fl.int .u8)).f (Arr.rep 8 0 : Arr 8 Int)) 82]) ?_ ?_
      · skip
        refine WP_block ?_
        refine WP_seq_k fun K415 hK415 => ?_
        refine WP_region ?_
        obtain ⟨x416, e417, hF⟩ := bindO_some hF
        refine RL_do rfl rfl (Do_indexA1 (e := (Fl.int .u16)) (X := p0) u25 one23 sz23 rfl rfl rfl e417 rfl) ?_
        refine RL_do rfl rfl (Do_assign (v := .int .u16 x416) rfl) ?_
        refine (RL_nil (thenQ_n (hK415 _ _ ?_)))
        refine WP_seq_k fun K418 hK418 => ?_
        refine WP_region ?_
        refine RL_do rfl rfl (Do_move (v := .int .u16 x416) rfl) ?_
        obtain ⟨x419, e420, hF⟩ := bindO_some hF
        refine RL_do rfl rfl (Do_shr' (j := x416) (q := 8) rfl rfl e420) ?_
        obtain ⟨x421, e422, hF⟩ := letO_some hF
        refine RL_do rfl rfl (Do_conv u23 u123 rfl e422) ?_
        refine RL_do rfl rfl (Do_move (v := .int .u16 x416) rfl) ?_
        obtain ⟨x423, e424, hF⟩ := letO_some hF
        refine RL_do rfl rfl (Do_and (a := x416) (b := 255) rfl rfl e424) ?_
        obtain ⟨x425, e426, hF⟩ := letO_some hF
        refine RL_do rfl rfl (Do_conv u23 u123 rfl e426) ?_
        refine RL_do rfl rfl (Do_build (cs := (Fl.arr 2 (Fl.int .u64)).f (⟨[x421, x425], rfl⟩ : Arr 2 Int)) (bt124_0_1 _ _)) ?_
        refine RL_do rfl rfl (Do_move (v := .int .i64 0) rfl) ?_
        refine (RL_nil (thenQ_n (hK418 _ _ ?_)))
        refine WP_block ?_
        unfold F_frame_Hash_L2 at hF
        obtain ⟨B477, n478, eB479, hF⟩ := loopO_some hF
        refine WP_loopS [3, 7, 21, 22, 23, 24, 25, 26, 27, 28] (fun (g : Nat × Int × Int) => [(3, .int .u64 g.2.1), (21, .int .i64 g.2.2)]) (fun g wl => Hd O w wl S [.blk b5 ((Fl.arr 8 (Fl.int .u8)).f (Arr.rep 8 0 : Arr 8 Int)) 82] ∧ loopN B477 g.1 (g.2.1, g.2.2) = some g412) (fun g => g.1) (n478, g332, 0) (Sl_cons rfl (Sl_cons rfl Sl_nil)) ⟨H.pick [0] (by decide), hF⟩ ?_
        clear H hF
        rintro ⟨n478, g475, g476⟩ ρ w481 ⟨H, hF⟩
        obtain ⟨n482, rfl, hF⟩ := loopN_pos hF
        have hF := loop_body eB479 hF
        refine WP_seq_k fun K483 hK483 => ?_
        refine WP_region ?_
        obtain ⟨x484, e485, hF⟩ := letO_some hF
        refine RL_do rfl rfl (Do_as (Do_lss (a := g476) (b := 2) rfl rfl) (congrArg Value.bool e485)) ?_
        refine (RL_nil (thenQ_n (hK483 _ _ ?_)))
        refine WP_seq_k fun K487 hK487 => ?_
        refine WP_ifb (b := x484) rfl (fun c488 => ?_) (fun c488 => ?_)
        · have hF := iteB_t c488 hF
          refine (WP_skip (thenQ_n (hK487 _ _ ?_)))
          refine WP_seq_k fun K496 hK496 => ?_
          refine WP_block ?_
          refine WP_seq_k fun K497 hK497 => ?_
          refine WP_region ?_
          obtain ⟨x498, e499, hF⟩ := bindO_some hF
          refine RL_do rfl rfl (Do_indexA1 (e := (Fl.int .u64)) (X := (⟨[x421, x425], rfl⟩ : Arr 2 Int)) u124 one123 sz123 rfl rfl rfl e499 rfl) ?_
          refine RL_do rfl rfl (Do_assign (v := .int .u64 x498) rfl) ?_
          refine (RL_nil (thenQ_n (hK497 _ _ ?_)))
          refine WP_region ?_
          refine RL_do rfl rfl (Do_move (v := .int .u64 g475) rfl) ?_
          refine RL_do rfl rfl (Do_move (v := .int .u64 x498) rfl) ?_
          obtain ⟨x500, e501, hF⟩ := letO_some hF
          refine RL_do rfl rfl (Do_xor (a := g475) (b := x498) rfl rfl e501) ?_
          obtain ⟨x502, e503, hF⟩ := letO_some hF
          refine RL_do rfl rfl (Do_mul (a := x500) (b := 1099511628211) rfl rfl e503) ?_
          refine RL_do rfl rfl (Do_assign (v := .int .u64 x502) rfl) ?_
          refine (RL_nil (blockQ_n (thenQ_n (hK496 _ _ ?_))))
          refine WP_region ?_
          obtain ⟨x504, e505, hF⟩ := letO_some hF
          refine RL_do rfl rfl (Do_add (a := g476) (b := 1) rfl rfl e505) ?_
          refine RL_do rfl rfl (Do_move (v := .int .i64 x504) rfl) ?_
          refine (RL_nil (thenQ_n (And.intro ?_ ?_)))
          · repeat' (first | with_reducible exact Fr_refl | refine Fr_upd rfl ?_ | refine Fr_over rfl rfl ?_)
          · exact ⟨(n482, x502, x504), (Sl_cons rfl (Sl_cons rfl Sl_nil)), ⟨H.pick [0] (by decide), hF⟩, Nat.lt_succ_self _⟩
        · have hF := iteB_f c488 hF
          have hR := Option.some.inj hF
          subst hR
          refine (WP_exit (thenQ_x (thenQ_x (blockQ_eq (blockQ_n (thenQ_n (And.intro ?_ ?_)))))))
          · repeat' (first | with_reducible exact Fr_refl | refine Fr_upd rfl ?_ | refine Fr_over rfl rfl ?_)
          · exact ⟨(), (Sl_cons rfl Sl_nil), H.pick [0] (by decide)⟩
      · rintro _ ρ w413 H
        have hF := hK414
        refine WP_region ?_
        obtain ⟨x506, e507, hF⟩ := letO_some hF
        refine RL_do rfl rfl (Do_add (a := g333) (b := 1) rfl rfl e507) ?_
        refine RL_do rfl rfl (Do_move (v := .int .i64 x506) rfl) ?_
        refine (RL_nil (thenQ_n (And.intro ?_ ?_)))
        · repeat' (first | with_reducible exact Fr_refl | refine Fr_upd rfl ?_ | refine Fr_over rfl rfl ?_)
        · exact ⟨(n339, g412, x506), (Sl_cons rfl (Sl_cons rfl Sl_nil)), ⟨H.pick [0] (by decide), hF⟩, Nat.lt_succ_self _⟩
    · have hF := iteB_f c345 hF
      have hR := Option.some.inj hF
      subst hR
      refine (WP_exit (thenQ_x (thenQ_x (blockQ_eq (thenQ_n (And.intro ?_ ?_))))))
      · repeat' (first | with_reducible exact Fr_refl | refine Fr_upd rfl ?_ | refine Fr_over rfl rfl ?_)
      · exact ⟨(), (Sl_cons rfl Sl_nil), H.pick [0] (by decide)⟩
  · rintro _ ρ w173 H
    have hF := hK174
    refine WP_seq_k fun K508 hK508 => ?_
    refine WP_region ?_
    refine RL_ex rfl rfl (Lx_alloc zero82 H) ?_
    rintro _ w511 ⟨b509, rfl, H⟩
    refine (RL_nil (thenQ_n (hK508 _ _ ?_)))
    obtain ⟨g595, hF, hK597⟩ := bindO_some hF
    refine WP_seqS [9, 30, 31, 32, 33, 34, 35, 36, 37, 38, 39, 40, 41] (fun (g : Unit) => []) (fun g wl => Hd O w wl S [.blk b5 ((Fl.arr 8 (Fl.int .u8)).f (Arr.rep 8 0 : Arr 8 Int)) 82, .blk b509 ((Fl.arr 8 (Fl.int .u8)).f g595) 82]) ?_ ?_
    · skip
      refine WP_seq_k fun K598 hK598 => ?_
      refine WP_region ?_
      refine RL_do rfl rfl (Do_move (v := .int .i64 0) rfl) ?_
      refine (RL_nil (thenQ_n (hK598 _ _ ?_)))
      refine WP_block ?_
      unfold F_frame_Hash_L3 at hF
      obtain ⟨B677, n678, eB679, hF⟩ := loopO_some hF
      refine WP_loopS [9, 30, 31, 32, 33, 34, 35, 36, 37, 38, 39, 40, 41] (fun (g : Nat × Int × (Arr 8 Int)) => [(30, .int .i64 g.2.1)]) (fun g wl => Hd O w wl S [.blk b5 ((Fl.arr 8 (Fl.int .u8)).f (Arr.rep 8 0 : Arr 8 Int)) 82, .blk b509 ((Fl.arr 8 (Fl.int .u8)).f g.2.2) 82] ∧ loopN B677 g.1 (g.2.1, g.2.2) = some g595) (fun g => g.1) (n678, 0, (Arr.rep 8 0 : Arr 8 Int)) (Sl_cons rfl Sl_nil) ⟨H.pick [0, 1] (by decide), hF⟩ ?_
      clear H hF
      rintro ⟨n678, g675, g676⟩ ρ w681 ⟨H, hF⟩
      obtain ⟨n682, rfl, hF⟩ := loopN_pos hF
      have hF := loop_body eB679 hF
      refine WP_seq_k fun K683 hK683 => ?_
      refine WP_region ?_
      obtain ⟨x684, e685, hF⟩ := letO_some hF
      refine RL_do rfl rfl (Do_as (Do_lss (a := g675) (b := 8) rfl rfl) (congrArg Value.bool e685)) ?_
      refine (RL_nil (thenQ_n (hK683 _ _ ?_)))
      refine WP_seq_k fun K687 hK687 => ?_
      refine WP_ifb (b := x684) rfl (fun c688 => ?_) (fun c688 => ?_)
      · have hF := iteB_t c688 hF
        refine (WP_skip (thenQ_n (hK687 _ _ ?_)))
        refine WP_seq_k fun K703 hK703 => ?_
        refine WP_block ?_
        refine WP_seq_k fun K704 hK704 => ?_
        refine WP_region ?_
        refine RL_do rfl rfl (Do_move (v := .int .i64 g675) rfl) ?_
        refine RL_do rfl rfl (Do_assign (v := .int .i64 g675) rfl) ?_
        refine (RL_nil (thenQ_n (hK704 _ _ ?_)))
        refine WP_region ?_
        refine RL_do rfl rfl (Do_move (v := .int .i64 g675) rfl) ?_
        refine RL_do rfl rfl (Do_move (v := .int .u64 g172) rfl) ?_
        refine RL_do rfl rfl (Do_move (v := .int .i64 g675) rfl) ?_
        obtain ⟨x705, e706, hF⟩ := letO_some hF
        refine RL_do rfl rfl (Do_mul (a := 8) (b := g675) rfl rfl e706) ?_
        obtain ⟨x707, e708, hF⟩ := letO_some hF
        refine RL_do rfl rfl (Do_sub (a := 56) (b := x705) rfl rfl e708) ?_
        obtain ⟨x709, e710, hF⟩ := bindO_some hF
        refine RL_do rfl rfl (Do_shr' (j := g172) (q := x707) rfl rfl e710) ?_
        obtain ⟨x711, e712, hF⟩ := letO_some hF
        refine RL_do rfl rfl (Do_conv u123 u5 rfl e712) ?_
        obtain ⟨x713, e714, hF⟩ := bindO_some hF
        refine RL_do rfl rfl (Do_idxA (X := g676) u82 sz5 rfl rfl e714) ?_
        obtain ⟨x715, e716, hF⟩ := letO_some hF
        refine RL_exU rfl (Lx_storeA (e := (Fl.int .u8)) (X := g676) (a := x711) (j := g675) H 1 rfl sz5 rfl (v := .int .u8 x711) rfl rfl (Arr.at_lt e714).1 (Arr.at_lt e714).2 e716) ?_
        rintro w717 H
        refine (RL_nil (blockQ_n (thenQ_n (hK703 _ _ ?_))))
        refine WP_region ?_
        obtain ⟨x718, e719, hF⟩ := letO_some hF
        refine RL_do rfl rfl (Do_add (a := g675) (b := 1) rfl rfl e719) ?_
        refine RL_do rfl rfl (Do_move (v := .int .i64 x718) rfl) ?_
        refine (RL_nil (thenQ_n (And.intro ?_ ?_)))
        · repeat' (first | with_reducible exact Fr_refl | refine Fr_upd rfl ?_ | refine Fr_over rfl rfl ?_)
        · exact ⟨(n682, x718, x715), (Sl_cons rfl Sl_nil), ⟨H.pick [0, 1] (by decide), hF⟩, Nat.lt_succ_self _⟩
      · have hF := iteB_f c688 hF
        have hR := Option.some.inj hF
        subst hR
        refine (WP_exit (thenQ_x (thenQ_x (blockQ_eq (thenQ_n (And.intro ?_ ?_))))))
        · repeat' (first | with_reducible exact Fr_refl | refine Fr_upd rfl ?_ | refine Fr_over rfl rfl ?_)
        · exact ⟨(), Sl_nil, H.pick [0, 1] (by decide)⟩
    · rintro _ ρ w596 H
      have hF := hK597
      refine WP_seq_k fun K720 hK720 => ?_
      refine WP_region ?_
      refine RL_do rfl rfl (Do_loadF (e := (Fl.arr 8 (Fl.int .u8))) (a := g595) agg82 rfl sz82 (Blk.cells (H.item (i := 1) rfl))) ?_
      refine RL_exU rfl (Lx_storeW (e := (Fl.arr 8 (Fl.int .u8))) (a := (Arr.rep 8 0 : Arr 8 Int)) (a' := g595) H 0 rfl sz82 rfl rfl) ?_
      rintro w721 H
      refine (RL_nil (thenQ_n (hK720 _ _ ?_)))
      have hR := Option.some.inj hF
      subst hR
      refine (WP_ret (postc  rfl rfl (run_loadVar_agg agg82 sz82 (Fl.len _ _) (Blk.cells (H.item (i := 0) rfl))) ?_))
      exact ⟨rfl, H.pick [] (by decide)⟩
end Go.Proofs.YtafgmocdnjdmoaaDoor.L
namespace Go.Proofs.YtafgmocdnjdmoaaDoor.L
open Go.RowKit Go.OB Go.Lf
/- orangebox/orangeboxref1.Hash -/
set_option maxHeartbeats 4000000 in
theorem F_ref1_Hash_w (p0 : Arr 64 Int) (r : (Arr 8 Int)) (hF : F_ref1_Hash p0 = some r) (O S : List Nat) (w : World) (H : Hd O w w S []) :
    Calls Tryd.prog 58 ([.agg ((Fl.arr 64 (Fl.int .u16)).f p0).toArray] : List Value).toArray w fun e w' => e = .returned (.agg ((Fl.arr 8 (Fl.int .u8)).f r).toArray) ∧ Hd O w w' S [] := by
  unfold F_ref1_Hash at hF
  refine calls_of_WP 45 Tryd.func58 rfl rfl rfl ?_
  refine WP_seq_k fun K1 hK1 => ?_
  refine WP_region ?_
  refine RL_ex rfl rfl (Lx_box (cs := (Fl.arr 64 (Fl.int .u16)).f p0) rfl H) ?_
  rintro _ w4 ⟨b2, rfl, H⟩
  refine RL_ex rfl rfl (Lx_alloc zero82 H) ?_
  rintro _ w7 ⟨b5, rfl, H⟩
  refine (RL_nil (thenQ_n (hK1 _ _ ?_)))
  refine WP_seq_k fun K8 hK8 => ?_
  refine WP_region ?_
  refine RL_do rfl rfl (Do_assign (v := .int .u64 14695981039346656037) rfl) ?_
  refine (RL_nil (thenQ_n (hK8 _ _ ?_)))
  obtain ⟨g264, hF, hK266⟩ := bindO_some hF
  refine WP_seqS [3, 5, 7, 10, 11, 12, 13, 14, 15, 16, 17, 18, 19, 20, 21, 22, 23, 24, 25, 26, 27, 28, 29, 30, 31] (fun (g : Unit) => [(3, .int .u64 g264)]) (fun g wl => Hd O w wl S [.blk b5 ((Fl.arr 8 (Fl.int .u8)).f (Arr.rep 8 0 : Arr 8 Int)) 82]) ?_ ?_
  · skip
    refine WP_seq_k fun K267 hK267 => ?_
    refine WP_region ?_
    refine RL_do rfl rfl (Do_loadF (e := (Fl.arr 64 (Fl.int .u16))) (a := p0) agg25 rfl sz25 (Blk.cells (H.item (i := 0) rfl))) ?_
    refine RL_do rfl rfl (Do_move (v := .int .i64 0) rfl) ?_
    refine (RL_nil (thenQ_n (hK267 _ _ ?_)))
    refine WP_block ?_
    unfold F_ref1_Hash_L1 at hF
    obtain ⟨B518, n519, eB520, hF⟩ := loopO_some hF
    refine WP_loopS [3, 5, 7, 11, 12, 13, 14, 15, 16, 17, 18, 19, 20, 21, 22, 23, 24, 25, 26, 27, 28, 29, 30, 31] (fun (g : Nat × Int × Int) => [(3, .int .u64 g.2.1), (11, .int .i64 g.2.2)]) (fun g wl => Hd O w wl S [.blk b5 ((Fl.arr 8 (Fl.int .u8)).f (Arr.rep 8 0 : Arr 8 Int)) 82] ∧ loopN B518 g.1 (g.2.1, g.2.2) = some g264) (fun g => g.1) (n519, 14695981039346656037, 0) (Sl_cons rfl (Sl_cons rfl Sl_nil)) ⟨H.pick [1] (by decide), hF⟩ ?_
    clear H hF
    rintro ⟨n519, g516, g517⟩ ρ w522 ⟨H, hF⟩
    obtain ⟨n523, rfl, hF⟩ := loopN_pos hF
    have hF := loop_body eB520 hF
    refine WP_seq_k fun K524 hK524 => ?_
    refine WP_region ?_
    obtain ⟨x525, e526, hF⟩ := letO_some hF
    refine RL_do rfl rfl (Do_as (Do_lss (a := g517) (b := 64) rfl rfl) (congrArg Value.bool e526)) ?_
    refine (RL_nil (thenQ_n (hK524 _ _ ?_)))
    refine WP_seq_k fun K528 hK528 => ?_
    refine WP_ifb (b := x525) rfl (fun c529 => ?_) (fun c529 => ?_)
    · have hF := iteB_t c529 hF
      refine (WP_skip (thenQ_n (hK528 _ _ ?_)))
      obtain ⟨g642, hF, hK644⟩ := bindO_some hF
      refine WP_seqS [3, 5, 7, 13, 14, 15, 16, 17, 18, 19, 20, 21, 22, 23, 24, 25, 26, 27, 28, 29, 30] (fun (g : Unit) => [(3, .int .u64 g642)]) (fun g wl => Hd O w wl S [.blk b5 ((Fl.arr 8 (Fl.int .u8)).f (Arr.rep 8 0 : Arr 8 Int)) 82]) ?_ ?_
      · skip
        refine WP_block ?_
        refine WP_seq_k fun K645 hK645 => ?_
        refine WP_region ?_
        obtain ⟨x646, e647, hF⟩ := bindO_some hF
        refine RL_do rfl rfl (Do_indexA1 (e := (Fl.int .u16)) (X := p0) u25 one23 sz23 rfl rfl rfl e647 rfl) ?_
        refine RL_do rfl rfl (Do_assign (v := .int .u16 x646) rfl) ?_
        refine (RL_nil (thenQ_n (hK645 _ _ ?_)))
        refine WP_seq_k fun K648 hK648 => ?_
        refine WP_region ?_
        refine RL_do rfl rfl (Do_move (v := .int .u16 x646) rfl) ?_
        obtain ⟨x649, e650, hF⟩ := bindO_some hF
        refine RL_do rfl rfl (Do_quo' (j := x646) (q := 256) rfl rfl e650) ?_
        obtain ⟨x651, e652, hF⟩ := letO_some hF
        refine RL_do rfl rfl (Do_conv u23 u123 rfl e652) ?_
        refine RL_do rfl rfl (Do_move (v := .int .u16 x646) rfl) ?_
        obtain ⟨x653, e654, hF⟩ := bindO_some hF
        refine RL_do rfl rfl (Do_rem' (j := x646) (q := 256) rfl rfl e654) ?_
        obtain ⟨x655, e656, hF⟩ := letO_some hF
        refine RL_do rfl rfl (Do_conv u23 u123 rfl e656) ?_
        obtain ⟨x657, e658, hF⟩ := letO_some hF
        subst e658
        refine RL_ex rfl rfl (Lx_bs (r := (Rp.int .u64)) (xl := [x651, x655]) (cs := [.int .u64 x651, .int .u64 x655]) u125 el123 (by decide) (by decide) rfl (fillB_parts (vs := [.int .u64 x651, .int .u64 x655]) (by decide) rfl rfl ⟨rfl, rfl, trivial⟩ rfl) H ⟨[.int .u64 x651], [.int .u64 x655], rfl, rfl, ⟨[.int .u64 x655], [], rfl, rfl, rfl⟩⟩) ?_
        rintro v660 w661 H
        obtain ⟨x662, e663, hF⟩ := letO_some hF
        obtain ⟨a664, c665, q666⟩ := Sr.len (Sr.of_own (H.item (i := 1) rfl))
        refine RL_do rfl rfl (Do_as (Do_len u125 q666) (congrArg (Value.int .i64) e663)) ?_
        refine RL_do rfl rfl (Do_move (v := .int .i64 0) rfl) ?_
        refine (RL_nil (thenQ_n (hK648 _ _ ?_)))
        refine WP_block ?_
        unfold F_ref1_Hash_L2 at hF
        obtain ⟨B753, n754, eB755, hF⟩ := loopO_some hF
        refine WP_loopS [3, 7, 22, 23, 24, 25, 26, 27, 28, 29, 30] (fun (g : Nat × Int × Int) => [(3, .int .u64 g.2.1), (22, .int .i64 g.2.2)]) (fun g wl => Hd O w wl S [.blk b5 ((Fl.arr 8 (Fl.int .u8)).f (Arr.rep 8 0 : Arr 8 Int)) 82, .own (Rp.int .u64) v660 123 ([x651, x655] : List Int)] ∧ loopN B753 g.1 (g.2.1, g.2.2) = some g642) (fun g => g.1) (n754, g516, 0) (Sl_cons rfl (Sl_cons rfl Sl_nil)) ⟨H.pick [0, 1] (by decide), hF⟩ ?_
        clear H hF
        rintro ⟨n754, g751, g752⟩ ρ w757 ⟨H, hF⟩
        obtain ⟨n758, rfl, hF⟩ := loopN_pos hF
        have hF := loop_body eB755 hF
        refine WP_seq_k fun K759 hK759 => ?_
        refine WP_region ?_
        obtain ⟨x760, e761, hF⟩ := letO_some hF
        refine RL_do rfl rfl (Do_as (Do_lss (a := g752) (b := x662) rfl rfl) (congrArg Value.bool e761)) ?_
        refine (RL_nil (thenQ_n (hK759 _ _ ?_)))
        refine WP_seq_k fun K763 hK763 => ?_
        refine WP_ifb (b := x760) rfl (fun c764 => ?_) (fun c764 => ?_)
        · have hF := iteB_t c764 hF
          refine (WP_skip (thenQ_n (hK763 _ _ ?_)))
          refine WP_seq_k fun K781 hK781 => ?_
          refine WP_block ?_
          refine WP_seq_k fun K782 hK782 => ?_
          refine WP_region ?_
          obtain ⟨x783, e784, hF⟩ := bindO_some hF
          obtain ⟨b785, c787, cs788, q789, h792, h793⟩ := own_at (H.item (i := 1) rfl) e784
          obtain rfl : cs788 = [.int .u64 x783] := h792
          refine RL_do rfl rfl (Do_idx u125 sz123 q789 rfl (at_some e784).1 (at_some e784).2.1 rfl rfl) ?_
          refine RL_do rfl rfl (Do_load one123 rfl (Cells.get h793 (i := 0) rfl)) ?_
          refine RL_do rfl rfl (Do_assign (v := .int .u64 x783) rfl) ?_
          refine (RL_nil (thenQ_n (hK782 _ _ ?_)))
          refine WP_region ?_
          refine RL_do rfl rfl (Do_move (v := .int .u64 g751) rfl) ?_
          refine RL_do rfl rfl (Do_move (v := .int .u64 x783) rfl) ?_
          obtain ⟨x794, e795, hF⟩ := letO_some hF
          refine RL_do rfl rfl (Do_xor (a := g751) (b := x783) rfl rfl e795) ?_
          obtain ⟨x796, e797, hF⟩ := letO_some hF
          refine RL_do rfl rfl (Do_mul (a := x794) (b := 1099511628211) rfl rfl e797) ?_
          refine RL_do rfl rfl (Do_assign (v := .int .u64 x796) rfl) ?_
          refine (RL_nil (blockQ_n (thenQ_n (hK781 _ _ ?_))))
          refine WP_region ?_
          obtain ⟨x798, e799, hF⟩ := letO_some hF
          refine RL_do rfl rfl (Do_add (a := g752) (b := 1) rfl rfl e799) ?_
          refine RL_do rfl rfl (Do_move (v := .int .i64 x798) rfl) ?_
          refine (RL_nil (thenQ_n (And.intro ?_ ?_)))
          · repeat' (first | with_reducible exact Fr_refl | refine Fr_upd rfl ?_ | refine Fr_over rfl rfl ?_)
          · exact ⟨(n758, x796, x798), (Sl_cons rfl (Sl_cons rfl Sl_nil)), ⟨H.pick [0, 1] (by decide), hF⟩, Nat.lt_succ_self _⟩
        · have hF := iteB_f c764 hF
          have hR := Option.some.inj hF
          subst hR
          refine (WP_exit (thenQ_x (thenQ_x (blockQ_eq (blockQ_n (thenQ_n (And.intro ?_ ?_)))))))
          · repeat' (first | with_reducible exact Fr_refl | refine Fr_upd rfl ?_ | refine Fr_over rfl rfl ?_)
          · exact ⟨(), (Sl_cons rfl Sl_nil), H.pick [0] (by decide)⟩
      · rintro _ ρ w643 H
        have hF := hK644
        refine WP_region ?_
        obtain ⟨x800, e801, hF⟩ := letO_some hF
        refine RL_do rfl rfl (Do_add (a := g517) (b := 1) rfl rfl e801) ?_
        refine RL_do rfl rfl (Do_move (v := .int .i64 x800) rfl) ?_
        refine (RL_nil (thenQ_n (And.intro ?_ ?_)))
        · repeat' (first | with_reducible exact Fr_refl | refine Fr_upd rfl ?_ | refine Fr_over rfl rfl ?_)
        · exact ⟨(n523, g642, x800), (Sl_cons rfl (Sl_cons rfl Sl_nil)), ⟨H.pick [0] (by decide), hF⟩, Nat.lt_succ_self _⟩
    · have hF := iteB_f c529 hF
      have hR := Option.some.inj hF
      subst hR
      refine (WP_exit (thenQ_x (thenQ_x (blockQ_eq (thenQ_n (And.intro ?_ ?_))))))
      · repeat' (first | with_reducible exact Fr_refl | refine Fr_upd rfl ?_ | refine Fr_over rfl rfl ?_)
      · exact ⟨(), (Sl_cons rfl Sl_nil), H.pick [0] (by decide)⟩
  · rintro _ ρ w265 H
    have hF := hK266
    refine WP_seq_k fun K802 hK802 => ?_
    refine WP_region ?_
    refine RL_ex rfl rfl (Lx_alloc zero82 H) ?_
    rintro _ w805 ⟨b803, rfl, H⟩
    refine (RL_nil (thenQ_n (hK802 _ _ ?_)))
    obtain ⟨g889, hF, hK891⟩ := bindO_some hF
    refine WP_seqS [9, 32, 33, 34, 35, 36, 37, 38, 39, 40, 41, 42, 43] (fun (g : Unit) => []) (fun g wl => Hd O w wl S [.blk b5 ((Fl.arr 8 (Fl.int .u8)).f (Arr.rep 8 0 : Arr 8 Int)) 82, .blk b803 ((Fl.arr 8 (Fl.int .u8)).f g889) 82]) ?_ ?_
    · skip
      refine WP_seq_k fun K892 hK892 => ?_
      refine WP_region ?_
      refine RL_do rfl rfl (Do_move (v := .int .i64 0) rfl) ?_
      refine (RL_nil (thenQ_n (hK892 _ _ ?_)))
      refine WP_block ?_
      unfold F_ref1_Hash_L3 at hF
      obtain ⟨B971, n972, eB973, hF⟩ := loopO_some hF
      refine WP_loopS [9, 32, 33, 34, 35, 36, 37, 38, 39, 40, 41, 42, 43] (fun (g : Nat × Int × (Arr 8 Int)) => [(32, .int .i64 g.2.1)]) (fun g wl => Hd O w wl S [.blk b5 ((Fl.arr 8 (Fl.int .u8)).f (Arr.rep 8 0 : Arr 8 Int)) 82, .blk b803 ((Fl.arr 8 (Fl.int .u8)).f g.2.2) 82] ∧ loopN B971 g.1 (g.2.1, g.2.2) = some g889) (fun g => g.1) (n972, 0, (Arr.rep 8 0 : Arr 8 Int)) (Sl_cons rfl Sl_nil) ⟨H.pick [0, 1] (by decide), hF⟩ ?_
      clear H hF
      rintro ⟨n972, g969, g970⟩ ρ w975 ⟨H, hF⟩
      obtain ⟨n976, rfl, hF⟩ := loopN_pos hF
      have hF := loop_body eB973 hF
      refine WP_seq_k fun K977 hK977 => ?_
      refine WP_region ?_
      obtain ⟨x978, e979, hF⟩ := letO_some hF
      refine RL_do rfl rfl (Do_as (Do_lss (a := g969) (b := 8) rfl rfl) (congrArg Value.bool e979)) ?_
      refine (RL_nil (thenQ_n (hK977 _ _ ?_)))
      refine WP_seq_k fun K981 hK981 => ?_
      refine WP_ifb (b := x978) rfl (fun c982 => ?_) (fun c982 => ?_)
      · have hF := iteB_t c982 hF
        refine (WP_skip (thenQ_n (hK981 _ _ ?_)))
        refine WP_seq_k fun K997 hK997 => ?_
        refine WP_block ?_
        refine WP_seq_k fun K998 hK998 => ?_
        refine WP_region ?_
        refine RL_do rfl rfl (Do_move (v := .int .i64 g969) rfl) ?_
        refine RL_do rfl rfl (Do_assign (v := .int .i64 g969) rfl) ?_
        refine (RL_nil (thenQ_n (hK998 _ _ ?_)))
        refine WP_region ?_
        refine RL_do rfl rfl (Do_move (v := .int .i64 g969) rfl) ?_
        refine RL_do rfl rfl (Do_move (v := .int .u64 g264) rfl) ?_
        refine RL_do rfl rfl (Do_move (v := .int .i64 g969) rfl) ?_
        obtain ⟨x999, e1000, hF⟩ := letO_some hF
        refine RL_do rfl rfl (Do_mul (a := 8) (b := g969) rfl rfl e1000) ?_
        obtain ⟨x1001, e1002, hF⟩ := letO_some hF
        refine RL_do rfl rfl (Do_sub (a := 56) (b := x999) rfl rfl e1002) ?_
        obtain ⟨x1003, e1004, hF⟩ := bindO_some hF
        refine RL_do rfl rfl (Do_shr' (j := g264) (q := x1001) rfl rfl e1004) ?_
        obtain ⟨x1005, e1006, hF⟩ := letO_some hF
        refine RL_do rfl rfl (Do_conv u123 u5 rfl e1006) ?_
        obtain ⟨x1007, e1008, hF⟩ := bindO_some hF
        refine RL_do rfl rfl (Do_idxA (X := g970) u82 sz5 rfl rfl e1008) ?_
        obtain ⟨x1009, e1010, hF⟩ := letO_some hF
        refine RL_exU rfl (Lx_storeA (e := (Fl.int .u8)) (X := g970) (a := x1005) (j := g969) H 1 rfl sz5 rfl (v := .int .u8 x1005) rfl rfl (Arr.at_lt e1008).1 (Arr.at_lt e1008).2 e1010) ?_
        rintro w1011 H
        refine (RL_nil (blockQ_n (thenQ_n (hK997 _ _ ?_))))
        refine WP_region ?_
        obtain ⟨x1012, e1013, hF⟩ := letO_some hF
        refine RL_do rfl rfl (Do_add (a := g969) (b := 1) rfl rfl e1013) ?_
        refine RL_do rfl rfl (Do_move (v := .int .i64 x1012) rfl) ?_
        refine (RL_nil (thenQ_n (And.intro ?_ ?_)))
        · repeat' (first | with_reducible exact Fr_refl | refine Fr_upd rfl ?_ | refine Fr_over rfl rfl ?_)
        · exact ⟨(n976, x1012, x1009), (Sl_cons rfl Sl_nil), ⟨H.pick [0, 1] (by decide), hF⟩, Nat.lt_succ_self _⟩
      · have hF := iteB_f c982 hF
        have hR := Option.some.inj hF
        subst hR
        refine (WP_exit (thenQ_x (thenQ_x (blockQ_eq (thenQ_n (And.intro ?_ ?_))))))
        · repeat' (first | with_reducible exact Fr_refl | refine Fr_upd rfl ?_ | refine Fr_over rfl rfl ?_)
        · exact ⟨(), Sl_nil, H.pick [0, 1] (by decide)⟩
    · rintro _ ρ w890 H
      have hF := hK891
      refine WP_seq_k fun K1014 hK1014 => ?_
      refine WP_region ?_
      refine RL_do rfl rfl (Do_loadF (e := (Fl.arr 8 (Fl.int .u8))) (a := g889) agg82 rfl sz82 (Blk.cells (H.item (i := 1) rfl))) ?_
      refine RL_exU rfl (Lx_storeW (e := (Fl.arr 8 (Fl.int .u8))) (a := (Arr.rep 8 0 : Arr 8 Int)) (a' := g889) H 0 rfl sz82 rfl rfl) ?_
      rintro w1015 H
      refine (RL_nil (thenQ_n (hK1014 _ _ ?_)))
      have hR := Option.some.inj hF
      subst hR
      refine (WP_ret (postc  rfl rfl (run_loadVar_agg agg82 sz82 (Fl.len _ _) (Blk.cells (H.item (i := 0) rfl))) ?_))
      exact ⟨rfl, H.pick [] (by decide)⟩
end Go.Proofs.YtafgmocdnjdmoaaDoor.L
namespace Go.Proofs.YtafgmocdnjdmoaaDoor.L
open Go.RowKit Go.OB Go.Lf
/- orangebox/orangeboxlaw1.FrameReadMatchesSpec -/
set_option maxHeartbeats 4000000 in
theorem F_law1_FrameReadMatchesSpec_w (p0 : Arr 64 Int) (r : Bool) (hF : F_law1_FrameReadMatchesSpec p0 = some r) (O S : List Nat) (w : World) (H : Hd O w w S [.fz (.at 0 0 ((Fl.arr 4 (Fl.int .u16)).f G_frame_syncs))]) :
    Calls Tryd.prog 13 ([.agg ((Fl.arr 64 (Fl.int .u16)).f p0).toArray] : List Value).toArray w fun e w' => e = .returned (.bool r) ∧ Hd O w w' S [] := by
  unfold F_law1_FrameReadMatchesSpec at hF
  refine calls_of_WP 89 Tryd.func13 rfl rfl rfl ?_
  refine WP_seq_k fun K2 hK2 => ?_
  refine WP_region ?_
  refine RL_ex rfl rfl (Lx_box (cs := (Fl.arr 64 (Fl.int .u16)).f p0) rfl H) ?_
  rintro _ w5 ⟨b3, rfl, H⟩
  refine RL_do rfl rfl (Do_assign (v := .bool false) rfl) ?_
  refine (RL_nil (thenQ_n (hK2 _ _ ?_)))
  refine WP_seq_k fun K6 hK6 => ?_
  refine WP_region ?_
  refine RL_do rfl rfl (Do_loadF (e := (Fl.arr 64 (Fl.int .u16))) (a := p0) agg25 rfl sz25 (Blk.cells (H.item (i := 1) rfl))) ?_
  have H7 := H
  obtain ⟨⟨x8, x9⟩, e10, hF⟩ := bindO_some hF
  refine RL_call rfl rfl (DoC_func en46 rfl) (F_frame_Number_w p0 _ e10 _ _ _ (H.enter [] [] (by decide) rfl)) ?_
  rintro _ w11 ⟨rfl, G12⟩
  have H := H7.step (G12.only : Only [] _ _)
  refine ⟨_, rfl, ?_⟩
  refine RL_do rfl rfl (Do_move (v := .tuple #[.int .i64 x8, .bool x9]) rfl) ?_
  refine RL_do rfl rfl (Do_extract (v := .int .i64 x8) rfl rfl) ?_
  refine RL_do rfl rfl (Do_extract (v := .bool x9) rfl rfl) ?_
  refine RL_do rfl rfl (Do_assign (v := .int .i64 x8) rfl) ?_
  refine RL_do rfl rfl (Do_assign (v := .bool x9) rfl) ?_
  refine (RL_nil (thenQ_n (hK6 _ _ ?_)))
  refine WP_seq_k fun K13 hK13 => ?_
  refine WP_region ?_
  refine RL_do rfl rfl (Do_loadF (e := (Fl.arr 64 (Fl.int .u16))) (a := p0) agg25 rfl sz25 (Blk.cells (H.item (i := 1) rfl))) ?_
  have H14 := H
  obtain ⟨⟨x15, x16⟩, e17, hF⟩ := bindO_some hF
  refine RL_call rfl rfl (DoC_func en51 rfl) (F_ref1_Number_w p0 _ e17 _ _ _ (H.enter [] [] (by decide) rfl)) ?_
  rintro _ w18 ⟨rfl, G19⟩
  have H := H14.step (G19.only : Only [] _ _)
  refine ⟨_, rfl, ?_⟩
  refine RL_do rfl rfl (Do_move (v := .tuple #[.int .i64 x15, .bool x16]) rfl) ?_
  refine RL_do rfl rfl (Do_extract (v := .int .i64 x15) rfl rfl) ?_
  refine RL_do rfl rfl (Do_extract (v := .bool x16) rfl rfl) ?_
  refine RL_do rfl rfl (Do_assign (v := .int .i64 x15) rfl) ?_
  refine RL_do rfl rfl (Do_assign (v := .bool x16) rfl) ?_
  refine (RL_nil (thenQ_n (hK13 _ _ ?_)))
  refine WP_seq_k fun K30 hK30 => ?_
  obtain ⟨g36, hF, hK38⟩ := bindO_some hF
  refine WP_seqS [25, 26, 27, 28, 29, 30, 31, 32] (fun (g : Unit) => [(32, .bool g36)]) (fun g wl => Hd O w wl S [.fz (.at 0 0 ((Fl.arr 4 (Fl.int .u16)).f G_frame_syncs)), .blk b3 ((Fl.arr 64 (Fl.int .u16)).f p0) 25]) ?_ ?_
  · skip
    refine WP_region ?_
    refine RL_do rfl rfl (Do_move (v := .int .i64 x8) rfl) ?_
    refine RL_do rfl rfl (Do_move (v := .int .i64 x15) rfl) ?_
    obtain ⟨x39, e40, hF⟩ := letO_some hF
    refine RL_do rfl rfl (Do_as (Do_neq (a := x8) (b := x15) rfl rfl) (congrArg Value.bool e40)) ?_
    refine RL_splitb (b := x39) rfl rfl rfl (fun c41 => ?_) (fun c41 => ?_)
    · have hF := iteB_t c41 hF
      refine RL_off rfl rfl ?_
      refine RL_off rfl rfl ?_
      refine RL_off rfl rfl ?_
      refine RL_do rfl rfl (Do_pick_t (v := .bool true) rfl rfl) ?_
      have hR := Option.some.inj hF
      subst hR
      refine (RL_nil (thenQ_n (And.intro ?_ ?_)))
      · repeat' (first | with_reducible exact Fr_refl | refine Fr_upd rfl ?_ | refine Fr_over rfl rfl ?_)
      · exact ⟨(), (Sl_cons rfl Sl_nil), H.pick [0, 1] (by decide)⟩
    · have hF := iteB_f c41 hF
      refine RL_do rfl rfl (Do_move (v := .bool x9) rfl) ?_
      refine RL_do rfl rfl (Do_move (v := .bool x16) rfl) ?_
      obtain ⟨x42, e43, hF⟩ := letO_some hF
      refine RL_do rfl rfl (Do_as (Do_neqb (p := x9) (q := x16) u4 rfl rfl) (congrArg Value.bool e43)) ?_
      refine RL_do rfl rfl (Do_pick_f (v := .bool x42) rfl rfl) ?_
      have hR := Option.some.inj hF
      subst hR
      refine (RL_nil (thenQ_n (And.intro ?_ ?_)))
      · repeat' (first | with_reducible exact Fr_refl | refine Fr_upd rfl ?_ | refine Fr_over rfl rfl ?_)
      · exact ⟨(), (Sl_cons rfl Sl_nil), H.pick [0, 1] (by decide)⟩
  · rintro _ ρ w37 H
    have hF := hK38
    refine WP_ifb (b := g36) rfl (fun c44 => ?_) (fun c44 => ?_)
    · have hF := iteB_t c44 hF
      refine WP_seq_k fun K45 hK45 => ?_
      refine WP_region ?_
      refine RL_do rfl rfl (Do_assign (v := .bool false) rfl) ?_
      refine (RL_nil (thenQ_n (hK45 _ _ ?_)))
      have hR := Option.some.inj hF
      subst hR
      refine (WP_ret (thenQ_r (post1 (v1 := .bool false) rfl rfl ?_)))
      exact ⟨rfl, H.pick [] (by decide)⟩
    · have hF := iteB_f c44 hF
      refine (WP_skip (thenQ_n (hK30 _ _ ?_)))
      refine WP_seq_k fun K46 hK46 => ?_
      refine WP_region ?_
      refine RL_do rfl rfl (Do_loadF (e := (Fl.arr 64 (Fl.int .u16))) (a := p0) agg25 rfl sz25 (Blk.cells (H.item (i := 1) rfl))) ?_
      obtain ⟨⟨x47, x48⟩, e49, hF⟩ := bindO_some hF
      refine RL_call rfl rfl (DoC_func en47 rfl) (F_frame_Values_w p0 _ e49 _ _ _ (H.enter [] [] (by decide) rfl)) ?_
      rintro _ w54 ⟨v50, v52, rfl, G55⟩
      have H := H.back1 [] rfl G55
      refine ⟨_, rfl, ?_⟩
      refine RL_do rfl rfl (Do_move (v := .tuple #[v50, v52]) rfl) ?_
      refine RL_do rfl rfl (Do_extract (v := v50) rfl rfl) ?_
      refine RL_do rfl rfl (Do_extract (v := v52) rfl rfl) ?_
      refine RL_do rfl rfl (Do_assign (v := v50) rfl) ?_
      refine RL_do rfl rfl (Do_assign (v := v52) rfl) ?_
      refine (RL_nil (thenQ_n (hK46 _ _ ?_)))
      refine WP_seq_k fun K56 hK56 => ?_
      refine WP_region ?_
      refine RL_do rfl rfl (Do_loadF (e := (Fl.arr 64 (Fl.int .u16))) (a := p0) agg25 rfl sz25 (Blk.cells (H.item (i := 1) rfl))) ?_
      obtain ⟨⟨x57, x58⟩, e59, hF⟩ := bindO_some hF
      refine RL_call rfl rfl (DoC_func en52 rfl) (F_ref1_Values_w p0 _ e59 _ _ _ (H.enter [] [] (by decide) rfl)) ?_
      rintro _ w64 ⟨v60, v62, rfl, G65⟩
      have H := H.back1 [] rfl G65
      refine ⟨_, rfl, ?_⟩
      refine RL_do rfl rfl (Do_move (v := .tuple #[v60, v62]) rfl) ?_
      refine RL_do rfl rfl (Do_extract (v := v60) rfl rfl) ?_
      refine RL_do rfl rfl (Do_extract (v := v62) rfl rfl) ?_
      refine RL_do rfl rfl (Do_assign (v := v60) rfl) ?_
      refine RL_do rfl rfl (Do_assign (v := v62) rfl) ?_
      refine (RL_nil (thenQ_n (hK56 _ _ ?_)))
      refine WP_seq_k fun K105 hK105 => ?_
      obtain ⟨g140, hF, hK142⟩ := bindO_some hF
      refine WP_seqS [43, 44, 45, 46, 47, 48, 49, 50, 51, 52, 53, 54, 55, 56, 57, 58, 59, 60] (fun (g : Unit) => [(60, .bool g140)]) (fun g wl => Hd O w wl S [.fz (.at 0 0 ((Fl.arr 4 (Fl.int .u16)).f G_frame_syncs)), .blk b3 ((Fl.arr 64 (Fl.int .u16)).f p0) 25]) ?_ ?_
      · skip
        have H143 := H
        have H := H.rebase
        have H144 := H
        refine WP_mix H [0, 1, 2, 3, 4, 5, 6, 7, 8, 9, 10, 11, 13, 12, 14, 15, 16, 17] [.pure, .pure, .read, .pure, .pure, .pure, .pure, .read, .pure, .pure, .pure, .read, .new, .read, .new, .read, .pure, .pure] mixed (by kernel_rfl) (by kernel_rfl) (by kernel_rfl) (by decide) ?_
        refine Mx.XL_pure rfl rfl rfl (fun w' hw' => Do_move (v := v50) rfl) ?_
        refine Mx.XL_pure rfl rfl rfl (fun w' hw' => Do_move (v := v60) rfl) ?_
        have H145 := H
        have H := H.freeze (i := 2) rfl
        have H := H.freeze (i := 4) rfl
        obtain ⟨x146, e147, hF⟩ := bindO_some hF
        refine Mx.XL_call oS rfl rfl rfl (v := .bool x146) (fun w' hw' => DoC_func en49 rfl) (fun w' hw' => call_read (F_slices_Equal___int_int__w x47 x57 v50 v60 _ e147 _ _ _ ((H.sees hw').enter [] [2, 4] (by decide) rfl))) ?_
        have H := H145
        obtain ⟨x148, e149, hF⟩ := letO_some hF
        refine Mx.XL_pure rfl rfl rfl (fun w' hw' => Do_as (Do_not (p := x146) rfl) (congrArg Value.bool e149)) ?_
        refine Mx.XL_splitb (b := x148) rfl rfl rfl rfl (fun c150 => ?_) (fun c150 => ?_)
        · have hF := iteB_t c150 hF
          refine Mx.XL_offp rfl rfl rfl ?_
          refine Mx.XL_offp rfl rfl rfl ?_
          refine Mx.XL_offr oS rfl rfl rfl ?_
          refine Mx.XL_offp rfl rfl rfl ?_
          refine Mx.XL_pure rfl rfl rfl (fun w' hw' => Do_pick_t (v := .bool true) rfl rfl) ?_
          refine Mx.XL_pure rfl rfl rfl (fun w' hw' => Do_move (v := .bool true) rfl) ?_
          refine Mx.XL_offr oS rfl rfl rfl ?_
          refine Mx.XL_offr oS rfl rfl rfl ?_
          refine Mx.XL_offn oS rfl rfl rfl ?_
          refine Mx.XL_offn oS rfl rfl rfl ?_
          refine Mx.XL_offr oS rfl rfl rfl ?_
          refine Mx.XL_offp rfl rfl rfl ?_
          refine Mx.XL_pure rfl rfl rfl (fun w' hw' => Do_pick_t (v := .bool true) rfl rfl) ?_
          refine Mx.XL_nil fun w151 hS => ?_
          have H := H.sees hS
          have H := H143.rejoin H
          have hR := Option.some.inj hF
          subst hR
          refine (thenQ_n (And.intro ?_ ?_))
          · repeat' (first | with_reducible exact Fr_refl | refine Fr_upd rfl ?_ | refine Fr_over rfl rfl ?_)
          · exact ⟨(), (Sl_cons rfl Sl_nil), H.pick [0, 1] (by decide)⟩
        · have hF := iteB_f c150 hF
          refine Mx.XL_pure rfl rfl rfl (fun w' hw' => Do_move (v := v52) rfl) ?_
          refine Mx.XL_pure rfl rfl rfl (fun w' hw' => Do_move (v := v62) rfl) ?_
          have H152 := H
          have H := H.freeze (i := 3) rfl
          have H := H.freeze (i := 5) rfl
          obtain ⟨x153, e154, hF⟩ := bindO_some hF
          refine Mx.XL_call oS rfl rfl rfl (v := .bool x153) (fun w' hw' => DoC_func en53 rfl) (fun w' hw' => call_read (F_slices_Equal___bool_bool__w x48 x58 v52 v62 _ e154 _ _ _ ((H.sees hw').enter [] [3, 5] (by decide) rfl))) ?_
          have H := H152
          obtain ⟨x155, e156, hF⟩ := letO_some hF
          refine Mx.XL_pure rfl rfl rfl (fun w' hw' => Do_as (Do_not (p := x153) rfl) (congrArg Value.bool e156)) ?_
          refine Mx.XL_pure rfl rfl rfl (fun w' hw' => Do_pick_f (v := .bool x155) rfl rfl) ?_
          refine Mx.XL_splitb (b := x155) rfl rfl rfl rfl (fun c157 => ?_) (fun c157 => ?_)
          · have hF := iteB_t c157 hF
            refine Mx.XL_offr oS rfl rfl rfl ?_
            refine Mx.XL_offr oS rfl rfl rfl ?_
            refine Mx.XL_offn oS rfl rfl rfl ?_
            refine Mx.XL_offn oS rfl rfl rfl ?_
            refine Mx.XL_offr oS rfl rfl rfl ?_
            refine Mx.XL_offp rfl rfl rfl ?_
            refine Mx.XL_pure rfl rfl rfl (fun w' hw' => Do_pick_t (v := .bool true) rfl rfl) ?_
            refine Mx.XL_nil fun w158 hS => ?_
            have H := H.sees hS
            have H := H143.rejoin H
            have hR := Option.some.inj hF
            subst hR
            refine (thenQ_n (And.intro ?_ ?_))
            · repeat' (first | with_reducible exact Fr_refl | refine Fr_upd rfl ?_ | refine Fr_over rfl rfl ?_)
            · exact ⟨(), (Sl_cons rfl Sl_nil), H.pick [0, 1] (by decide)⟩
          · have hF := iteB_f c157 hF
            refine Mx.XL_read oS rfl rfl rfl (fun w' hw' => Do_loadF (e := (Fl.arr 64 (Fl.int .u16))) (a := p0) agg25 rfl sz25 (Blk.cells ((H.sees hw').item (i := 1) rfl))) ?_
            refine Mx.XL_read oS rfl rfl rfl (fun w' hw' => Do_loadF (e := (Fl.arr 64 (Fl.int .u16))) (a := p0) agg25 rfl sz25 (Blk.cells ((H.sees hw').item (i := 1) rfl))) ?_
            obtain ⟨x159, e160, hF⟩ := bindO_some hF
            refine Mx.XL_newC oS rfl rfl rfl (fun w' hw' => DoC_func en34 rfl) (fun w' hw' => F_frame_Flaws_w p0 _ e160 _ _ _ ((H.sees hw').enter [] [0] (by decide) rfl)) ?_
            rintro w' _ w163 hw' ⟨v161, rfl, G164⟩
            have H := (H.sees hw').back1 [0] rfl G164
            refine ⟨_, rfl, (G164.only : Only [] _ _).below, ?_⟩
            obtain ⟨x165, e166, hF⟩ := bindO_some hF
            refine Mx.XL_newC oS rfl rfl rfl (fun w' hw' => DoC_func en55 rfl) (fun w' hw' => F_ref1_Flaws_w p0 _ e166 _ _ _ ((H.sees hw').enter [] [] (by decide) rfl)) ?_
            rintro w' _ w169 hw' ⟨v167, rfl, G170⟩
            have H := (H.sees hw').back1 [] rfl G170
            refine ⟨_, rfl, (G170.only : Only [] _ _).below, ?_⟩
            have H171 := H
            have H := H.freeze (i := 6) rfl
            have H := H.freeze (i := 7) rfl
            obtain ⟨x172, e173, hF⟩ := bindO_some hF
            refine Mx.XL_call oS rfl rfl rfl (v := .bool x172) (fun w' hw' => DoC_func en54 rfl) (fun w' hw' => call_read (F_slices_Equal___api_Flaw_api_Flaw__w x159 x165 v161 v167 _ e173 _ _ _ ((H.sees hw').enter [] [6, 7] (by decide) rfl))) ?_
            have H := H171
            obtain ⟨x174, e175, hF⟩ := letO_some hF
            refine Mx.XL_pure rfl rfl rfl (fun w' hw' => Do_as (Do_not (p := x172) rfl) (congrArg Value.bool e175)) ?_
            refine Mx.XL_pure rfl rfl rfl (fun w' hw' => Do_pick_f (v := .bool x174) rfl rfl) ?_
            refine Mx.XL_nil fun w176 hS => ?_
            have H := H.sees hS
            have H := H143.rejoin H
            have hR := Option.some.inj hF
            subst hR
            refine (thenQ_n (And.intro ?_ ?_))
            · repeat' (first | with_reducible exact Fr_refl | refine Fr_upd rfl ?_ | refine Fr_over rfl rfl ?_)
            · exact ⟨(), (Sl_cons rfl Sl_nil), H.pick [0, 1] (by decide)⟩
      · rintro _ ρ w141 H
        have hF := hK142
        refine WP_ifb (b := g140) rfl (fun c177 => ?_) (fun c177 => ?_)
        · have hF := iteB_t c177 hF
          refine WP_seq_k fun K178 hK178 => ?_
          refine WP_region ?_
          refine RL_do rfl rfl (Do_assign (v := .bool false) rfl) ?_
          refine (RL_nil (thenQ_n (hK178 _ _ ?_)))
          have hR := Option.some.inj hF
          subst hR
          refine (WP_ret (thenQ_r (post1 (v1 := .bool false) rfl rfl ?_)))
          exact ⟨rfl, H.pick [] (by decide)⟩
        · have hF := iteB_f c177 hF
          refine (WP_skip (thenQ_n (hK105 _ _ ?_)))
          refine WP_seq_k fun K179 hK179 => ?_
          refine WP_region ?_
          refine RL_do rfl rfl (Do_loadF (e := (Fl.arr 64 (Fl.int .u16))) (a := p0) agg25 rfl sz25 (Blk.cells (H.item (i := 1) rfl))) ?_
          have H180 := H
          obtain ⟨⟨x181, x182⟩, e183, hF⟩ := bindO_some hF
          refine RL_call rfl rfl (DoC_func en48 rfl) (F_frame_Seal_w p0 _ e183 _ _ _ (H.enter [] [0] (by decide) rfl)) ?_
          rintro _ w184 ⟨rfl, G185⟩
          have H := H180.step (G185.only : Only [] _ _)
          refine ⟨_, rfl, ?_⟩
          refine RL_do rfl rfl (Do_move (v := .tuple #[.agg ((Fl.arr 64 (Fl.int .u16)).f x181).toArray, .int .i64 x182]) rfl) ?_
          refine RL_do rfl rfl (Do_extract (v := .agg ((Fl.arr 64 (Fl.int .u16)).f x181).toArray) rfl rfl) ?_
          refine RL_do rfl rfl (Do_extract (v := .int .i64 x182) rfl rfl) ?_
          refine RL_ex rfl rfl (Lx_alloc zero25 H) ?_
          rintro _ w188 ⟨b186, rfl, H⟩
          refine RL_exU rfl (Lx_storeW (e := (Fl.arr 64 (Fl.int .u16))) (a := (Arr.rep 64 0 : Arr 64 Int)) (a' := x181) H 2 rfl sz25 rfl rfl) ?_
          rintro w189 H
          refine RL_do rfl rfl (Do_assign (v := .int .i64 x182) rfl) ?_
          refine (RL_nil (thenQ_n (hK179 _ _ ?_)))
          refine WP_seq_k fun K190 hK190 => ?_
          refine WP_region ?_
          refine RL_do rfl rfl (Do_loadF (e := (Fl.arr 64 (Fl.int .u16))) (a := p0) agg25 rfl sz25 (Blk.cells (H.item (i := 1) rfl))) ?_
          have H191 := H
          obtain ⟨⟨x192, x193⟩, e194, hF⟩ := bindO_some hF
          refine RL_call rfl rfl (DoC_func en56 rfl) (F_ref1_Seal_w p0 _ e194 _ _ _ (H.enter [] [] (by decide) rfl)) ?_
          rintro _ w195 ⟨rfl, G196⟩
          have H := H191.step (G196.only : Only [] _ _)
          refine ⟨_, rfl, ?_⟩
          refine RL_do rfl rfl (Do_move (v := .tuple #[.agg ((Fl.arr 64 (Fl.int .u16)).f x192).toArray, .int .i64 x193]) rfl) ?_
          refine RL_do rfl rfl (Do_extract (v := .agg ((Fl.arr 64 (Fl.int .u16)).f x192).toArray) rfl rfl) ?_
          refine RL_do rfl rfl (Do_extract (v := .int .i64 x193) rfl rfl) ?_
          refine RL_ex rfl rfl (Lx_alloc zero25 H) ?_
          rintro _ w199 ⟨b197, rfl, H⟩
          refine RL_exU rfl (Lx_storeW (e := (Fl.arr 64 (Fl.int .u16))) (a := (Arr.rep 64 0 : Arr 64 Int)) (a' := x192) H 3 rfl sz25 rfl rfl) ?_
          rintro w200 H
          refine RL_do rfl rfl (Do_assign (v := .int .i64 x193) rfl) ?_
          refine (RL_nil (thenQ_n (hK190 _ _ ?_)))
          obtain ⟨g225, hF, hK227⟩ := bindO_some hF
          refine WP_seqS [2, 71, 72, 73, 74, 75, 76, 77, 78, 79, 80, 81, 82, 83, 84, 85, 86, 87, 88] (fun (g : Unit) => [(2, .bool g225)]) (fun g wl => Hd O w wl S [.fz (.at 0 0 ((Fl.arr 4 (Fl.int .u16)).f G_frame_syncs))]) ?_ ?_
          · skip
            have H228 := H
            have H := H.rebase
            have H229 := H
            refine WP_mix0 H [0, 1, 2, 3, 4, 5, 6, 7, 8, 9, 10, 11, 12, 13, 14, 15, 16, 17, 18] [.read, .read, .pure, .pure, .pure, .pure, .pure, .pure, .pure, .read, .fcall, .read, .fcall, .pure, .pure, .pure, .read, .pure, .pure] mixed (by kernel_rfl) (by kernel_rfl) (by kernel_rfl) rfl ?_
            refine Mx.XL_read oS rfl rfl rfl (fun w' hw' => Do_loadF (e := (Fl.arr 64 (Fl.int .u16))) (a := x181) agg25 rfl sz25 (Blk.cells ((H.sees hw').item (i := 2) rfl))) ?_
            refine Mx.XL_read oS rfl rfl rfl (fun w' hw' => Do_loadF (e := (Fl.arr 64 (Fl.int .u16))) (a := x192) agg25 rfl sz25 (Blk.cells ((H.sees hw').item (i := 3) rfl))) ?_
            obtain ⟨x230, e231, hF⟩ := letO_some hF
            refine Mx.XL_pure rfl rfl rfl (fun w' hw' => Do_as (Do_eqlF (e := (Fl.arr 64 (Fl.int .u16))) (a := x181) (b := x192) (by kernel_rfl) eqf25 (by decide) agg25 sz25 rfl rfl) (congrArg Value.bool e231)) ?_
            refine Mx.XL_splitb (b := x230) rfl rfl rfl rfl (fun c232 => ?_) (fun c232 => ?_)
            · have hF := iteB_t c232 hF
              refine Mx.XL_pure rfl rfl rfl (fun w' hw' => Do_move (v := .int .i64 x182) rfl) ?_
              refine Mx.XL_pure rfl rfl rfl (fun w' hw' => Do_move (v := .int .i64 x193) rfl) ?_
              obtain ⟨x233, e234, hF⟩ := letO_some hF
              refine Mx.XL_pure rfl rfl rfl (fun w' hw' => Do_as (Do_eql (a := x182) (b := x193) rfl rfl) (congrArg Value.bool e234)) ?_
              refine Mx.XL_pure rfl rfl rfl (fun w' hw' => Do_pick_t (v := .bool x233) rfl rfl) ?_
              refine Mx.XL_splitb (b := x233) rfl rfl rfl rfl (fun c235 => ?_) (fun c235 => ?_)
              · have hF := iteB_t c235 hF
                refine Mx.XL_read oS rfl rfl rfl (fun w' hw' => Do_loadF (e := (Fl.arr 64 (Fl.int .u16))) (a := p0) agg25 rfl sz25 (Blk.cells ((H.sees hw').item (i := 1) rfl))) ?_
                have H236 := H
                obtain ⟨x237, e238, hF⟩ := bindO_some hF
                refine Mx.XL_fcall oS rfl rfl rfl (v := .agg ((Fl.arr 8 (Fl.int .u8)).f x237).toArray) (fun w' hw' => DoC_func en57 rfl) (fun w' hw' => call_read (F_frame_Hash_w p0 _ e238 _ _ _ (Hd.fresh0 w'))) ?_
                have H := H236
                refine Mx.XL_read oS rfl rfl rfl (fun w' hw' => Do_loadF (e := (Fl.arr 64 (Fl.int .u16))) (a := p0) agg25 rfl sz25 (Blk.cells ((H.sees hw').item (i := 1) rfl))) ?_
                have H239 := H
                obtain ⟨x240, e241, hF⟩ := bindO_some hF
                refine Mx.XL_fcall oS rfl rfl rfl (v := .agg ((Fl.arr 8 (Fl.int .u8)).f x240).toArray) (fun w' hw' => DoC_func en58 rfl) (fun w' hw' => call_read (F_ref1_Hash_w p0 _ e241 _ _ _ (Hd.fresh0 w'))) ?_
                have H := H239
                obtain ⟨x242, e243, hF⟩ := letO_some hF
                refine Mx.XL_pure rfl rfl rfl (fun w' hw' => Do_as (Do_eqlF (e := (Fl.arr 8 (Fl.int .u8))) (a := x237) (b := x240) (by kernel_rfl) eqf82 (by decide) agg82 sz82 rfl rfl) (congrArg Value.bool e243)) ?_
                refine Mx.XL_pure rfl rfl rfl (fun w' hw' => Do_pick_t (v := .bool x242) rfl rfl) ?_
                refine Mx.XL_splitb (b := x242) rfl rfl rfl rfl (fun c244 => ?_) (fun c244 => ?_)
                · have hF := iteB_t c244 hF
                  have H245 := H
                  obtain ⟨x246, e247, hF⟩ := bindO_some hF
                  refine Mx.XL_call oS rfl rfl rfl (v := .bool x246) (fun w' hw' => DoC_func en21 rfl) (fun w' hw' => call_read (X_framed_w _ e247 _ _ _ ((H.sees hw').enter [] [0] (by decide) rfl))) ?_
                  have H := H245
                  refine Mx.XL_pure rfl rfl rfl (fun w' hw' => Do_pick_t (v := .bool x246) rfl rfl) ?_
                  refine Mx.XL_pure rfl rfl rfl (fun w' hw' => Do_assign (v := .bool x246) rfl) ?_
                  refine Mx.XL_nil fun w248 hS => ?_
                  have H := H.sees hS
                  have H := H228.rejoin H
                  have hR := Option.some.inj hF
                  subst hR
                  refine (thenQ_n (And.intro ?_ ?_))
                  · repeat' (first | with_reducible exact Fr_refl | refine Fr_upd rfl ?_ | refine Fr_over rfl rfl ?_)
                  · exact ⟨(), (Sl_cons rfl Sl_nil), H.pick [0] (by decide)⟩
                · have hF := iteB_f c244 hF
                  refine Mx.XL_offr oS rfl rfl rfl ?_
                  refine Mx.XL_pure rfl rfl rfl (fun w' hw' => Do_pick_f (v := .bool false) rfl rfl) ?_
                  refine Mx.XL_pure rfl rfl rfl (fun w' hw' => Do_assign (v := .bool false) rfl) ?_
                  refine Mx.XL_nil fun w249 hS => ?_
                  have H := H.sees hS
                  have H := H228.rejoin H
                  have hR := Option.some.inj hF
                  subst hR
                  refine (thenQ_n (And.intro ?_ ?_))
                  · repeat' (first | with_reducible exact Fr_refl | refine Fr_upd rfl ?_ | refine Fr_over rfl rfl ?_)
                  · exact ⟨(), (Sl_cons rfl Sl_nil), H.pick [0] (by decide)⟩
              · have hF := iteB_f c235 hF
                refine Mx.XL_offr oS rfl rfl rfl ?_
                refine Mx.XL_offf oS rfl rfl rfl ?_
                refine Mx.XL_offr oS rfl rfl rfl ?_
                refine Mx.XL_offf oS rfl rfl rfl ?_
                refine Mx.XL_offp rfl rfl rfl ?_
                refine Mx.XL_pure rfl rfl rfl (fun w' hw' => Do_pick_f (v := .bool false) rfl rfl) ?_
                refine Mx.XL_pure rfl rfl rfl (fun w' hw' => Do_move (v := .bool false) rfl) ?_
                refine Mx.XL_offr oS rfl rfl rfl ?_
                refine Mx.XL_pure rfl rfl rfl (fun w' hw' => Do_pick_f (v := .bool false) rfl rfl) ?_
                refine Mx.XL_pure rfl rfl rfl (fun w' hw' => Do_assign (v := .bool false) rfl) ?_
                refine Mx.XL_nil fun w250 hS => ?_
                have H := H.sees hS
                have H := H228.rejoin H
                have hR := Option.some.inj hF
                subst hR
                refine (thenQ_n (And.intro ?_ ?_))
                · repeat' (first | with_reducible exact Fr_refl | refine Fr_upd rfl ?_ | refine Fr_over rfl rfl ?_)
                · exact ⟨(), (Sl_cons rfl Sl_nil), H.pick [0] (by decide)⟩
            · have hF := iteB_f c232 hF
              refine Mx.XL_offp rfl rfl rfl ?_
              refine Mx.XL_offp rfl rfl rfl ?_
              refine Mx.XL_offp rfl rfl rfl ?_
              refine Mx.XL_pure rfl rfl rfl (fun w' hw' => Do_pick_f (v := .bool false) rfl rfl) ?_
              refine Mx.XL_pure rfl rfl rfl (fun w' hw' => Do_move (v := .bool false) rfl) ?_
              refine Mx.XL_offr oS rfl rfl rfl ?_
              refine Mx.XL_offf oS rfl rfl rfl ?_
              refine Mx.XL_offr oS rfl rfl rfl ?_
              refine Mx.XL_offf oS rfl rfl rfl ?_
              refine Mx.XL_offp rfl rfl rfl ?_
              refine Mx.XL_pure rfl rfl rfl (fun w' hw' => Do_pick_f (v := .bool false) rfl rfl) ?_
              refine Mx.XL_pure rfl rfl rfl (fun w' hw' => Do_move (v := .bool false) rfl) ?_
              refine Mx.XL_offr oS rfl rfl rfl ?_
              refine Mx.XL_pure rfl rfl rfl (fun w' hw' => Do_pick_f (v := .bool false) rfl rfl) ?_
              refine Mx.XL_pure rfl rfl rfl (fun w' hw' => Do_assign (v := .bool false) rfl) ?_
              refine Mx.XL_nil fun w251 hS => ?_
              have H := H.sees hS
              have H := H228.rejoin H
              have hR := Option.some.inj hF
              subst hR
              refine (thenQ_n (And.intro ?_ ?_))
              · repeat' (first | with_reducible exact Fr_refl | refine Fr_upd rfl ?_ | refine Fr_over rfl rfl ?_)
              · exact ⟨(), (Sl_cons rfl Sl_nil), H.pick [0] (by decide)⟩
          · rintro _ ρ w226 H
            have hF := hK227
            have hR := Option.some.inj hF
            subst hR
            refine (WP_ret (post1 (v1 := .bool g225) rfl rfl ?_))
            exact ⟨rfl, H.pick [] (by decide)⟩
end Go.Proofs.YtafgmocdnjdmoaaDoor.L
