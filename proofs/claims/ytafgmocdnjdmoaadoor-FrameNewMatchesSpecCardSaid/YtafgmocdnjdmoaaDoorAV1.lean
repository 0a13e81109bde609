/- Walks: what each function computes, for every argument; no condition but those that stand in the statements. -/
import Derived.Test.YtafgmocdnjdmoaaDoorAV0
namespace Go.Proofs.YtafgmocdnjdmoaaDoor.L
open Go.RowKit Go.OB Go.Lf
/- orangebox/frame.word -/
set_option maxHeartbeats 4000000 in
theorem F_frame_word_w (p0 : Int) (r : Int) (hF : F_frame_word p0 = some r) (O S : List Nat) (w : World) (H : Hd O w w S []) :
    Calls Tryd.prog 83 ([.int .i64 p0] : List Value).toArray w fun e w' => e = .returned (.int .u16 r) ∧ Hd O w w' S [] := by
  unfold F_frame_word at hF
  refine calls_of_WP 12 Tryd.func83 rfl rfl rfl ?_
  refine WP_seq_k fun K1 hK1 => ?_
  refine WP_region ?_
  refine RL_do rfl rfl (Do_assign (v := .int .u16 0) rfl) ?_
  refine (RL_nil (thenQ_n (hK1 _ _ ?_)))
  refine WP_seq_k fun K2 hK2 => ?_
  refine WP_region ?_
  refine RL_do rfl rfl (Do_move (v := .int .i64 p0) rfl) ?_
  obtain ⟨x3, e4, hF⟩ := letO_some hF
  refine RL_do rfl rfl (Do_conv u3 u23 rfl e4) ?_
  refine RL_do rfl rfl (Do_assign (v := .int .u16 x3) rfl) ?_
  refine (RL_nil (thenQ_n (hK2 _ _ ?_)))
  obtain ⟨g16, hF, hK18⟩ := bindO_some hF
  refine WP_seqS [3, 6, 7, 8, 9, 10] (fun (g : Unit) => [(3, .int .u16 g16)]) (fun g wl => Hd O w wl S []) ?_ ?_
  · skip
    refine WP_seq_k fun K19 hK19 => ?_
    refine WP_region ?_
    refine RL_do rfl rfl (Do_move (v := .int .u16 x3) rfl) ?_
    have H20 := H
    obtain ⟨x21, e22, hF⟩ := bindO_some hF
    refine RL_call rfl rfl (DoC_func en86 rfl) (F_frame_odd_w x3 _ e22 _ _ _ (H.enter [] [] (by decide) rfl)) ?_
    rintro _ w23 ⟨rfl, G24⟩
    have H := H20.step (G24.only : Only [] _ _)
    refine ⟨_, rfl, ?_⟩
    obtain ⟨x25, e26, hF⟩ := letO_some hF
    refine RL_do rfl rfl (Do_as (Do_not (p := x21) rfl) (congrArg Value.bool e26)) ?_
    refine (RL_nil (thenQ_n (hK19 _ _ ?_)))
    refine WP_ifb (b := x25) rfl (fun c27 => ?_) (fun c27 => ?_)
    · have hF := iteB_t c27 hF
      refine WP_region ?_
      refine RL_do rfl rfl (Do_move (v := .int .u16 x3) rfl) ?_
      obtain ⟨x28, e29, hF⟩ := letO_some hF
      refine RL_do rfl rfl (Do_or (a := x3) (b := 2048) rfl rfl e29) ?_
      refine RL_do rfl rfl (Do_assign (v := .int .u16 x28) rfl) ?_
      have hR := Option.some.inj hF
      subst hR
      refine (RL_nil (thenQ_n (And.intro ?_ ?_)))
      · repeat' (first | with_reducible exact Fr_refl | refine Fr_upd rfl ?_ | refine Fr_over rfl rfl ?_)
      · exact ⟨(), (Sl_cons rfl Sl_nil), H.pick [] (by decide)⟩
    · have hF := iteB_f c27 hF
      have hR := Option.some.inj hF
      subst hR
      refine (WP_skip (thenQ_n (And.intro ?_ ?_)))
      · repeat' (first | with_reducible exact Fr_refl | refine Fr_upd rfl ?_ | refine Fr_over rfl rfl ?_)
      · exact ⟨(), (Sl_cons rfl Sl_nil), H.pick [] (by decide)⟩
  · rintro _ ρ w17 H
    have hF := hK18
    refine WP_seq_k fun K30 hK30 => ?_
    refine WP_region ?_
    refine RL_do rfl rfl (Do_move (v := .int .u16 g16) rfl) ?_
    refine RL_do rfl rfl (Do_assign (v := .int .u16 g16) rfl) ?_
    refine (RL_nil (thenQ_n (hK30 _ _ ?_)))
    have hR := Option.some.inj hF
    subst hR
    refine (WP_ret (post1 (v1 := .int .u16 g16) rfl rfl ?_))
    exact ⟨rfl, H.pick [] (by decide)⟩
end Go.Proofs.YtafgmocdnjdmoaaDoor.L
namespace Go.Proofs.YtafgmocdnjdmoaaDoor.L
open Go.RowKit Go.OB Go.Lf
/- orangebox/frame.finish -/
set_option maxHeartbeats 4000000 in
theorem F_frame_finish_w (p0 : Arr 64 Int) (b1 : Nat) (r : (Arr 64 Int)) (hF : F_frame_finish p0 = some r) (O S : List Nat) (w : World) (H : Hd O w w S [.blk b1 ((Fl.arr 64 (Fl.int .u16)).f p0) 25, .fz (.at 0 0 ((Fl.arr 4 (Fl.int .u16)).f G_frame_syncs))]) :
    Calls Tryd.prog 89 ([.pointer (some ⟨b1, 0, none⟩)] : List Value).toArray w fun e w' => e = .returned (.tuple #[]) ∧ Hd O w w' S [.blk b1 ((Fl.arr 64 (Fl.int .u16)).f r) 25] := by
  unfold F_frame_finish at hF
  refine calls_of_WP 31 Tryd.func89 rfl rfl rfl ?_
  refine WP_seq_k fun K4 hK4 => ?_
  have H5 := H
  have H := H.rebase
  have H6 := H
  refine WP_mix0 H [0, 1, 2, 3, 4, 5, 6, 7, 8] [.pure, .pure, .read, .pure, .pure, .read, .pure, .pure, .eff] mixed (by kernel_rfl) (by kernel_rfl) (by kernel_rfl) rfl ?_
  refine Mx.XL_pure rfl rfl rfl (fun w' hw' => Do_move (v := .pointer (some ⟨b1, 0, none⟩)) rfl) ?_
  refine Mx.XL_pure rfl rfl rfl (fun w' hw' => Do_move (v := .pointer (some ⟨b1, 0, none⟩)) rfl) ?_
  have H7 := H
  have H := H.freezeB (i := 0) rfl
  have H := H.fz (.pt (Rp.fl (Fl.arr 64 (Fl.int .u16))) (some ⟨b1, 0, none⟩) (some p0)) ⟨_, _, _, rfl, (H.item (i := 0) rfl).1, (H.item (i := 0) rfl).2.1, rfl, (H.item (i := 0) rfl).2.2⟩
  obtain ⟨x9, e10, hF⟩ := bindO_some hF
  refine Mx.XL_call oS rfl rfl rfl (v := .int .i64 x9) (fun w' hw' => DoC_func en91 rfl) (fun w' hw' => call_read (F_frame_numberOf_w (some p0) (some ⟨b1, 0, none⟩) _ e10 _ _ _ ((H.sees hw').enter [] [2] (by decide) rfl))) ?_
  have H := H7
  obtain ⟨x11, e12, hF⟩ := bindO_some hF
  refine Mx.XL_pure rfl rfl rfl (fun w' hw' => Do_rem' (j := x9) (q := 4) rfl rfl e12) ?_
  obtain ⟨x13, e14, hF⟩ := bindO_some hF
  refine Mx.XL_pure rfl rfl rfl (fun w' hw' => Do_idxA (X := G_frame_syncs) u111 sz23 rfl rfl e14) ?_
  refine Mx.XL_read oS rfl rfl rfl (fun w' hw' => Do_load1 (v := .int .u16 x13) one23 rfl (Cells.ix (e := (Fl.int .u16)) (x := G_frame_syncs) ((H.sees hw').item (i := 1) rfl).2.2 e14)) ?_
  refine Mx.XL_pure rfl rfl rfl (fun w' hw' => Do_nilCheck rfl) ?_
  obtain ⟨x15, e16, hF⟩ := bindO_some hF
  refine Mx.XL_pure rfl rfl rfl (fun w' hw' => Do_idxA (X := p0) u25 sz23 rfl rfl e16) ?_
  obtain ⟨x17, e18, hF⟩ := letO_some hF
  refine Mx.XL_exU oS rfl rfl (fun w' hw' => Lx_storeA (e := (Fl.int .u16)) (X := p0) (a := x13) (j := 0) (H.sees hw') 0 rfl sz23 rfl (v := .int .u16 x13) rfl rfl (Arr.at_lt e16).1 (Arr.at_lt e16).2 e18) ?_
  rintro w' w19 hw' H
  refine ⟨H.only, ?_⟩
  refine Mx.XL_nil fun w20 hS => ?_
  have H := H.sees hS
  have H := H5.rejoin H
  refine (thenQ_n (hK4 _ _ ?_))
  refine WP_seq_k fun K21 hK21 => ?_
  have H22 := H
  have H := H.rebase
  have H23 := H
  refine WP_mix0 H [0, 1, 2, 3, 4, 5, 6] [.pure, .pure, .read, .fcall, .pure, .pure, .eff] mixed (by kernel_rfl) (by kernel_rfl) (by kernel_rfl) rfl ?_
  refine Mx.XL_pure rfl rfl rfl (fun w' hw' => Do_move (v := .pointer (some ⟨b1, 0, none⟩)) rfl) ?_
  refine Mx.XL_pure rfl rfl rfl (fun w' hw' => Do_move (v := .pointer (some ⟨b1, 0, none⟩)) rfl) ?_
  have H24 := H
  have H := H.freezeB (i := 0) rfl
  have H := H.fz (.pt (Rp.fl (Fl.arr 64 (Fl.int .u16))) (some ⟨b1, 0, none⟩) (some x17)) ⟨_, _, _, rfl, (H.item (i := 0) rfl).1, (H.item (i := 0) rfl).2.1, rfl, (H.item (i := 0) rfl).2.2⟩
  obtain ⟨x26, e27, hF⟩ := bindO_some hF
  refine Mx.XL_call oS rfl rfl rfl (v := .int .i64 x26) (fun w' hw' => DoC_func en92 rfl) (fun w' hw' => call_read (F_frame_sumOf_w (some x17) (some ⟨b1, 0, none⟩) _ e27 _ _ _ ((H.sees hw').enter [] [2] (by decide) rfl))) ?_
  have H := H24
  have H28 := H
  obtain ⟨x29, e30, hF⟩ := bindO_some hF
  refine Mx.XL_fcall oS rfl rfl rfl (v := .int .u16 x29) (fun w' hw' => DoC_func en83 rfl) (fun w' hw' => call_read (F_frame_word_w x26 _ e30 _ _ _ (Hd.fresh0 w'))) ?_
  have H := H28
  refine Mx.XL_pure rfl rfl rfl (fun w' hw' => Do_nilCheck rfl) ?_
  obtain ⟨x31, e32, hF⟩ := bindO_some hF
  refine Mx.XL_pure rfl rfl rfl (fun w' hw' => Do_idxA (X := x17) u25 sz23 rfl rfl e32) ?_
  obtain ⟨x33, e34, hF⟩ := letO_some hF
  refine Mx.XL_exU oS rfl rfl (fun w' hw' => Lx_storeA (e := (Fl.int .u16)) (X := x17) (a := x29) (j := 61) (H.sees hw') 0 rfl sz23 rfl (v := .int .u16 x29) rfl rfl (Arr.at_lt e32).1 (Arr.at_lt e32).2 e34) ?_
  rintro w' w35 hw' H
  refine ⟨H.only, ?_⟩
  refine Mx.XL_nil fun w36 hS => ?_
  have H := H.sees hS
  have H := H22.rejoin H
  refine (thenQ_n (hK21 _ _ ?_))
  refine WP_seq_k fun K37 hK37 => ?_
  refine WP_region ?_
  refine RL_do rfl rfl (Do_move (v := .pointer (some ⟨b1, 0, none⟩)) rfl) ?_
  have H38 := H
  have H := H.freezeB (i := 0) rfl
  have H := H.fz (.pt (Rp.fl (Fl.arr 64 (Fl.int .u16))) (some ⟨b1, 0, none⟩) (some x33)) ⟨_, _, _, rfl, (H.item (i := 0) rfl).1, (H.item (i := 0) rfl).2.1, rfl, (H.item (i := 0) rfl).2.2⟩
  obtain ⟨x40, e41, hF⟩ := bindO_some hF
  refine RL_call rfl rfl (DoC_func en93 rfl) (F_frame_checkOf_w (some x33) (some ⟨b1, 0, none⟩) _ e41 _ _ _ (H.enter [] [2] (by decide) rfl)) ?_
  rintro _ w42 ⟨rfl, G43⟩
  have H := H38.step (G43.only : Only [] _ _)
  refine ⟨_, rfl, ?_⟩
  refine RL_do rfl rfl (Do_assign (v := .int .i64 x40) rfl) ?_
  refine (RL_nil (thenQ_n (hK37 _ _ ?_)))
  have H44 := H
  have H := H.rebase
  have H45 := H
  refine WP_mix H [0, 1, 2, 3, 4, 5, 6, 7, 8, 9, 11, 10, 12, 13] [.pure, .pure, .pure, .pure, .fcall, .pure, .pure, .fcall, .pure, .pure, .eff, .pure, .pure, .eff] mixed (by kernel_rfl) (by kernel_rfl) (by kernel_rfl) (by decide) ?_
  refine Mx.XL_pure rfl rfl rfl (fun w' hw' => Do_move (v := .pointer (some ⟨b1, 0, none⟩)) rfl) ?_
  refine Mx.XL_pure rfl rfl rfl (fun w' hw' => Do_move (v := .pointer (some ⟨b1, 0, none⟩)) rfl) ?_
  refine Mx.XL_pure rfl rfl rfl (fun w' hw' => Do_move (v := .int .i64 x40) rfl) ?_
  obtain ⟨x46, e47, hF⟩ := bindO_some hF
  refine Mx.XL_pure rfl rfl rfl (fun w' hw' => Do_shr' (j := x40) (q := 11) rfl rfl e47) ?_
  have H48 := H
  obtain ⟨x49, e50, hF⟩ := bindO_some hF
  refine Mx.XL_fcall oS rfl rfl rfl (v := .int .u16 x49) (fun w' hw' => DoC_func en83 rfl) (fun w' hw' => call_read (F_frame_word_w x46 _ e50 _ _ _ (Hd.fresh0 w'))) ?_
  have H := H48
  refine Mx.XL_pure rfl rfl rfl (fun w' hw' => Do_move (v := .int .i64 x40) rfl) ?_
  obtain ⟨x51, e52, hF⟩ := letO_some hF
  refine Mx.XL_pure rfl rfl rfl (fun w' hw' => Do_and (a := x40) (b := 2047) rfl rfl e52) ?_
  have H53 := H
  obtain ⟨x54, e55, hF⟩ := bindO_some hF
  refine Mx.XL_fcall oS rfl rfl rfl (v := .int .u16 x54) (fun w' hw' => DoC_func en83 rfl) (fun w' hw' => call_read (F_frame_word_w x51 _ e55 _ _ _ (Hd.fresh0 w'))) ?_
  have H := H53
  refine Mx.XL_pure rfl rfl rfl (fun w' hw' => Do_nilCheck rfl) ?_
  obtain ⟨x56, e57, hF⟩ := bindO_some hF
  refine Mx.XL_pure rfl rfl rfl (fun w' hw' => Do_idxA (X := x33) u25 sz23 rfl rfl e57) ?_
  refine Mx.XL_pure rfl rfl rfl (fun w' hw' => Do_nilCheck rfl) ?_
  obtain ⟨x58, e59, hF⟩ := letO_some hF
  refine Mx.XL_exU oS rfl rfl (fun w' hw' => Lx_storeA (e := (Fl.int .u16)) (X := x33) (a := x49) (j := 62) (H.sees hw') 0 rfl sz23 rfl (v := .int .u16 x49) rfl rfl (Arr.at_lt e57).1 (Arr.at_lt e57).2 e59) ?_
  rintro w' w60 hw' H
  refine ⟨H.only, ?_⟩
  obtain ⟨x61, e62, hF⟩ := bindO_some hF
  refine Mx.XL_pure rfl rfl rfl (fun w' hw' => Do_idxA (X := x58) u25 sz23 rfl rfl e62) ?_
  obtain ⟨x63, e64, hF⟩ := letO_some hF
  refine Mx.XL_exU oS rfl rfl (fun w' hw' => Lx_storeA (e := (Fl.int .u16)) (X := x58) (a := x54) (j := 63) (H.sees hw') 0 rfl sz23 rfl (v := .int .u16 x54) rfl rfl (Arr.at_lt e62).1 (Arr.at_lt e62).2 e64) ?_
  rintro w' w65 hw' H
  refine ⟨H.only, ?_⟩
  refine Mx.XL_nil fun w66 hS => ?_
  have H := H.sees hS
  have H := H44.rejoin H
  have hR := Option.some.inj hF
  subst hR
  refine (post0n rfl ?_)
  exact ⟨rfl, H.pick [0] (by decide)⟩
end Go.Proofs.YtafgmocdnjdmoaaDoor.L
namespace Go.Proofs.YtafgmocdnjdmoaaDoor.L
open Go.RowKit Go.OB Go.Lf
/- orangebox/frame.Seal -/
set_option maxHeartbeats 4000000 in
theorem F_frame_Seal_w (p0 : Arr 64 Int) (r : (Arr 64 Int) × Int) (hF : F_frame_Seal p0 = some r) (O S : List Nat) (w : World) (H : Hd O w w S [.fz (.at 0 0 ((Fl.arr 4 (Fl.int .u16)).f G_frame_syncs))]) :
    Calls Tryd.prog 48 ([.agg ((Fl.arr 64 (Fl.int .u16)).f p0).toArray] : List Value).toArray w fun e w' => e = .returned (.tuple #[.agg ((Fl.arr 64 (Fl.int .u16)).f r.1).toArray, .int .i64 r.2]) ∧ Hd O w w' S [] := by
  unfold F_frame_Seal at hF
  refine calls_of_WP 22 Tryd.func48 rfl rfl rfl ?_
  refine WP_seq_k fun K2 hK2 => ?_
  refine WP_region ?_
  refine RL_ex rfl rfl (Lx_box (cs := (Fl.arr 64 (Fl.int .u16)).f p0) rfl H) ?_
  rintro _ w5 ⟨b3, rfl, H⟩
  refine RL_ex rfl rfl (Lx_alloc zero25 H) ?_
  rintro _ w8 ⟨b6, rfl, H⟩
  refine RL_do rfl rfl (Do_assign (v := .int .i64 0) rfl) ?_
  refine (RL_nil (thenQ_n (hK2 _ _ ?_)))
  refine WP_seq_k fun K19 hK19 => ?_
  refine WP_seq_k fun K20 hK20 => ?_
  refine WP_region ?_
  have H21 := H
  have H := H.freezeB (i := 1) rfl
  have H := H.fz (.pt (Rp.fl (Fl.arr 64 (Fl.int .u16))) (some ⟨b3, 0, none⟩) (some p0)) ⟨_, _, _, rfl, (H.item (i := 1) rfl).1, (H.item (i := 1) rfl).2.1, rfl, (H.item (i := 1) rfl).2.2⟩
  obtain ⟨x23, e24, hF⟩ := bindO_some hF
  refine RL_call rfl rfl (DoC_func en78 rfl) (F_frame_wide_w (some p0) (some ⟨b3, 0, none⟩) _ e24 _ _ _ (H.enter [] [3] (by decide) rfl)) ?_
  rintro _ w25 ⟨rfl, G26⟩
  have H := H21.step (G26.only : Only [] _ _)
  refine ⟨_, rfl, ?_⟩
  refine (RL_nil (thenQ_n (hK20 _ _ ?_)))
  refine WP_ifb (b := x23) rfl (fun c27 => ?_) (fun c27 => ?_)
  · have hF := iteB_t c27 hF
    refine WP_seq_k fun K28 hK28 => ?_
    refine WP_region ?_
    refine RL_do rfl rfl (Do_build (cs := (Fl.arr 64 (Fl.int .u16)).f (Arr.rep 64 0 : Arr 64 Int)) bz25) ?_
    refine RL_exU rfl (Lx_storeW (e := (Fl.arr 64 (Fl.int .u16))) (a := (Arr.rep 64 0 : Arr 64 Int)) (a' := (Arr.rep 64 0 : Arr 64 Int)) H 2 rfl sz25 rfl rfl) ?_
    rintro w29 H
    refine RL_do rfl rfl (Do_assign (v := .int .i64 9) rfl) ?_
    refine (RL_nil (thenQ_n (hK28 _ _ ?_)))
    have hR := Option.some.inj hF
    subst hR
    refine (WP_ret (thenQ_r (postc1 (v1 := .int .i64 9) rfl rfl (run_loadVar_agg agg25 sz25 (Fl.len _ _) (Blk.cells (H.item (i := 2) rfl))) rfl ?_)))
    exact ⟨rfl, H.pick [] (by decide)⟩
  · have hF := iteB_f c27 hF
    refine (WP_skip (thenQ_n (hK19 _ _ ?_)))
    obtain ⟨g145, hF, hK147⟩ := bindO_some hF
    refine WP_seqS [4, 7, 8, 9, 10, 11, 12, 13, 14, 15, 16, 17, 18, 19] (fun (g : Unit) => []) (fun g wl => Hd O w wl S [.fz (.at 0 0 ((Fl.arr 4 (Fl.int .u16)).f G_frame_syncs)), .blk b3 ((Fl.arr 64 (Fl.int .u16)).f g145) 25, .blk b6 ((Fl.arr 64 (Fl.int .u16)).f (Arr.rep 64 0 : Arr 64 Int)) 25]) ?_ ?_
    · skip
      refine WP_seq_k fun K148 hK148 => ?_
      refine WP_region ?_
      refine RL_do rfl rfl (Do_move (v := .int .i64 0) rfl) ?_
      refine (RL_nil (thenQ_n (hK148 _ _ ?_)))
      refine WP_block ?_
      unfold F_frame_Seal_L1 at hF
      obtain ⟨B259, n260, eB261, hF⟩ := loopO_some hF
      refine WP_loopS [4, 7, 8, 9, 10, 11, 12, 13, 14, 15, 16, 17, 18, 19] (fun (g : Nat × Int × (Arr 64 Int)) => [(7, .int .i64 g.2.1)]) (fun g wl => Hd O w wl S [.fz (.at 0 0 ((Fl.arr 4 (Fl.int .u16)).f G_frame_syncs)), .blk b3 ((Fl.arr 64 (Fl.int .u16)).f g.2.2) 25, .blk b6 ((Fl.arr 64 (Fl.int .u16)).f (Arr.rep 64 0 : Arr 64 Int)) 25] ∧ loopN B259 g.1 (g.2.1, g.2.2) = some g145) (fun g => g.1) (n260, 0, p0) (Sl_cons rfl Sl_nil) ⟨H.pick [0, 1, 2] (by decide), hF⟩ ?_
      clear H hF
      rintro ⟨n260, g257, g258⟩ ρ w263 ⟨H, hF⟩
      obtain ⟨n264, rfl, hF⟩ := loopN_pos hF
      have hF := loop_body eB261 hF
      refine WP_seq_k fun K265 hK265 => ?_
      refine WP_region ?_
      obtain ⟨x266, e267, hF⟩ := letO_some hF
      refine RL_do rfl rfl (Do_as (Do_lss (a := g257) (b := 60) rfl rfl) (congrArg Value.bool e267)) ?_
      refine (RL_nil (thenQ_n (hK265 _ _ ?_)))
      refine WP_seq_k fun K269 hK269 => ?_
      refine WP_ifb (b := x266) rfl (fun c270 => ?_) (fun c270 => ?_)
      · have hF := iteB_t c270 hF
        refine (WP_skip (thenQ_n (hK269 _ _ ?_)))
        refine WP_seq_k fun K293 hK293 => ?_
        refine WP_block ?_
        refine WP_seq_k fun K294 hK294 => ?_
        refine WP_region ?_
        refine RL_do rfl rfl (Do_move (v := .int .i64 g257) rfl) ?_
        refine RL_do rfl rfl (Do_assign (v := .int .i64 g257) rfl) ?_
        refine (RL_nil (thenQ_n (hK294 _ _ ?_)))
        refine WP_region ?_
        refine RL_do rfl rfl (Do_move (v := .int .i64 g257) rfl) ?_
        obtain ⟨x295, e296, hF⟩ := letO_some hF
        refine RL_do rfl rfl (Do_add (a := g257) (b := 1) rfl rfl e296) ?_
        refine RL_do rfl rfl (Do_move (v := .int .i64 g257) rfl) ?_
        obtain ⟨x297, e298, hF⟩ := letO_some hF
        refine RL_do rfl rfl (Do_add (a := g257) (b := 1) rfl rfl e298) ?_
        obtain ⟨x299, e300, hF⟩ := bindO_some hF
        refine RL_do rfl rfl (Do_idxA (X := g258) u25 sz23 rfl rfl e300) ?_
        refine RL_do rfl rfl (Do_load1 (v := .int .u16 x299) one23 rfl (Cells.ix (e := (Fl.int .u16)) (x := g258) (Blk.cells (H.item (i := 1) rfl)) e300)) ?_
        have H301 := H
        obtain ⟨x302, e303, hF⟩ := bindO_some hF
        refine RL_call rfl rfl (DoC_func en85 rfl) (F_frame_data_w x299 _ e303 _ _ _ (H.enter [] [] (by decide) rfl)) ?_
        rintro _ w304 ⟨rfl, G305⟩
        have H := H301.step (G305.only : Only [] _ _)
        refine ⟨_, rfl, ?_⟩
        have H306 := H
        obtain ⟨x307, e308, hF⟩ := bindO_some hF
        refine RL_call rfl rfl (DoC_func en83 rfl) (F_frame_word_w x302 _ e308 _ _ _ (H.enter [] [] (by decide) rfl)) ?_
        rintro _ w309 ⟨rfl, G310⟩
        have H := H306.step (G310.only : Only [] _ _)
        refine ⟨_, rfl, ?_⟩
        obtain ⟨x311, e312, hF⟩ := bindO_some hF
        refine RL_do rfl rfl (Do_idxA (X := g258) u25 sz23 rfl rfl e312) ?_
        obtain ⟨x313, e314, hF⟩ := letO_some hF
        refine RL_exU rfl (Lx_storeA (e := (Fl.int .u16)) (X := g258) (a := x307) (j := x295) H 1 rfl sz23 rfl (v := .int .u16 x307) rfl rfl (Arr.at_lt e312).1 (Arr.at_lt e312).2 e314) ?_
        rintro w315 H
        refine (RL_nil (blockQ_n (thenQ_n (hK293 _ _ ?_))))
        refine WP_region ?_
        obtain ⟨x316, e317, hF⟩ := letO_some hF
        refine RL_do rfl rfl (Do_add (a := g257) (b := 1) rfl rfl e317) ?_
        refine RL_do rfl rfl (Do_move (v := .int .i64 x316) rfl) ?_
        refine (RL_nil (thenQ_n (And.intro ?_ ?_)))
        · repeat' (first | with_reducible exact Fr_refl | refine Fr_upd rfl ?_ | refine Fr_over rfl rfl ?_)
        · exact ⟨(n264, x316, x313), (Sl_cons rfl Sl_nil), ⟨H.pick [0, 1, 2] (by decide), hF⟩, Nat.lt_succ_self _⟩
      · have hF := iteB_f c270 hF
        have hR := Option.some.inj hF
        subst hR
        refine (WP_exit (thenQ_x (thenQ_x (blockQ_eq (thenQ_n (And.intro ?_ ?_))))))
        · repeat' (first | with_reducible exact Fr_refl | refine Fr_upd rfl ?_ | refine Fr_over rfl rfl ?_)
        · exact ⟨(), Sl_nil, H.pick [0, 1, 2] (by decide)⟩
    · rintro _ ρ w146 H
      have hF := hK147
      refine WP_seq_k fun K318 hK318 => ?_
      refine WP_region ?_
      obtain ⟨x319, e320, hF⟩ := bindO_some hF
      refine RL_call rfl rfl (DoC_func en89 rfl) (F_frame_finish_w g145 b3 _ e320 _ _ _ (H.enter [1] [0] (by decide) rfl)) ?_
      rintro _ w321 ⟨rfl, G322⟩
      have H : Hd O _ w321 _ [.fz (.at 0 0 ((Fl.arr 4 (Fl.int .u16)).f G_frame_syncs)), .blk b6 ((Fl.arr 64 (Fl.int .u16)).f (Arr.rep 64 0 : Arr 64 Int)) 25, .blk b3 ((Fl.arr 64 (Fl.int .u16)).f x319) 25] := H.back [1] [0] rfl G322
      refine ⟨_, rfl, ?_⟩
      refine (RL_nil (thenQ_n (hK318 _ _ ?_)))
      refine WP_seq_k fun K323 hK323 => ?_
      refine WP_region ?_
      refine RL_do rfl rfl (Do_loadF (e := (Fl.arr 64 (Fl.int .u16))) (a := x319) agg25 rfl sz25 (Blk.cells (H.item (i := 2) rfl))) ?_
      refine RL_exU rfl (Lx_storeW (e := (Fl.arr 64 (Fl.int .u16))) (a := (Arr.rep 64 0 : Arr 64 Int)) (a' := x319) H 1 rfl sz25 rfl rfl) ?_
      rintro w324 H
      refine RL_do rfl rfl (Do_assign (v := .int .i64 0) rfl) ?_
      refine (RL_nil (thenQ_n (hK323 _ _ ?_)))
      have hR := Option.some.inj hF
      subst hR
      refine (WP_ret (postc1 (v1 := .int .i64 0) rfl rfl (run_loadVar_agg agg25 sz25 (Fl.len _ _) (Blk.cells (H.item (i := 1) rfl))) rfl ?_))
      exact ⟨rfl, H.pick [] (by decide)⟩
end Go.Proofs.YtafgmocdnjdmoaaDoor.L
namespace Go.Proofs.YtafgmocdnjdmoaaDoor.L
open Go.RowKit Go.OB Go.Lf
/- slices.Equal[[]int,int] -/
set_option maxHeartbeats 4000000 in
theorem F_slices_Equal___int_int__w (p0 : List Int) (p1 : List Int) (v1 : Value) (v3 : Value) (r : Bool) (hF : F_slices_Equal___int_int_ p0 p1 = some r) (O S : List Nat) (w : World) (H : Hd O w w S [.fz (.sl (Rp.int .i64) v1 p0), .fz (.sl (Rp.int .i64) v3 p1)]) :
    Calls Tryd.prog 49 ([v1, v3] : List Value).toArray w fun e w' => e = .returned (.bool r) ∧ Hd O w w' S [] := by
  unfold F_slices_Equal___int_int_ at hF
  refine calls_of_WP 26 Tryd.func49 rfl rfl rfl ?_
  refine WP_seq_k fun K5 hK5 => ?_
  refine WP_region ?_
  refine RL_do rfl rfl (Do_assign (v := .bool false) rfl) ?_
  refine (RL_nil (thenQ_n (hK5 _ _ ?_)))
  refine WP_seq_k fun K21 hK21 => ?_
  refine WP_seq_k fun K22 hK22 => ?_
  refine WP_region ?_
  refine RL_do rfl rfl (Do_move (v := v1) rfl) ?_
  obtain ⟨x23, e24, hF⟩ := letO_some hF
  obtain ⟨a25, c26, q27⟩ := SlF.len ((H.item (i := 0) rfl))
  refine RL_do rfl rfl (Do_as (Do_len u46 q27) (congrArg (Value.int .i64) e24)) ?_
  refine RL_do rfl rfl (Do_move (v := v3) rfl) ?_
  obtain ⟨x28, e29, hF⟩ := letO_some hF
  obtain ⟨a30, c31, q32⟩ := SlF.len ((H.item (i := 1) rfl))
  refine RL_do rfl rfl (Do_as (Do_len u46 q32) (congrArg (Value.int .i64) e29)) ?_
  obtain ⟨x33, e34, hF⟩ := letO_some hF
  refine RL_do rfl rfl (Do_as (Do_neq (a := x23) (b := x28) rfl rfl) (congrArg Value.bool e34)) ?_
  refine (RL_nil (thenQ_n (hK22 _ _ ?_)))
  refine WP_ifb (b := x33) rfl (fun c35 => ?_) (fun c35 => ?_)
  · have hF := iteB_t c35 hF
    refine WP_seq_k fun K36 hK36 => ?_
    refine WP_region ?_
    refine RL_do rfl rfl (Do_assign (v := .bool false) rfl) ?_
    refine (RL_nil (thenQ_n (hK36 _ _ ?_)))
    have hR := Option.some.inj hF
    subst hR
    refine (WP_ret (thenQ_r (post1 (v1 := .bool false) rfl rfl ?_)))
    exact ⟨rfl, H.pick [] (by decide)⟩
  · have hF := iteB_f c35 hF
    refine (WP_skip (thenQ_n (hK21 _ _ ?_)))
    obtain ⟨k201, ek202, hF⟩ := joinO_some hF
    refine WP_seqS [4, 5, 11, 12, 13, 14, 15, 16, 17, 18, 19, 20, 21, 22, 23, 24, 25] (fun (g : Unit) => []) (fun g wl => Hd O w wl S [] ∧ k201 () = some r) ?_ ?_
    · skip
      refine WP_seq_k fun K203 hK203 => ?_
      refine WP_region ?_
      refine RL_do rfl rfl (Do_move (v := v1) rfl) ?_
      obtain ⟨x204, e205, hF⟩ := letO_some hF
      obtain ⟨a206, c207, q208⟩ := SlF.len ((H.item (i := 0) rfl))
      refine RL_do rfl rfl (Do_as (Do_len u46 q208) (congrArg (Value.int .i64) e205)) ?_
      refine RL_do rfl rfl (Do_move (v := .int .i64 0) rfl) ?_
      refine (RL_nil (thenQ_n (hK203 _ _ ?_)))
      refine WP_block ?_
      unfold F_slices_Equal___int_int__L1 at hF
      obtain ⟨B361, n362, eB363, hF⟩ := loopO_some hF
      refine WP_loopS [4, 5, 13, 14, 15, 16, 17, 18, 19, 20, 21, 22, 23, 24, 25] (fun (g : Nat × Int) => [(13, .int .i64 g.2)]) (fun g wl => Hd O w wl S [.fz (.sl (Rp.int .i64) v1 p0), .fz (.sl (Rp.int .i64) v3 p1)] ∧ loopN B361 g.1 g.2 = some r) (fun g => g.1) (n362, 0) (Sl_cons rfl Sl_nil) ⟨H.pick [0, 1] (by decide), hF⟩ ?_
      clear H hF
      rintro ⟨n362, g360⟩ ρ w365 ⟨H, hF⟩
      obtain ⟨n366, rfl, hF⟩ := loopN_pos hF
      have hF := loop_body eB363 hF
      refine WP_seq_k fun K367 hK367 => ?_
      refine WP_region ?_
      obtain ⟨x368, e369, hF⟩ := letO_some hF
      refine RL_do rfl rfl (Do_as (Do_lss (a := g360) (b := x204) rfl rfl) (congrArg Value.bool e369)) ?_
      refine (RL_nil (thenQ_n (hK367 _ _ ?_)))
      refine WP_seq_k fun K371 hK371 => ?_
      refine WP_ifb (b := x368) rfl (fun c372 => ?_) (fun c372 => ?_)
      · have hF := iteB_t c372 hF
        refine (WP_skip (thenQ_n (hK371 _ _ ?_)))
        refine WP_seq_k fun K406 hK406 => ?_
        refine WP_block ?_
        refine WP_seq_k fun K407 hK407 => ?_
        refine WP_region ?_
        refine RL_do rfl rfl (Do_move (v := .int .i64 g360) rfl) ?_
        refine RL_do rfl rfl (Do_assign (v := .int .i64 g360) rfl) ?_
        refine (RL_nil (thenQ_n (hK407 _ _ ?_)))
        refine WP_seq_k fun K408 hK408 => ?_
        have H409 := H
        have H := H.rebase
        have H410 := H
        refine WP_mix0 H [0, 1, 2, 3, 4, 5, 6, 7, 8] [.pure, .pure, .pure, .read, .pure, .pure, .pure, .read, .pure] mixed (by kernel_rfl) (by kernel_rfl) (by kernel_rfl) rfl ?_
        refine Mx.XL_pure rfl rfl rfl (fun w' hw' => Do_move (v := v1) rfl) ?_
        refine Mx.XL_pure rfl rfl rfl (fun w' hw' => Do_move (v := .int .i64 g360) rfl) ?_
        obtain ⟨x411, e412, hF⟩ := bindO_some hF
        obtain ⟨b413, o414, c415, cs416, q417, h420, h418, h419, h421⟩ := rd_at (H.item (i := 0) rfl) e412
        obtain rfl : cs416 = [.int .i64 x411] := h420
        have H := H.fz (.at b413 (o414 + g360.toNat * 1) _) ⟨h418, h419, h421⟩
        refine Mx.XL_pure rfl rfl rfl (fun w' hw' => Do_idx u46 sz3 q417 rfl (at_some e412).1 (at_some e412).2.1 rfl rfl) ?_
        refine Mx.XL_read oS rfl rfl rfl (fun w' hw' => Do_load one3 rfl (Cells.get ((H.sees hw').item (i := 2) rfl).2.2 (i := 0) rfl)) ?_
        refine Mx.XL_pure rfl rfl rfl (fun w' hw' => Do_move (v := v3) rfl) ?_
        refine Mx.XL_pure rfl rfl rfl (fun w' hw' => Do_move (v := .int .i64 g360) rfl) ?_
        obtain ⟨x423, e424, hF⟩ := bindO_some hF
        obtain ⟨b425, o426, c427, cs428, q429, h432, h430, h431, h433⟩ := rd_at (H.item (i := 1) rfl) e424
        obtain rfl : cs428 = [.int .i64 x423] := h432
        have H := H.fz (.at b425 (o426 + g360.toNat * 1) _) ⟨h430, h431, h433⟩
        refine Mx.XL_pure rfl rfl rfl (fun w' hw' => Do_idx u46 sz3 q429 rfl (at_some e424).1 (at_some e424).2.1 rfl rfl) ?_
        refine Mx.XL_read oS rfl rfl rfl (fun w' hw' => Do_load one3 rfl (Cells.get ((H.sees hw').item (i := 3) rfl).2.2 (i := 0) rfl)) ?_
        obtain ⟨x435, e436, hF⟩ := letO_some hF
        refine Mx.XL_pure rfl rfl rfl (fun w' hw' => Do_as (Do_neq (a := x411) (b := x423) rfl rfl) (congrArg Value.bool e436)) ?_
        refine Mx.XL_nil fun w437 hS => ?_
        have H := H.sees hS
        have H := H409.rejoin H
        refine (thenQ_n (hK408 _ _ ?_))
        refine WP_ifb (b := x435) rfl (fun c438 => ?_) (fun c438 => ?_)
        · have hF := iteB_t c438 hF
          refine WP_seq_k fun K439 hK439 => ?_
          refine WP_region ?_
          refine RL_do rfl rfl (Do_assign (v := .bool false) rfl) ?_
          refine (RL_nil (thenQ_n (hK439 _ _ ?_)))
          have hR := Option.some.inj hF
          subst hR
          refine (WP_ret (blockQ_r (thenQ_r (thenQ_r (blockQ_r (thenQ_r (post1 (v1 := .bool false) rfl rfl ?_)))))))
          exact ⟨rfl, H.pick [] (by decide)⟩
        · have hF := iteB_f c438 hF
          refine (WP_skip (blockQ_n (thenQ_n (hK406 _ _ ?_))))
          refine WP_region ?_
          obtain ⟨x440, e441, hF⟩ := letO_some hF
          refine RL_do rfl rfl (Do_add (a := g360) (b := 1) rfl rfl e441) ?_
          refine RL_do rfl rfl (Do_move (v := .int .i64 x440) rfl) ?_
          refine (RL_nil (thenQ_n (And.intro ?_ ?_)))
          · repeat' (first | with_reducible exact Fr_refl | refine Fr_upd rfl ?_ | refine Fr_over rfl rfl ?_)
          · exact ⟨(n366, x440), (Sl_cons rfl Sl_nil), ⟨H.pick [0, 1] (by decide), hF⟩, Nat.lt_succ_self _⟩
      · have hF := iteB_f c372 hF
        refine (WP_exit (thenQ_x (thenQ_x (blockQ_eq (thenQ_n (And.intro ?_ ?_))))))
        · repeat' (first | with_reducible exact Fr_refl | refine Fr_upd rfl ?_ | refine Fr_over rfl rfl ?_)
        · exact ⟨(), Sl_nil, ⟨H.pick [] (by decide), hF⟩⟩
    · rintro _ ρ w200 ⟨H, hF⟩
      have hF := join_body ek202 hF
      refine WP_seq_k fun K442 hK442 => ?_
      refine WP_region ?_
      refine RL_do rfl rfl (Do_assign (v := .bool true) rfl) ?_
      refine (RL_nil (thenQ_n (hK442 _ _ ?_)))
      have hR := Option.some.inj hF
      subst hR
      refine (WP_ret (post1 (v1 := .bool true) rfl rfl ?_))
      exact ⟨rfl, H.pick [] (by decide)⟩
end Go.Proofs.YtafgmocdnjdmoaaDoor.L
namespace Go.Proofs.YtafgmocdnjdmoaaDoor.L
open Go.RowKit Go.OB Go.Lf
/- slices.Index[[]bool,bool] -/
set_option maxHeartbeats 4000000 in
theorem F_slices_Index___bool_bool__w (p0 : List Bool) (p1 : Bool) (v1 : Value) (r : Int) (hF : F_slices_Index___bool_bool_ p0 p1 = some r) (O S : List Nat) (w : World) (H : Hd O w w S [.fz (.sl Rp.bool v1 p0)]) :
    Calls Tryd.prog 99 ([v1, .bool p1] : List Value).toArray w fun e w' => e = .returned (.int .i64 r) ∧ Hd O w w' S [] := by
  unfold F_slices_Index___bool_bool_ at hF
  refine calls_of_WP 19 Tryd.func99 rfl rfl rfl ?_
  refine WP_seq_k fun K3 hK3 => ?_
  refine WP_region ?_
  refine RL_do rfl rfl (Do_assign (v := .int .i64 0) rfl) ?_
  refine (RL_nil (thenQ_n (hK3 _ _ ?_)))
  obtain ⟨k108, ek109, hF⟩ := joinO_some hF
  refine WP_seqS [4, 5, 6, 7, 8, 9, 10, 11, 12, 13, 14, 15, 16, 17, 18] (fun (g : Unit) => []) (fun g wl => Hd O w wl S [] ∧ k108 () = some r) ?_ ?_
  · skip
    refine WP_seq_k fun K110 hK110 => ?_
    refine WP_region ?_
    refine RL_do rfl rfl (Do_move (v := v1) rfl) ?_
    obtain ⟨x111, e112, hF⟩ := letO_some hF
    obtain ⟨a113, c114, q115⟩ := SlF.len ((H.item (i := 0) rfl))
    refine RL_do rfl rfl (Do_as (Do_len u70 q115) (congrArg (Value.int .i64) e112)) ?_
    refine RL_do rfl rfl (Do_move (v := .int .i64 0) rfl) ?_
    refine (RL_nil (thenQ_n (hK110 _ _ ?_)))
    refine WP_block ?_
    unfold F_slices_Index___bool_bool__L1 at hF
    obtain ⟨B208, n209, eB210, hF⟩ := loopO_some hF
    refine WP_loopS [4, 5, 8, 9, 10, 11, 12, 13, 14, 15, 16, 17, 18] (fun (g : Nat × Int) => [(8, .int .i64 g.2)]) (fun g wl => Hd O w wl S [.fz (.sl Rp.bool v1 p0)] ∧ loopN B208 g.1 g.2 = some r) (fun g => g.1) (n209, 0) (Sl_cons rfl Sl_nil) ⟨H.pick [0] (by decide), hF⟩ ?_
    clear H hF
    rintro ⟨n209, g207⟩ ρ w212 ⟨H, hF⟩
    obtain ⟨n213, rfl, hF⟩ := loopN_pos hF
    have hF := loop_body eB210 hF
    refine WP_seq_k fun K214 hK214 => ?_
    refine WP_region ?_
    obtain ⟨x215, e216, hF⟩ := letO_some hF
    refine RL_do rfl rfl (Do_as (Do_lss (a := g207) (b := x111) rfl rfl) (congrArg Value.bool e216)) ?_
    refine (RL_nil (thenQ_n (hK214 _ _ ?_)))
    refine WP_seq_k fun K218 hK218 => ?_
    refine WP_ifb (b := x215) rfl (fun c219 => ?_) (fun c219 => ?_)
    · have hF := iteB_t c219 hF
      refine (WP_skip (thenQ_n (hK218 _ _ ?_)))
      refine WP_seq_k fun K238 hK238 => ?_
      refine WP_block ?_
      refine WP_seq_k fun K239 hK239 => ?_
      refine WP_region ?_
      refine RL_do rfl rfl (Do_move (v := .int .i64 g207) rfl) ?_
      refine RL_do rfl rfl (Do_assign (v := .int .i64 g207) rfl) ?_
      refine (RL_nil (thenQ_n (hK239 _ _ ?_)))
      refine WP_seq_k fun K240 hK240 => ?_
      refine WP_region ?_
      refine RL_do rfl rfl (Do_move (v := .bool p1) rfl) ?_
      refine RL_do rfl rfl (Do_move (v := v1) rfl) ?_
      refine RL_do rfl rfl (Do_move (v := .int .i64 g207) rfl) ?_
      obtain ⟨x241, e242, hF⟩ := bindO_some hF
      obtain ⟨b243, o244, c245, cs246, q247, h250, h248, h249, h251⟩ := rd_at (H.item (i := 0) rfl) e242
      obtain rfl : cs246 = [.bool x241] := h250
      have H := H.fz (.at b243 (o244 + g207.toNat * 1) _) ⟨h248, h249, h251⟩
      refine RL_do rfl rfl (Do_idx u70 sz4 q247 rfl (at_some e242).1 (at_some e242).2.1 rfl rfl) ?_
      refine RL_do rfl rfl (Do_load one4 rfl (Cells.get (H.item (i := 1) rfl).2.2 (i := 0) rfl)) ?_
      obtain ⟨x253, e254, hF⟩ := letO_some hF
      refine RL_do rfl rfl (Do_as (Do_eqlb (p := p1) (q := x241) u4 rfl rfl) (congrArg Value.bool e254)) ?_
      refine (RL_nil (thenQ_n (hK240 _ _ ?_)))
      refine WP_ifb (b := x253) rfl (fun c255 => ?_) (fun c255 => ?_)
      · have hF := iteB_t c255 hF
        refine WP_seq_k fun K256 hK256 => ?_
        refine WP_region ?_
        refine RL_do rfl rfl (Do_move (v := .int .i64 g207) rfl) ?_
        refine RL_do rfl rfl (Do_assign (v := .int .i64 g207) rfl) ?_
        refine (RL_nil (thenQ_n (hK256 _ _ ?_)))
        have hR := Option.some.inj hF
        subst hR
        refine (WP_ret (blockQ_r (thenQ_r (thenQ_r (blockQ_r (thenQ_r (post1 (v1 := .int .i64 g207) rfl rfl ?_)))))))
        exact ⟨rfl, H.pick [] (by decide)⟩
      · have hF := iteB_f c255 hF
        refine (WP_skip (blockQ_n (thenQ_n (hK238 _ _ ?_))))
        refine WP_region ?_
        obtain ⟨x257, e258, hF⟩ := letO_some hF
        refine RL_do rfl rfl (Do_add (a := g207) (b := 1) rfl rfl e258) ?_
        refine RL_do rfl rfl (Do_move (v := .int .i64 x257) rfl) ?_
        refine (RL_nil (thenQ_n (And.intro ?_ ?_)))
        · repeat' (first | with_reducible exact Fr_refl | refine Fr_upd rfl ?_ | refine Fr_over rfl rfl ?_)
        · exact ⟨(n213, x257), (Sl_cons rfl Sl_nil), ⟨H.pick [0] (by decide), hF⟩, Nat.lt_succ_self _⟩
    · have hF := iteB_f c219 hF
      refine (WP_exit (thenQ_x (thenQ_x (blockQ_eq (thenQ_n (And.intro ?_ ?_))))))
      · repeat' (first | with_reducible exact Fr_refl | refine Fr_upd rfl ?_ | refine Fr_over rfl rfl ?_)
      · exact ⟨(), Sl_nil, ⟨H.pick [] (by decide), hF⟩⟩
  · rintro _ ρ w107 ⟨H, hF⟩
    have hF := join_body ek109 hF
    refine WP_seq_k fun K259 hK259 => ?_
    refine WP_region ?_
    refine RL_do rfl rfl (Do_assign (v := .int .i64 (-1)) rfl) ?_
    refine (RL_nil (thenQ_n (hK259 _ _ ?_)))
    have hR := Option.some.inj hF
    subst hR
    refine (WP_ret (post1 (v1 := .int .i64 (-1)) rfl rfl ?_))
    exact ⟨rfl, H.pick [] (by decide)⟩
end Go.Proofs.YtafgmocdnjdmoaaDoor.L
namespace Go.Proofs.YtafgmocdnjdmoaaDoor.L
open Go.RowKit Go.OB Go.Lf
/- slices.Contains[[]bool,bool] -/
set_option maxHeartbeats 4000000 in
theorem F_slices_Contains___bool_bool__w (p0 : List Bool) (p1 : Bool) (v1 : Value) (r : Bool) (hF : F_slices_Contains___bool_bool_ p0 p1 = some r) (O S : List Nat) (w : World) (H : Hd O w w S [.fz (.sl Rp.bool v1 p0)]) :
    Calls Tryd.prog 50 ([v1, .bool p1] : List Value).toArray w fun e w' => e = .returned (.bool r) ∧ Hd O w w' S [] := by
  unfold F_slices_Contains___bool_bool_ at hF
  refine calls_of_WP 9 Tryd.func50 rfl rfl rfl ?_
  refine WP_seq_k fun K3 hK3 => ?_
  refine WP_region ?_
  refine RL_do rfl rfl (Do_assign (v := .bool false) rfl) ?_
  refine (RL_nil (thenQ_n (hK3 _ _ ?_)))
  refine WP_seq_k fun K4 hK4 => ?_
  refine WP_region ?_
  refine RL_do rfl rfl (Do_move (v := v1) rfl) ?_
  refine RL_do rfl rfl (Do_move (v := .bool p1) rfl) ?_
  have H5 := H
  obtain ⟨x6, e7, hF⟩ := bindO_some hF
  refine RL_call rfl rfl (DoC_func en99 rfl) (F_slices_Index___bool_bool__w p0 p1 v1 _ e7 _ _ _ (H.enter [] [0] (by decide) rfl)) ?_
  rintro _ w8 ⟨rfl, G9⟩
  have H := H5.step (G9.only : Only [] _ _)
  refine ⟨_, rfl, ?_⟩
  obtain ⟨x10, e11, hF⟩ := letO_some hF
  refine RL_do rfl rfl (Do_as (Do_geq (a := x6) (b := 0) rfl rfl) (congrArg Value.bool e11)) ?_
  refine RL_do rfl rfl (Do_assign (v := .bool x10) rfl) ?_
  refine (RL_nil (thenQ_n (hK4 _ _ ?_)))
  have hR := Option.some.inj hF
  subst hR
  refine (WP_ret (post1 (v1 := .bool x10) rfl rfl ?_))
  exact ⟨rfl, H.pick [] (by decide)⟩
end Go.Proofs.YtafgmocdnjdmoaaDoor.L
namespace Go.Proofs.YtafgmocdnjdmoaaDoor.L
open Go.RowKit Go.OB Go.Lf
/- orangebox/orangeboxlaw1.FrameNewMatchesSpec -/
set_option maxHeartbeats 4000000 in
theorem F_law1_FrameNewMatchesSpec_w (p0 : Int) (p1 : List Int) (v1 : Value) (r : Bool) (hF : F_law1_FrameNewMatchesSpec p0 p1 = some r) (O S : List Nat) (w : World) (H : Hd O w w S [.fz (.sl (Rp.int .i64) v1 p1), .fz (.at 0 0 ((Fl.arr 4 (Fl.int .u16)).f G_frame_syncs))]) :
    Calls Tryd.prog 12 ([.int .i64 p0, v1] : List Value).toArray w fun e w' => e = .returned (.bool r) ∧ Hd O w w' S [] := by
  unfold F_law1_FrameNewMatchesSpec at hF
  refine calls_of_WP 86 Tryd.func12 rfl rfl rfl ?_
  refine WP_seq_k fun K4 hK4 => ?_
  refine WP_region ?_
  refine RL_do rfl rfl (Do_assign (v := .bool false) rfl) ?_
  refine (RL_nil (thenQ_n (hK4 _ _ ?_)))
  refine WP_seq_k fun K5 hK5 => ?_
  refine WP_region ?_
  refine RL_do rfl rfl (Do_move (v := .int .i64 p0) rfl) ?_
  refine RL_do rfl rfl (Do_move (v := v1) rfl) ?_
  have H6 := H
  obtain ⟨⟨x7, x8⟩, e9, hF⟩ := bindO_some hF
  refine RL_call rfl rfl (DoC_func en32 rfl) (X_New_w p0 p1 v1 _ e9 _ _ _ (H.enter [] [0, 1] (by decide) rfl)) ?_
  rintro _ w10 ⟨rfl, G11⟩
  have H := H6.step (G11.only : Only [] _ _)
  refine ⟨_, rfl, ?_⟩
  refine RL_do rfl rfl (Do_move (v := .tuple #[.agg ((Fl.arr 64 (Fl.int .u16)).f x7).toArray, .int .i64 x8]) rfl) ?_
  refine RL_do rfl rfl (Do_extract (v := .agg ((Fl.arr 64 (Fl.int .u16)).f x7).toArray) rfl rfl) ?_
  refine RL_do rfl rfl (Do_extract (v := .int .i64 x8) rfl rfl) ?_
  refine RL_ex rfl rfl (Lx_alloc zero25 H) ?_
  rintro _ w14 ⟨b12, rfl, H⟩
  refine RL_exU rfl (Lx_storeW (e := (Fl.arr 64 (Fl.int .u16))) (a := (Arr.rep 64 0 : Arr 64 Int)) (a' := x7) H 2 rfl sz25 rfl rfl) ?_
  rintro w15 H
  refine RL_do rfl rfl (Do_assign (v := .int .i64 x8) rfl) ?_
  refine (RL_nil (thenQ_n (hK5 _ _ ?_)))
  refine WP_seq_k fun K16 hK16 => ?_
  refine WP_region ?_
  refine RL_do rfl rfl (Do_move (v := .int .i64 p0) rfl) ?_
  refine RL_do rfl rfl (Do_move (v := v1) rfl) ?_
  have H17 := H
  obtain ⟨⟨x18, x19⟩, e20, hF⟩ := bindO_some hF
  refine RL_call rfl rfl (DoC_func en45 rfl) (X_RNew_w p0 p1 v1 _ e20 _ _ _ (H.enter [] [0] (by decide) rfl)) ?_
  rintro _ w21 ⟨rfl, G22⟩
  have H := H17.step (G22.only : Only [] _ _)
  refine ⟨_, rfl, ?_⟩
  refine RL_do rfl rfl (Do_move (v := .tuple #[.agg ((Fl.arr 64 (Fl.int .u16)).f x18).toArray, .int .i64 x19]) rfl) ?_
  refine RL_do rfl rfl (Do_extract (v := .agg ((Fl.arr 64 (Fl.int .u16)).f x18).toArray) rfl rfl) ?_
  refine RL_do rfl rfl (Do_extract (v := .int .i64 x19) rfl rfl) ?_
  refine RL_ex rfl rfl (Lx_alloc zero25 H) ?_
  rintro _ w25 ⟨b23, rfl, H⟩
  refine RL_exU rfl (Lx_storeW (e := (Fl.arr 64 (Fl.int .u16))) (a := (Arr.rep 64 0 : Arr 64 Int)) (a' := x18) H 3 rfl sz25 rfl rfl) ?_
  rintro w26 H
  refine RL_do rfl rfl (Do_assign (v := .int .i64 x19) rfl) ?_
  refine (RL_nil (thenQ_n (hK16 _ _ ?_)))
  refine WP_seq_k fun K37 hK37 => ?_
  obtain ⟨g43, hF, hK45⟩ := bindO_some hF
  refine WP_seqS [26, 27, 28, 29, 30, 31, 32, 33] (fun (g : Unit) => [(33, .bool g43)]) (fun g wl => Hd O w wl S [.fz (.sl (Rp.int .i64) v1 p1), .fz (.at 0 0 ((Fl.arr 4 (Fl.int .u16)).f G_frame_syncs)), .blk b12 ((Fl.arr 64 (Fl.int .u16)).f x7) 25]) ?_ ?_
  · skip
    refine WP_region ?_
    refine RL_do rfl rfl (Do_loadF (e := (Fl.arr 64 (Fl.int .u16))) (a := x7) agg25 rfl sz25 (Blk.cells (H.item (i := 2) rfl))) ?_
    refine RL_do rfl rfl (Do_loadF (e := (Fl.arr 64 (Fl.int .u16))) (a := x18) agg25 rfl sz25 (Blk.cells (H.item (i := 3) rfl))) ?_
    obtain ⟨x46, e47, hF⟩ := letO_some hF
    refine RL_do rfl rfl (Do_as (Do_neqF (e := (Fl.arr 64 (Fl.int .u16))) (a := x7) (b := x18) (by kernel_rfl) eqf25 (by decide) agg25 sz25 rfl rfl) (congrArg Value.bool e47)) ?_
    refine RL_splitb (b := x46) rfl rfl rfl (fun c48 => ?_) (fun c48 => ?_)
    · have hF := iteB_t c48 hF
      refine RL_off rfl rfl ?_
      refine RL_off rfl rfl ?_
      refine RL_off rfl rfl ?_
      refine RL_do rfl rfl (Do_pick_t (v := .bool true) rfl rfl) ?_
      have hR := Option.some.inj hF
      subst hR
      refine (RL_nil (thenQ_n (And.intro ?_ ?_)))
      · repeat' (first | with_reducible exact Fr_refl | refine Fr_upd rfl ?_ | refine Fr_over rfl rfl ?_)
      · exact ⟨(), (Sl_cons rfl Sl_nil), H.pick [0, 1, 2] (by decide)⟩
    · have hF := iteB_f c48 hF
      refine RL_do rfl rfl (Do_move (v := .int .i64 x8) rfl) ?_
      refine RL_do rfl rfl (Do_move (v := .int .i64 x19) rfl) ?_
      obtain ⟨x49, e50, hF⟩ := letO_some hF
      refine RL_do rfl rfl (Do_as (Do_neq (a := x8) (b := x19) rfl rfl) (congrArg Value.bool e50)) ?_
      refine RL_do rfl rfl (Do_pick_f (v := .bool x49) rfl rfl) ?_
      have hR := Option.some.inj hF
      subst hR
      refine (RL_nil (thenQ_n (And.intro ?_ ?_)))
      · repeat' (first | with_reducible exact Fr_refl | refine Fr_upd rfl ?_ | refine Fr_over rfl rfl ?_)
      · exact ⟨(), (Sl_cons rfl Sl_nil), H.pick [0, 1, 2] (by decide)⟩
  · rintro _ ρ w44 H
    have hF := hK45
    refine WP_ifb (b := g43) rfl (fun c51 => ?_) (fun c51 => ?_)
    · have hF := iteB_t c51 hF
      refine WP_seq_k fun K52 hK52 => ?_
      refine WP_region ?_
      refine RL_do rfl rfl (Do_assign (v := .bool false) rfl) ?_
      refine (RL_nil (thenQ_n (hK52 _ _ ?_)))
      have hR := Option.some.inj hF
      subst hR
      refine (WP_ret (thenQ_r (post1 (v1 := .bool false) rfl rfl ?_)))
      exact ⟨rfl, H.pick [] (by decide)⟩
    · have hF := iteB_f c51 hF
      refine (WP_skip (thenQ_n (hK37 _ _ ?_)))
      refine WP_seq_k fun K63 hK63 => ?_
      refine WP_seq_k fun K64 hK64 => ?_
      refine WP_region ?_
      refine RL_do rfl rfl (Do_move (v := .int .i64 x8) rfl) ?_
      obtain ⟨x65, e66, hF⟩ := letO_some hF
      refine RL_do rfl rfl (Do_as (Do_neq (a := x8) (b := 0) rfl rfl) (congrArg Value.bool e66)) ?_
      refine (RL_nil (thenQ_n (hK64 _ _ ?_)))
      refine WP_ifb (b := x65) rfl (fun c67 => ?_) (fun c67 => ?_)
      · have hF := iteB_t c67 hF
        refine WP_seq_k fun K68 hK68 => ?_
        refine WP_region ?_
        have H69 := H
        obtain ⟨x70, e71, hF⟩ := bindO_some hF
        refine RL_call rfl rfl (DoC_func en21 rfl) (X_framed_w _ e71 _ _ _ (H.enter [] [1] (by decide) rfl)) ?_
        rintro _ w72 ⟨rfl, G73⟩
        have H := H69.step (G73.only : Only [] _ _)
        refine ⟨_, rfl, ?_⟩
        refine RL_do rfl rfl (Do_assign (v := .bool x70) rfl) ?_
        refine (RL_nil (thenQ_n (hK68 _ _ ?_)))
        have hR := Option.some.inj hF
        subst hR
        refine (WP_ret (thenQ_r (post1 (v1 := .bool x70) rfl rfl ?_)))
        exact ⟨rfl, H.pick [] (by decide)⟩
      · have hF := iteB_f c67 hF
        refine (WP_skip (thenQ_n (hK63 _ _ ?_)))
        refine WP_seq_k fun K74 hK74 => ?_
        refine WP_region ?_
        refine RL_do rfl rfl (Do_loadF (e := (Fl.arr 64 (Fl.int .u16))) (a := x7) agg25 rfl sz25 (Blk.cells (H.item (i := 2) rfl))) ?_
        have H75 := H
        obtain ⟨⟨x76, x77⟩, e78, hF⟩ := bindO_some hF
        refine RL_call rfl rfl (DoC_func en46 rfl) (F_frame_Number_w x7 _ e78 _ _ _ (H.enter [] [] (by decide) rfl)) ?_
        rintro _ w79 ⟨rfl, G80⟩
        have H := H75.step (G80.only : Only [] _ _)
        refine ⟨_, rfl, ?_⟩
        refine RL_do rfl rfl (Do_move (v := .tuple #[.int .i64 x76, .bool x77]) rfl) ?_
        refine RL_do rfl rfl (Do_extract (v := .int .i64 x76) rfl rfl) ?_
        refine RL_do rfl rfl (Do_extract (v := .bool x77) rfl rfl) ?_
        refine RL_do rfl rfl (Do_assign (v := .int .i64 x76) rfl) ?_
        refine RL_do rfl rfl (Do_assign (v := .bool x77) rfl) ?_
        refine (RL_nil (thenQ_n (hK74 _ _ ?_)))
        refine WP_seq_k fun K81 hK81 => ?_
        refine WP_region ?_
        refine RL_do rfl rfl (Do_loadF (e := (Fl.arr 64 (Fl.int .u16))) (a := x7) agg25 rfl sz25 (Blk.cells (H.item (i := 2) rfl))) ?_
        obtain ⟨⟨x82, x83⟩, e84, hF⟩ := bindO_some hF
        refine RL_call rfl rfl (DoC_func en47 rfl) (F_frame_Values_w x7 _ e84 _ _ _ (H.enter [] [] (by decide) rfl)) ?_
        rintro _ w89 ⟨v85, v87, rfl, G90⟩
        have H := H.back1 [] rfl G90
        refine ⟨_, rfl, ?_⟩
        refine RL_do rfl rfl (Do_move (v := .tuple #[v85, v87]) rfl) ?_
        refine RL_do rfl rfl (Do_extract (v := v85) rfl rfl) ?_
        refine RL_do rfl rfl (Do_extract (v := v87) rfl rfl) ?_
        refine RL_do rfl rfl (Do_assign (v := v85) rfl) ?_
        refine RL_do rfl rfl (Do_assign (v := v87) rfl) ?_
        refine (RL_nil (thenQ_n (hK81 _ _ ?_)))
        refine WP_seq_k fun K91 hK91 => ?_
        refine WP_region ?_
        refine RL_do rfl rfl (Do_loadF (e := (Fl.arr 64 (Fl.int .u16))) (a := x7) agg25 rfl sz25 (Blk.cells (H.item (i := 2) rfl))) ?_
        have H92 := H
        obtain ⟨⟨x93, x94⟩, e95, hF⟩ := bindO_some hF
        refine RL_call rfl rfl (DoC_func en48 rfl) (F_frame_Seal_w x7 _ e95 _ _ _ (H.enter [] [1] (by decide) rfl)) ?_
        rintro _ w96 ⟨rfl, G97⟩
        have H := H92.step (G97.only : Only [] _ _)
        refine ⟨_, rfl, ?_⟩
        refine RL_do rfl rfl (Do_move (v := .tuple #[.agg ((Fl.arr 64 (Fl.int .u16)).f x93).toArray, .int .i64 x94]) rfl) ?_
        refine RL_do rfl rfl (Do_extract (v := .agg ((Fl.arr 64 (Fl.int .u16)).f x93).toArray) rfl rfl) ?_
        refine RL_do rfl rfl (Do_extract (v := .int .i64 x94) rfl rfl) ?_
        refine RL_ex rfl rfl (Lx_alloc zero25 H) ?_
        rintro _ w100 ⟨b98, rfl, H⟩
        refine RL_exU rfl (Lx_storeW (e := (Fl.arr 64 (Fl.int .u16))) (a := (Arr.rep 64 0 : Arr 64 Int)) (a' := x93) H 5 rfl sz25 rfl rfl) ?_
        rintro w101 H
        refine RL_do rfl rfl (Do_assign (v := .int .i64 x94) rfl) ?_
        refine (RL_nil (thenQ_n (hK91 _ _ ?_)))
        obtain ⟨g145, hF, hK147⟩ := bindO_some hF
        refine WP_seqS [4, 52, 53, 54, 55, 56, 57, 58, 59, 60, 61, 62, 63, 64, 65, 66, 67, 68, 69, 70, 71, 72, 73, 74, 75, 76, 77, 78, 79, 80, 81, 82, 83, 84, 85] (fun (g : Unit) => [(4, .bool g145)]) (fun g wl => Hd O w wl S [.fz (.at 0 0 ((Fl.arr 4 (Fl.int .u16)).f G_frame_syncs))]) ?_ ?_
        · skip
          refine WP_region ?_
          refine RL_do rfl rfl (Do_move (v := .bool x77) rfl) ?_
          refine RL_splitb (b := x77) rfl rfl rfl (fun c148 => ?_) (fun c148 => ?_)
          · have hF := iteB_t c148 hF
            refine RL_do rfl rfl (Do_move (v := .int .i64 x76) rfl) ?_
            refine RL_do rfl rfl (Do_move (v := .int .i64 p0) rfl) ?_
            obtain ⟨x149, e150, hF⟩ := letO_some hF
            refine RL_do rfl rfl (Do_as (Do_eql (a := x76) (b := p0) rfl rfl) (congrArg Value.bool e150)) ?_
            refine RL_do rfl rfl (Do_pick_t (v := .bool x149) rfl rfl) ?_
            refine RL_splitb (b := x149) rfl rfl rfl (fun c151 => ?_) (fun c151 => ?_)
            · have hF := iteB_t c151 hF
              refine RL_do rfl rfl (Do_move (v := v85) rfl) ?_
              refine RL_do rfl rfl (Do_move (v := v1) rfl) ?_
              have H152 := H
              have H := H.freeze (i := 3) rfl
              obtain ⟨x153, e154, hF⟩ := bindO_some hF
              refine RL_call rfl rfl (DoC_func en49 rfl) (F_slices_Equal___int_int__w x82 p1 v85 v1 _ e154 _ _ _ (H.enter [] [3, 0] (by decide) rfl)) ?_
              rintro _ w155 ⟨rfl, G156⟩
              have H := H152.step (G156.only : Only [] _ _)
              refine ⟨_, rfl, ?_⟩
              refine RL_do rfl rfl (Do_pick_t (v := .bool x153) rfl rfl) ?_
              refine RL_splitb (b := x153) rfl rfl rfl (fun c157 => ?_) (fun c157 => ?_)
              · have hF := iteB_t c157 hF
                refine RL_do rfl rfl (Do_move (v := v87) rfl) ?_
                have H158 := H
                have H := H.freeze (i := 4) rfl
                obtain ⟨x159, e160, hF⟩ := bindO_some hF
                refine RL_call rfl rfl (DoC_func en50 rfl) (F_slices_Contains___bool_bool__w x83 false v87 _ e160 _ _ _ (H.enter [] [4] (by decide) rfl)) ?_
                rintro _ w161 ⟨rfl, G162⟩
                have H := H158.step (G162.only : Only [] _ _)
                refine ⟨_, rfl, ?_⟩
                obtain ⟨x163, e164, hF⟩ := letO_some hF
                refine RL_do rfl rfl (Do_as (Do_not (p := x159) rfl) (congrArg Value.bool e164)) ?_
                refine RL_do rfl rfl (Do_pick_t (v := .bool x163) rfl rfl) ?_
                refine RL_splitb (b := x163) rfl rfl rfl (fun c165 => ?_) (fun c165 => ?_)
                · have hF := iteB_t c165 hF
                  refine RL_do rfl rfl (Do_loadF (e := (Fl.arr 64 (Fl.int .u16))) (a := x7) agg25 rfl sz25 (Blk.cells (H.item (i := 2) rfl))) ?_
                  obtain ⟨x166, e167, hF⟩ := bindO_some hF
                  refine RL_call rfl rfl (DoC_func en34 rfl) (F_frame_Flaws_w x7 _ e167 _ _ _ (H.enter [] [1] (by decide) rfl)) ?_
                  rintro _ w170 ⟨v168, rfl, G171⟩
                  have H := H.back1 [1] rfl G171
                  refine ⟨_, rfl, ?_⟩
                  obtain ⟨x172, e173, hF⟩ := letO_some hF
                  obtain ⟨a174, c175, q176⟩ := Sr.len (Sr.of_own (H.item (i := 6) rfl))
                  refine RL_do rfl rfl (Do_as (Do_len u50 q176) (congrArg (Value.int .i64) e173)) ?_
                  obtain ⟨x177, e178, hF⟩ := letO_some hF
                  refine RL_do rfl rfl (Do_as (Do_eql (a := x172) (b := 0) rfl rfl) (congrArg Value.bool e178)) ?_
                  refine RL_do rfl rfl (Do_pick_t (v := .bool x177) rfl rfl) ?_
                  refine RL_splitb (b := x177) rfl rfl rfl (fun c179 => ?_) (fun c179 => ?_)
                  · have hF := iteB_t c179 hF
                    refine RL_do rfl rfl (Do_move (v := .int .i64 x94) rfl) ?_
                    obtain ⟨x180, e181, hF⟩ := letO_some hF
                    refine RL_do rfl rfl (Do_as (Do_eql (a := x94) (b := 0) rfl rfl) (congrArg Value.bool e181)) ?_
                    refine RL_do rfl rfl (Do_pick_t (v := .bool x180) rfl rfl) ?_
                    refine RL_splitb (b := x180) rfl rfl rfl (fun c182 => ?_) (fun c182 => ?_)
                    · have hF := iteB_t c182 hF
                      refine RL_do rfl rfl (Do_loadF (e := (Fl.arr 64 (Fl.int .u16))) (a := x93) agg25 rfl sz25 (Blk.cells (H.item (i := 5) rfl))) ?_
                      refine RL_do rfl rfl (Do_loadF (e := (Fl.arr 64 (Fl.int .u16))) (a := x7) agg25 rfl sz25 (Blk.cells (H.item (i := 2) rfl))) ?_
                      obtain ⟨x183, e184, hF⟩ := letO_some hF
                      refine RL_do rfl rfl (Do_as (Do_eqlF (e := (Fl.arr 64 (Fl.int .u16))) (a := x93) (b := x7) (by kernel_rfl) eqf25 (by decide) agg25 sz25 rfl rfl) (congrArg Value.bool e184)) ?_
                      refine RL_do rfl rfl (Do_pick_t (v := .bool x183) rfl rfl) ?_
                      refine RL_splitb (b := x183) rfl rfl rfl (fun c185 => ?_) (fun c185 => ?_)
                      · have hF := iteB_t c185 hF
                        have H186 := H
                        obtain ⟨x187, e188, hF⟩ := bindO_some hF
                        refine RL_call rfl rfl (DoC_func en21 rfl) (X_framed_w _ e188 _ _ _ (H.enter [] [1] (by decide) rfl)) ?_
                        rintro _ w189 ⟨rfl, G190⟩
                        have H := H186.step (G190.only : Only [] _ _)
                        refine ⟨_, rfl, ?_⟩
                        refine RL_do rfl rfl (Do_pick_t (v := .bool x187) rfl rfl) ?_
                        refine RL_do rfl rfl (Do_assign (v := .bool x187) rfl) ?_
                        have hR := Option.some.inj hF
                        subst hR
                        refine (RL_nil (thenQ_n (And.intro ?_ ?_)))
                        · repeat' (first | with_reducible exact Fr_refl | refine Fr_upd rfl ?_ | refine Fr_over rfl rfl ?_)
                        · exact ⟨(), (Sl_cons rfl Sl_nil), H.pick [1] (by decide)⟩
                      · have hF := iteB_f c185 hF
                        refine RL_off rfl rfl ?_
                        refine RL_do rfl rfl (Do_pick_f (v := .bool false) rfl rfl) ?_
                        refine RL_do rfl rfl (Do_assign (v := .bool false) rfl) ?_
                        have hR := Option.some.inj hF
                        subst hR
                        refine (RL_nil (thenQ_n (And.intro ?_ ?_)))
                        · repeat' (first | with_reducible exact Fr_refl | refine Fr_upd rfl ?_ | refine Fr_over rfl rfl ?_)
                        · exact ⟨(), (Sl_cons rfl Sl_nil), H.pick [1] (by decide)⟩
                    · have hF := iteB_f c182 hF
                      refine RL_off rfl rfl ?_
                      refine RL_off rfl rfl ?_
                      refine RL_off rfl rfl ?_
                      refine RL_do rfl rfl (Do_pick_f (v := .bool false) rfl rfl) ?_
                      refine RL_do rfl rfl (Do_move (v := .bool false) rfl) ?_
                      refine RL_off rfl rfl ?_
                      refine RL_do rfl rfl (Do_pick_f (v := .bool false) rfl rfl) ?_
                      refine RL_do rfl rfl (Do_assign (v := .bool false) rfl) ?_
                      have hR := Option.some.inj hF
                      subst hR
                      refine (RL_nil (thenQ_n (And.intro ?_ ?_)))
                      · repeat' (first | with_reducible exact Fr_refl | refine Fr_upd rfl ?_ | refine Fr_over rfl rfl ?_)
                      · exact ⟨(), (Sl_cons rfl Sl_nil), H.pick [1] (by decide)⟩
                  · have hF := iteB_f c179 hF
                    refine RL_off rfl rfl ?_
                    refine RL_off rfl rfl ?_
                    refine RL_do rfl rfl (Do_pick_f (v := .bool false) rfl rfl) ?_
                    refine RL_do rfl rfl (Do_move (v := .bool false) rfl) ?_
                    refine RL_off rfl rfl ?_
                    refine RL_off rfl rfl ?_
                    refine RL_off rfl rfl ?_
                    refine RL_do rfl rfl (Do_pick_f (v := .bool false) rfl rfl) ?_
                    refine RL_do rfl rfl (Do_move (v := .bool false) rfl) ?_
                    refine RL_off rfl rfl ?_
                    refine RL_do rfl rfl (Do_pick_f (v := .bool false) rfl rfl) ?_
                    refine RL_do rfl rfl (Do_assign (v := .bool false) rfl) ?_
                    have hR := Option.some.inj hF
                    subst hR
                    refine (RL_nil (thenQ_n (And.intro ?_ ?_)))
                    · repeat' (first | with_reducible exact Fr_refl | refine Fr_upd rfl ?_ | refine Fr_over rfl rfl ?_)
                    · exact ⟨(), (Sl_cons rfl Sl_nil), H.pick [1] (by decide)⟩
                · have hF := iteB_f c165 hF
                  refine RL_off rfl rfl ?_
                  refine RL_off rfl rfl ?_
                  refine RL_off rfl rfl ?_
                  refine RL_off rfl rfl ?_
                  refine RL_do rfl rfl (Do_pick_f (v := .bool false) rfl rfl) ?_
                  refine RL_do rfl rfl (Do_move (v := .bool false) rfl) ?_
                  refine RL_off rfl rfl ?_
                  refine RL_off rfl rfl ?_
                  refine RL_do rfl rfl (Do_pick_f (v := .bool false) rfl rfl) ?_
                  refine RL_do rfl rfl (Do_move (v := .bool false) rfl) ?_
                  refine RL_off rfl rfl ?_
                  refine RL_off rfl rfl ?_
                  refine RL_off rfl rfl ?_
                  refine RL_do rfl rfl (Do_pick_f (v := .bool false) rfl rfl) ?_
                  refine RL_do rfl rfl (Do_move (v := .bool false) rfl) ?_
                  refine RL_off rfl rfl ?_
                  refine RL_do rfl rfl (Do_pick_f (v := .bool false) rfl rfl) ?_
                  refine RL_do rfl rfl (Do_assign (v := .bool false) rfl) ?_
                  have hR := Option.some.inj hF
                  subst hR
                  refine (RL_nil (thenQ_n (And.intro ?_ ?_)))
                  · repeat' (first | with_reducible exact Fr_refl | refine Fr_upd rfl ?_ | refine Fr_over rfl rfl ?_)
                  · exact ⟨(), (Sl_cons rfl Sl_nil), H.pick [1] (by decide)⟩
              · have hF := iteB_f c157 hF
                refine RL_off rfl rfl ?_
                refine RL_off rfl rfl ?_
                refine RL_off rfl rfl ?_
                refine RL_do rfl rfl (Do_pick_f (v := .bool false) rfl rfl) ?_
                refine RL_do rfl rfl (Do_move (v := .bool false) rfl) ?_
                refine RL_off rfl rfl ?_
                refine RL_off rfl rfl ?_
                refine RL_off rfl rfl ?_
                refine RL_off rfl rfl ?_
                refine RL_do rfl rfl (Do_pick_f (v := .bool false) rfl rfl) ?_
                refine RL_do rfl rfl (Do_move (v := .bool false) rfl) ?_
                refine RL_off rfl rfl ?_
                refine RL_off rfl rfl ?_
                refine RL_do rfl rfl (Do_pick_f (v := .bool false) rfl rfl) ?_
                refine RL_do rfl rfl (Do_move (v := .bool false) rfl) ?_
                refine RL_off rfl rfl ?_
                refine RL_off rfl rfl ?_
                refine RL_off rfl rfl ?_
                refine RL_do rfl rfl (Do_pick_f (v := .bool false) rfl rfl) ?_
                refine RL_do rfl rfl (Do_move (v := .bool false) rfl) ?_
                refine RL_off rfl rfl ?_
                refine RL_do rfl rfl (Do_pick_f (v := .bool false) rfl rfl) ?_
                refine RL_do rfl rfl (Do_assign (v := .bool false) rfl) ?_
                have hR := Option.some.inj hF
                subst hR
                refine (RL_nil (thenQ_n (And.intro ?_ ?_)))
                · repeat' (first | with_reducible exact Fr_refl | refine Fr_upd rfl ?_ | refine Fr_over rfl rfl ?_)
                · exact ⟨(), (Sl_cons rfl Sl_nil), H.pick [1] (by decide)⟩
            · have hF := iteB_f c151 hF
              refine RL_off rfl rfl ?_
              refine RL_off rfl rfl ?_
              refine RL_off rfl rfl ?_
              refine RL_do rfl rfl (Do_pick_f (v := .bool false) rfl rfl) ?_
              refine RL_do rfl rfl (Do_move (v := .bool false) rfl) ?_
              refine RL_off rfl rfl ?_
              refine RL_off rfl rfl ?_
              refine RL_off rfl rfl ?_
              refine RL_do rfl rfl (Do_pick_f (v := .bool false) rfl rfl) ?_
              refine RL_do rfl rfl (Do_move (v := .bool false) rfl) ?_
              refine RL_off rfl rfl ?_
              refine RL_off rfl rfl ?_
              refine RL_off rfl rfl ?_
              refine RL_off rfl rfl ?_
              refine RL_do rfl rfl (Do_pick_f (v := .bool false) rfl rfl) ?_
              refine RL_do rfl rfl (Do_move (v := .bool false) rfl) ?_
              refine RL_off rfl rfl ?_
              refine RL_off rfl rfl ?_
              refine RL_do rfl rfl (Do_pick_f (v := .bool false) rfl rfl) ?_
              refine RL_do rfl rfl (Do_move (v := .bool false) rfl) ?_
              refine RL_off rfl rfl ?_
              refine RL_off rfl rfl ?_
              refine RL_off rfl rfl ?_
              refine RL_do rfl rfl (Do_pick_f (v := .bool false) rfl rfl) ?_
              refine RL_do rfl rfl (Do_move (v := .bool false) rfl) ?_
              refine RL_off rfl rfl ?_
              refine RL_do rfl rfl (Do_pick_f (v := .bool false) rfl rfl) ?_
              refine RL_do rfl rfl (Do_assign (v := .bool false) rfl) ?_
              have hR := Option.some.inj hF
              subst hR
              refine (RL_nil (thenQ_n (And.intro ?_ ?_)))
              · repeat' (first | with_reducible exact Fr_refl | refine Fr_upd rfl ?_ | refine Fr_over rfl rfl ?_)
              · exact ⟨(), (Sl_cons rfl Sl_nil), H.pick [1] (by decide)⟩
          · have hF := iteB_f c148 hF
            refine RL_off rfl rfl ?_
            refine RL_off rfl rfl ?_
            refine RL_off rfl rfl ?_
            refine RL_do rfl rfl (Do_pick_f (v := .bool false) rfl rfl) ?_
            refine RL_do rfl rfl (Do_move (v := .bool false) rfl) ?_
            refine RL_off rfl rfl ?_
            refine RL_off rfl rfl ?_
            refine RL_off rfl rfl ?_
            refine RL_do rfl rfl (Do_pick_f (v := .bool false) rfl rfl) ?_
            refine RL_do rfl rfl (Do_move (v := .bool false) rfl) ?_
            refine RL_off rfl rfl ?_
            refine RL_off rfl rfl ?_
            refine RL_off rfl rfl ?_
            refine RL_do rfl rfl (Do_pick_f (v := .bool false) rfl rfl) ?_
            refine RL_do rfl rfl (Do_move (v := .bool false) rfl) ?_
            refine RL_off rfl rfl ?_
            refine RL_off rfl rfl ?_
            refine RL_off rfl rfl ?_
            refine RL_off rfl rfl ?_
            refine RL_do rfl rfl (Do_pick_f (v := .bool false) rfl rfl) ?_
            refine RL_do rfl rfl (Do_move (v := .bool false) rfl) ?_
            refine RL_off rfl rfl ?_
            refine RL_off rfl rfl ?_
            refine RL_do rfl rfl (Do_pick_f (v := .bool false) rfl rfl) ?_
            refine RL_do rfl rfl (Do_move (v := .bool false) rfl) ?_
            refine RL_off rfl rfl ?_
            refine RL_off rfl rfl ?_
            refine RL_off rfl rfl ?_
            refine RL_do rfl rfl (Do_pick_f (v := .bool false) rfl rfl) ?_
            refine RL_do rfl rfl (Do_move (v := .bool false) rfl) ?_
            refine RL_off rfl rfl ?_
            refine RL_do rfl rfl (Do_pick_f (v := .bool false) rfl rfl) ?_
            refine RL_do rfl rfl (Do_assign (v := .bool false) rfl) ?_
            have hR := Option.some.inj hF
            subst hR
            refine (RL_nil (thenQ_n (And.intro ?_ ?_)))
            · repeat' (first | with_reducible exact Fr_refl | refine Fr_upd rfl ?_ | refine Fr_over rfl rfl ?_)
            · exact ⟨(), (Sl_cons rfl Sl_nil), H.pick [1] (by decide)⟩
        · rintro _ ρ w146 H
          have hF := hK147
          have hR := Option.some.inj hF
          subst hR
          refine (WP_ret (post1 (v1 := .bool g145) rfl rfl ?_))
          exact ⟨rfl, H.pick [] (by decide)⟩
end Go.Proofs.YtafgmocdnjdmoaaDoor.L
