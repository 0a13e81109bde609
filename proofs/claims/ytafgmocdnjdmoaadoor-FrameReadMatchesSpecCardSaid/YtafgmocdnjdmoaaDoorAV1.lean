/- Walks: what each function computes, for every argument; no condition but those that stand in the statements. -/
import Derived.Test.YtafgmocdnjdmoaaDoorAV0
namespace Go.Proofs.YtafgmocdnjdmoaaDoor.L
open Go.RowKit Go.OB Go.Lf
/- orangebox/frame.word -/
set_option maxHeartbeats 4000000 in
theorem F_frame_word_w (p0 : Int) (r : Int) (hF : F_frame_word p0 = some r) (O S : List Nat) (w : World) (H : Hd O w w S []) :
    Calls Tryd.prog 83 ([.int .i64 p0] : List Value).toArray w fun e w' => e = .returned (.int .u16 r) ∧ Hd O w w' S [] := by
  unfold F_frame_word at hF
  refine calls_of_WP 12 Tryd.func83 rfl rfl rfl ?_
  refine WP_seq_k fun K1 hK1 => ?_
  refine WP_region ?_
  refine RL_do rfl rfl (Do_assign (v := .int .u16 0) rfl) ?_
  refine (RL_nil (thenQ_n (hK1 _ _ ?_)))
  refine WP_seq_k fun K2 hK2 => ?_
  refine WP_region ?_
  refine RL_do rfl rfl (Do_move (v := .int .i64 p0) rfl) ?_
  obtain ⟨x3, e4, hF⟩ := letO_some hF
  refine RL_do rfl rfl (Do_conv u3 u23 rfl e4) ?_
  refine RL_do rfl rfl (Do_assign (v := .int .u16 x3) rfl) ?_
  refine (RL_nil (thenQ_n (hK2 _ _ ?_)))
  obtain ⟨g16, hF, hK18⟩ := bindO_some hF
  refine WP_seqS [3, 6, 7, 8, 9, 10] (fun (g : Unit) => [(3, .int .u16 g16)]) (fun g wl => Hd O w wl S []) ?_ ?_
  · skip
    refine WP_seq_k fun K19 hK19 => ?_
    refine WP_region ?_
    refine RL_do rfl rfl (Do_move (v := .int .u16 x3) rfl) ?_
    have H20 := H
    obtain ⟨x21, e22, hF⟩ := bindO_some hF
    refine RL_call rfl rfl (DoC_func en86 rfl) (F_frame_odd_w x3 _ e22 _ _ _ (H.enter [] [] (by decide) rfl)) ?_
    rintro _ w23 ⟨rfl, G24⟩
    have H := H20.step (G24.only : Only [] _ _)
    refine ⟨_, rfl, ?_⟩
    obtain ⟨x25, e26, hF⟩ := letO_some hF
    refine RL_do rfl rfl (Do_as (Do_not (p := x21) rfl) (congrArg Value.bool e26)) ?_
    refine (RL_nil (thenQ_n (hK19 _ _ ?_)))
    refine WP_ifb (b := x25) rfl (fun c27 => ?_) (fun c27 => ?_)
    · have hF := iteB_t c27 hF
      refine WP_region ?_
      refine RL_do rfl rfl (Do_move (v := .int .u16 x3) rfl) ?_
      obtain ⟨x28, e29, hF⟩ := letO_some hF
      refine RL_do rfl rfl (Do_or (a := x3) (b := 2048) rfl rfl e29) ?_
      refine RL_do rfl rfl (Do_assign (v := .int .u16 x28) rfl) ?_
      have hR := Option.some.inj hF
      subst hR
      refine (RL_nil (thenQ_n (And.intro ?_ ?_)))
      · repeat' (first | with_reducible exact Fr_refl | refine Fr_upd rfl ?_ | refine Fr_over rfl rfl ?_)
      · exact ⟨(), (Sl_cons rfl Sl_nil), H.pick [] (by decide)⟩
    · have hF := iteB_f c27 hF
      have hR := Option.some.inj hF
      subst hR
      refine (WP_skip (thenQ_n (And.intro ?_ ?_)))
      · repeat' (first | with_reducible exact Fr_refl | refine Fr_upd rfl ?_ | refine Fr_over rfl rfl ?_)
      · exact ⟨(), (Sl_cons rfl Sl_nil), H.pick [] (by decide)⟩
  · rintro _ ρ w17 H
    have hF := hK18
    refine WP_seq_k fun K30 hK30 => ?_
    refine WP_region ?_
    refine RL_do rfl rfl (Do_move (v := .int .u16 g16) rfl) ?_
    refine RL_do rfl rfl (Do_assign (v := .int .u16 g16) rfl) ?_
    refine (RL_nil (thenQ_n (hK30 _ _ ?_)))
    have hR := Option.some.inj hF
    subst hR
    refine (WP_ret (post1 (v1 := .int .u16 g16) rfl rfl ?_))
    exact ⟨rfl, H.pick [] (by decide)⟩
end Go.Proofs.YtafgmocdnjdmoaaDoor.L
namespace Go.Proofs.YtafgmocdnjdmoaaDoor.L
open Go.RowKit Go.OB Go.Lf
/- orangebox/frame.finish -/
set_option maxHeartbeats 4000000 in
theorem F_frame_finish_w (p0 : Arr 64 Int) (b1 : Nat) (r : (Arr 64 Int)) (hF : F_frame_finish p0 = some r) (O S : List Nat) (w : World) (H : Hd O w w S [.blk b1 ((Fl.arr 64 (Fl.int .u16)).f p0) 25, .fz (.at 0 0 ((Fl.arr 4 (Fl.int .u16)).f G_frame_syncs))]) :
    Calls Tryd.prog 89 ([.pointer (some ⟨b1, 0, none⟩)] : List Value).toArray w fun e w' => e = .returned (.tuple #[]) ∧ Hd O w w' S [.blk b1 ((Fl.arr 64 (Fl.int .u16)).f r) 25] := by
  unfold F_frame_finish at hF
  refine calls_of_WP 31 Tryd.func89 rfl rfl rfl ?_
  refine WP_seq_k fun K4 hK4 => ?_
  have H5 := H
  have H := H.rebase
  have H6 := H
  refine WP_mix0 H [0, 1, 2, 3, 4, 5, 6, 7, 8] [.pure, .pure, .read, .pure, .pure, .read, .pure, .pure, .eff] mixed (by kernel_rfl) (by kernel_rfl) (by kernel_rfl) rfl ?_
  refine Mx.XL_pure rfl rfl rfl (fun w' hw' => Do_move (v := .pointer (some ⟨b1, 0, none⟩)) rfl) ?_
  refine Mx.XL_pure rfl rfl rfl (fun w' hw' => Do_move (v := .pointer (some ⟨b1, 0, none⟩)) rfl) ?_
  have H7 := H
  have H := H.freezeB (i := 0) rfl
  have H := H.fz (.pt (Rp.fl (Fl.arr 64 (Fl.int .u16))) (some ⟨b1, 0, none⟩) (some p0)) ⟨_, _, _, rfl, (H.item (i := 0) rfl).1, (H.item (i := 0) rfl).2.1, rfl, (H.item (i := 0) rfl).2.2⟩
  obtain ⟨x9, e10, hF⟩ := bindO_some hF
  refine Mx.XL_call oS rfl rfl rfl (v := .int .i64 x9) (fun w' hw' => DoC_func en91 rfl) (fun w' hw' => call_read (F_frame_numberOf_w (some p0) (some ⟨b1, 0, none⟩) _ e10 _ _ _ ((H.sees hw').enter [] [2] (by decide) rfl))) ?_
  have H := H7
  obtain ⟨x11, e12, hF⟩ := bindO_some hF
  refine Mx.XL_pure rfl rfl rfl (fun w' hw' => Do_rem' (j := x9) (q := 4) rfl rfl e12) ?_
  obtain ⟨x13, e14, hF⟩ := bindO_some hF
  refine Mx.XL_pure rfl rfl rfl (fun w' hw' => Do_idxA (X := G_frame_syncs) u111 sz23 rfl rfl e14) ?_
  refine Mx.XL_read oS rfl rfl rfl (fun w' hw' => Do_load1 (v := .int .u16 x13) one23 rfl (Cells.ix (e := (Fl.int .u16)) (x := G_frame_syncs) ((H.sees hw').item (i := 1) rfl).2.2 e14)) ?_
  refine Mx.XL_pure rfl rfl rfl (fun w' hw' => Do_nilCheck rfl) ?_
  obtain ⟨x15, e16, hF⟩ := bindO_some hF
  refine Mx.XL_pure rfl rfl rfl (fun w' hw' => Do_idxA (X := p0) u25 sz23 rfl rfl e16) ?_
  obtain ⟨x17, e18, hF⟩ := letO_some hF
  refine Mx.XL_exU oS rfl rfl (fun w' hw' => Lx_storeA (e := (Fl.int .u16)) (X := p0) (a := x13) (j := 0) (H.sees hw') 0 rfl sz23 rfl (v := .int .u16 x13) rfl rfl (Arr.at_lt e16).1 (Arr.at_lt e16).2 e18) ?_
  rintro w' w19 hw' H
  refine ⟨H.only, ?_⟩
  refine Mx.XL_nil fun w20 hS => ?_
  have H := H.sees hS
  have H := H5.rejoin H
  refine (thenQ_n (hK4 _ _ ?_))
  refine WP_seq_k fun K21 hK21 => ?_
  have H22 := H
  have H := H.rebase
  have H23 := H
  refine WP_mix0 H [0, 1, 2, 3, 4, 5, 6] [.pure, .pure, .read, .fcall, .pure, .pure, .eff] mixed (by kernel_rfl) (by kernel_rfl) (by kernel_rfl) rfl ?_
  refine Mx.XL_pure rfl rfl rfl (fun w' hw' => Do_move (v := .pointer (some ⟨b1, 0, none⟩)) rfl) ?_
  refine Mx.XL_pure rfl rfl rfl (fun w' hw' => Do_move (v := .pointer (some ⟨b1, 0, none⟩)) rfl) ?_
  have H24 := H
  have H := H.freezeB (i := 0) rfl
  have H := H.fz (.pt (Rp.fl (Fl.arr 64 (Fl.int .u16))) (some ⟨b1, 0, none⟩) (some x17)) ⟨_, _, _, rfl, (H.item (i := 0) rfl).1, (H.item (i := 0) rfl).2.1, rfl, (H.item (i := 0) rfl).2.2⟩
  obtain ⟨x26, e27, hF⟩ := bindO_some hF
  refine Mx.XL_call oS rfl rfl rfl (v := .int .i64 x26) (fun w' hw' => DoC_func en92 rfl) (fun w' hw' => call_read (F_frame_sumOf_w (some x17) (some ⟨b1, 0, none⟩) _ e27 _ _ _ ((H.sees hw').enter [] [2] (by decide) rfl))) ?_
  have H := H24
  have H28 := H
  obtain ⟨x29, e30, hF⟩ := bindO_some hF
  refine Mx.XL_fcall oS rfl rfl rfl (v := .int .u16 x29) (fun w' hw' => DoC_func en83 rfl) (fun w' hw' => call_read (F_frame_word_w x26 _ e30 _ _ _ (Hd.fresh0 w'))) ?_
  have H := H28
  refine Mx.XL_pure rfl rfl rfl (fun w' hw' => Do_nilCheck rfl) ?_
  obtain ⟨x31, e32, hF⟩ := bindO_some hF
  refine Mx.XL_pure rfl rfl rfl (fun w' hw' => Do_idxA (X := x17) u25 sz23 rfl rfl e32) ?_
  obtain ⟨x33, e34, hF⟩ := letO_some hF
  refine Mx.XL_exU oS rfl rfl (fun w' hw' => Lx_storeA (e := (Fl.int .u16)) (X := x17) (a := x29) (j := 61) (H.sees hw') 0 rfl sz23 rfl (v := .int .u16 x29) rfl rfl (Arr.at_lt e32).1 (Arr.at_lt e32).2 e34) ?_
  rintro w' w35 hw' H
  refine ⟨H.only, ?_⟩
  refine Mx.XL_nil fun w36 hS => ?_
  have H := H.sees hS
  have H := H22.rejoin H
  refine (thenQ_n (hK21 _ _ ?_))
  refine WP_seq_k fun K37 hK37 => ?_
  refine WP_region ?_
  refine RL_do rfl rfl (Do_move (v := .pointer (some ⟨b1, 0, none⟩)) rfl) ?_
  have H38 := H
  have H := H.freezeB (i := 0) rfl
  have H := H.fz (.pt (Rp.fl (Fl.arr 64 (Fl.int .u16))) (some ⟨b1, 0, none⟩) (some x33)) ⟨_, _, _, rfl, (H.item (i := 0) rfl).1, (H.item (i := 0) rfl).2.1, rfl, (H.item (i := 0) rfl).2.2⟩
  obtain ⟨x40, e41, hF⟩ := bindO_some hF
  refine RL_call rfl rfl (DoC_func en93 rfl) (F_frame_checkOf_w (some x33) (some ⟨b1, 0, none⟩) _ e41 _ _ _ (H.enter [] [2] (by decide) rfl)) ?_
  rintro _ w42 ⟨rfl, G43⟩
  have H := H38.step (G43.only : Only [] _ _)
  refine ⟨_, rfl, ?_⟩
  refine RL_do rfl rfl (Do_assign (v := .int .i64 x40) rfl) ?_
  refine (RL_nil (thenQ_n (hK37 _ _ ?_)))
  have H44 := H
  have H := H.rebase
  have H45 := H
  refine WP_mix H [0, 1, 2, 3, 4, 5, 6, 7, 8, 9, 11, 10, 12, 13] [.pure, .pure, .pure, .pure, .fcall, .pure, .pure, .fcall, .pure, .pure, .eff, .pure, .pure, .eff] mixed (by kernel_rfl) (by kernel_rfl) (by kernel_rfl) (by decide) ?_
  refine Mx.XL_pure rfl rfl rfl (fun w' hw' => Do_move (v := .pointer (some ⟨b1, 0, none⟩)) rfl) ?_
  refine Mx.XL_pure rfl rfl rfl (fun w' hw' => Do_move (v := .pointer (some ⟨b1, 0, none⟩)) rfl) ?_
  refine Mx.XL_pure rfl rfl rfl (fun w' hw' => Do_move (v := .int .i64 x40) rfl) ?_
  obtain ⟨x46, e47, hF⟩ := bindO_some hF
  refine Mx.XL_pure rfl rfl rfl (fun w' hw' => Do_shr' (j := x40) (q := 11) rfl rfl e47) ?_
  have H48 := H
  obtain ⟨x49, e50, hF⟩ := bindO_some hF
  refine Mx.XL_fcall oS rfl rfl rfl (v := .int .u16 x49) (fun w' hw' => DoC_func en83 rfl) (fun w' hw' => call_read (F_frame_word_w x46 _ e50 _ _ _ (Hd.fresh0 w'))) ?_
  have H := H48
  refine Mx.XL_pure rfl rfl rfl (fun w' hw' => Do_move (v := .int .i64 x40) rfl) ?_
  obtain ⟨x51, e52, hF⟩ := letO_some hF
  refine Mx.XL_pure rfl rfl rfl (fun w' hw' => Do_and (a := x40) (b := 2047) rfl rfl e52) ?_
  have H53 := H
  obtain ⟨x54, e55, hF⟩ := bindO_some hF
  refine Mx.XL_fcall oS rfl rfl rfl (v := .int .u16 x54) (fun w' hw' => DoC_func en83 rfl) (fun w' hw' => call_read (F_frame_word_w x51 _ e55 _ _ _ (Hd.fresh0 w'))) ?_
  have H := H53
  refine Mx.XL_pure rfl rfl rfl (fun w' hw' => Do_nilCheck rfl) ?_
  obtain ⟨x56, e57, hF⟩ := bindO_some hF
  refine Mx.XL_pure rfl rfl rfl (fun w' hw' => Do_idxA (X := x33) u25 sz23 rfl rfl e57) ?_
  refine Mx.XL_pure rfl rfl rfl (fun w' hw' => Do_nilCheck rfl) ?_
  obtain ⟨x58, e59, hF⟩ := letO_some hF
  refine Mx.XL_exU oS rfl rfl (fun w' hw' => Lx_storeA (e := (Fl.int .u16)) (X := x33) (a := x49) (j := 62) (H.sees hw') 0 rfl sz23 rfl (v := .int .u16 x49) rfl rfl (Arr.at_lt e57).1 (Arr.at_lt e57).2 e59) ?_
  rintro w' w60 hw' H
  refine ⟨H.only, ?_⟩
  obtain ⟨x61, e62, hF⟩ := bindO_some hF
  refine Mx.XL_pure rfl rfl rfl (fun w' hw' => Do_idxA (X := x58) u25 sz23 rfl rfl e62) ?_
  obtain ⟨x63, e64, hF⟩ := letO_some hF
  refine Mx.XL_exU oS rfl rfl (fun w' hw' => Lx_storeA (e := (Fl.int .u16)) (X := x58) (a := x54) (j := 63) (H.sees hw') 0 rfl sz23 rfl (v := .int .u16 x54) rfl rfl (Arr.at_lt e62).1 (Arr.at_lt e62).2 e64) ?_
  rintro w' w65 hw' H
  refine ⟨H.only, ?_⟩
  refine Mx.XL_nil fun w66 hS => ?_
  have H := H.sees hS
  have H := H44.rejoin H
  have hR := Option.some.inj hF
  subst hR
  refine (post0n rfl ?_)
  exact ⟨rfl, H.pick [0] (by decide)⟩
end Go.Proofs.YtafgmocdnjdmoaaDoor.L
namespace Go.Proofs.YtafgmocdnjdmoaaDoor.L
open Go.RowKit Go.OB Go.Lf
/- orangebox/frame.Seal -/
set_option maxHeartbeats 4000000 in
theorem F_frame_Seal_w (p0 : Arr 64 Int) (r : (Arr 64 Int) × Int) (hF : F_frame_Seal p0 = some r) (O S : List Nat) (w : World) (H : Hd O w w S [.fz (.at 0 0 ((Fl.arr 4 (Fl.int .u16)).f G_frame_syncs))]) :
    Calls Tryd.prog 48 ([.agg ((Fl.arr 64 (Fl.int .u16)).f p0).toArray] : List Value).toArray w fun e w' => e = .returned (.tuple #[.agg ((Fl.arr 64 (Fl.int .u16)).f r.1).toArray, .int .i64 r.2]) ∧ Hd O w w' S [] := by
  unfold F_frame_Seal at hF
  refine calls_of_WP 22 Tryd.func48 rfl rfl rfl ?_
  refine WP_seq_k fun K2 hK2 => ?_
  refine WP_region ?_
  refine RL_ex rfl rfl (Lx_box (cs := (Fl.arr 64 (Fl.int .u16)).f p0) rfl H) ?_
  rintro _ w5 ⟨b3, rfl, H⟩
  refine RL_ex rfl rfl (Lx_alloc zero25 H) ?_
  rintro _ w8 ⟨b6, rfl, H⟩
  refine RL_do rfl rfl (Do_assign (v := .int .i64 0) rfl) ?_
  refine (RL_nil (thenQ_n (hK2 _ _ ?_)))
  refine WP_seq_k fun K19 hK19 => ?_
  refine WP_seq_k fun K20 hK20 => ?_
  refine WP_region ?_
  have H21 := H
  have H := H.freezeB (i := 1) rfl
  have H := H.fz (.pt (Rp.fl (Fl.arr 64 (Fl.int .u16))) (some ⟨b3, 0, none⟩) (some p0)) ⟨_, _, _, rfl, (H.item (i := 1) rfl).1, (H.item (i := 1) rfl).2.1, rfl, (H.item (i := 1) rfl).2.2⟩
  obtain ⟨x23, e24, hF⟩ := bindO_some hF
  refine RL_call rfl rfl (DoC_func en78 rfl) (F_frame_wide_w (some p0) (some ⟨b3, 0, none⟩) _ e24 _ _ _ (H.enter [] [3] (by decide) rfl)) ?_
  rintro _ w25 ⟨rfl, G26⟩
  have H := H21.step (G26.only : Only [] _ _)
  refine ⟨_, rfl, ?_⟩
  refine (RL_nil (thenQ_n (hK20 _ _ ?_)))
  refine WP_ifb (b := x23) rfl (fun c27 => ?_) (fun c27 => ?_)
  · have hF := iteB_t c27 hF
    refine WP_seq_k fun K28 hK28 => ?_
    refine WP_region ?_
    refine RL_do rfl rfl (Do_build (cs := (Fl.arr 64 (Fl.int .u16)).f (Arr.rep 64 0 : Arr 64 Int)) bz25) ?_
    refine RL_exU rfl (Lx_storeW (e := (Fl.arr 64 (Fl.int .u16))) (a := (Arr.rep 64 0 : Arr 64 Int)) (a' := (Arr.rep 64 0 : Arr 64 Int)) H 2 rfl sz25 rfl rfl) ?_
    rintro w29 H
    refine RL_do rfl rfl (Do_assign (v := .int .i64 9) rfl) ?_
    refine (RL_nil (thenQ_n (hK28 _ _ ?_)))
    have hR := Option.some.inj hF
    subst hR
    refine (WP_ret (thenQ_r (postc1 (v1 := .int .i64 9) rfl rfl (run_loadVar_agg agg25 sz25 (Fl.len _ _) (Blk.cells (H.item (i := 2) rfl))) rfl ?_)))
    exact ⟨rfl, H.pick [] (by decide)⟩
  · have hF := iteB_f c27 hF
    refine (WP_skip (thenQ_n (hK19 _ _ ?_)))
    obtain ⟨g145, hF, hK147⟩ := bindO_some hF
    refine WP_seqS [4, 7, 8, 9, 10, 11, 12, 13, 14, 15, 16, 17, 18, 19] (fun (g : Unit) => []) (fun g wl => Hd O w wl S [.fz (.at 0 0 ((Fl.arr 4 (Fl.int .u16)).f G_frame_syncs)), .blk b3 ((Fl.arr 64 (Fl.int .u16)).f g145) 25, .blk b6 ((Fl.arr 64 (Fl.int .u16)).f (Arr.rep 64 0 : Arr 64 Int)) 25]) ?_ ?_
    · skip
      refine WP_seq_k fun K148 hK148 => ?_
      refine WP_region ?_
      refine RL_do rfl rfl (Do_move (v := .int .i64 0) rfl) ?_
      refine (RL_nil (thenQ_n (hK148 _ _ ?_)))
      refine WP_block ?_
      unfold F_frame_Seal_L1 at hF
      obtain ⟨B259, n260, eB261, hF⟩ := loopO_some hF
      refine WP_loopS [4, 7, 8, 9, 10, 11, 12, 13, 14, 15, 16, 17, 18, 19] (fun (g : Nat × Int × (Arr 64 Int)) => [(7, .int .i64 g.2.1)]) (fun g wl => Hd O w wl S [.fz (.at 0 0 ((Fl.arr 4 (Fl.int .u16)).f G_frame_syncs)), .blk b3 ((Fl.arr 64 (Fl.int .u16)).f g.2.2) 25, .blk b6 ((Fl.arr 64 (Fl.int .u16)).f (Arr.rep 64 0 : Arr 64 Int)) 25] ∧ loopN B259 g.1 (g.2.1, g.2.2) = some g145) (fun g => g.1) (n260, 0, p0) (Sl_cons rfl Sl_nil) ⟨H.pick [0, 1, 2] (by decide), hF⟩ ?_
      clear H hF
      rintro ⟨n260, g257, g258⟩ ρ w263 ⟨H, hF⟩
      obtain ⟨n264, rfl, hF⟩ := loopN_pos hF
      have hF := loop_body eB261 hF
      refine WP_seq_k fun K265 hK265 => ?_
      refine WP_region ?_
      obtain ⟨x266, e267, hF⟩ := letO_some hF
      refine RL_do rfl rfl (Do_as (Do_lss (a := g257) (b := 60) rfl rfl) (congrArg Value.bool e267)) ?_
      refine (RL_nil (thenQ_n (hK265 _ _ ?_)))
      refine WP_seq_k fun K269 hK269 => ?_
      refine WP_ifb (b := x266) rfl (fun c270 => ?_) (fun c270 => ?_)
      · have hF := iteB_t c270 hF
        refine (WP_skip (thenQ_n (hK269 _ _ ?_)))
        refine WP_seq_k fun K293 hK293 => ?_
        refine WP_block ?_
        refine WP_seq_k fun K294 hK294 => ?_
        refine WP_region ?_
        refine RL_do rfl rfl (Do_move (v := .int .i64 g257) rfl) ?_
        refine RL_do rfl rfl (Do_assign (v := .int .i64 g257) rfl) ?_
        refine (RL_nil (thenQ_n (hK294 _ _ ?_)))
        refine WP_region ?_
        refine RL_do rfl rfl (Do_move (v := .int .i64 g257) rfl) ?_
        obtain ⟨x295, e296, hF⟩ := letO_some hF
        refine RL_do rfl rfl (Do_add (a := g257) (b := 1) rfl rfl e296) ?_
        refine RL_do rfl rfl (Do_move (v := .int .i64 g257) rfl) ?_
        obtain ⟨x297, e298, hF⟩ := letO_some hF
        refine RL_do rfl rfl (Do_add (a := g257) (b := 1) rfl rfl e298) ?_
        obtain ⟨x299, e300, hF⟩ := bindO_some hF
        refine RL_do rfl rfl (Do_idxA (X := g258) u25 sz23 rfl rfl e300) ?_
        refine RL_do rfl rfl (Do_load1 (v := .int .u16 x299) one23 rfl (Cells.ix (e := (Fl.int .u16)) (x := g258) (Blk.cells (H.item (i := 1) rfl)) e300)) ?_
        have H301 := H
        obtain ⟨x302, e303, hF⟩ := bindO_some hF
        refine RL_call rfl rfl (DoC_func en85 rfl) (F_frame_data_w x299 _ e303 _ _ _ (H.enter [] [] (by decide) rfl)) ?_
        rintro _ w304 ⟨rfl, G305⟩
        have H := H301.step (G305.only : Only [] _ _)
        refine ⟨_, rfl, ?_⟩
        have H306 := H
        obtain ⟨x307, e308, hF⟩ := bindO_some hF
        refine RL_call rfl rfl (DoC_func en83 rfl) (F_frame_word_w x302 _ e308 _ _ _ (H.enter [] [] (by decide) rfl)) ?_
        rintro _ w309 ⟨rfl, G310⟩
        have H := H306.step (G310.only : Only [] _ _)
        refine ⟨_, rfl, ?_⟩
        obtain ⟨x311, e312, hF⟩ := bindO_some hF
        refine RL_do rfl rfl (Do_idxA (X := g258) u25 sz23 rfl rfl e312) ?_
        obtain ⟨x313, e314, hF⟩ := letO_some hF
        refine RL_exU rfl (Lx_storeA (e := (Fl.int .u16)) (X := g258) (a := x307) (j := x295) H 1 rfl sz23 rfl (v := .int .u16 x307) rfl rfl (Arr.at_lt e312).1 (Arr.at_lt e312).2 e314) ?_
        rintro w315 H
        refine (RL_nil (blockQ_n (thenQ_n (hK293 _ _ ?_))))
        refine WP_region ?_
        obtain ⟨x316, e317, hF⟩ := letO_some hF
        refine RL_do rfl rfl (Do_add (a := g257) (b := 1) rfl rfl e317) ?_
        refine RL_do rfl rfl (Do_move (v := .int .i64 x316) rfl) ?_
        refine (RL_nil (thenQ_n (And.intro ?_ ?_)))
        · repeat' (first | with_reducible exact Fr_refl | refine Fr_upd rfl ?_ | refine Fr_over rfl rfl ?_)
        · exact ⟨(n264, x316, x313), (Sl_cons rfl Sl_nil), ⟨H.pick [0, 1, 2] (by decide), hF⟩, Nat.lt_succ_self _⟩
      · have hF := iteB_f c270 hF
        have hR := Option.some.inj hF
        subst hR
        refine (WP_exit (thenQ_x (thenQ_x (blockQ_eq (thenQ_n (And.intro ?_ ?_))))))
        · repeat' (first | with_reducible exact Fr_refl | refine Fr_upd rfl ?_ | refine Fr_over rfl rfl ?_)
        · exact ⟨(), Sl_nil, H.pick [0, 1, 2] (by decide)⟩
    · rintro _ ρ w146 H
      have hF := hK147
      refine WP_seq_k fun K318 hK318 => ?_
      refine WP_region ?_
      obtain ⟨x319, e320, hF⟩ := bindO_some hF
      refine RL_call rfl rfl (DoC_func en89 rfl) (F_frame_finish_w g145 b3 _ e320 _ _ _ (H.enter [1] [0] (by decide) rfl)) ?_
      rintro _ w321 ⟨rfl, G322⟩
      have H : Hd O _ w321 _ [.fz (.at 0 0 ((Fl.arr 4 (Fl.int .u16)).f G_frame_syncs)), .blk b6 ((Fl.arr 64 (Fl.int .u16)).f (Arr.rep 64 0 : Arr 64 Int)) 25, .blk b3 ((Fl.arr 64 (Fl.int .u16)).f x319) 25] := H.back [1] [0] rfl G322
      refine ⟨_, rfl, ?_⟩
      refine (RL_nil (thenQ_n (hK318 _ _ ?_)))
      refine WP_seq_k fun K323 hK323 => ?_
      refine WP_region ?_
      refine RL_do rfl rfl (Do_loadF (e := (Fl.arr 64 (Fl.int .u16))) (a := x319) agg25 rfl sz25 (Blk.cells (H.item (i := 2) rfl))) ?_
      refine RL_exU rfl (Lx_storeW (e := (Fl.arr 64 (Fl.int .u16))) (a := (Arr.rep 64 0 : Arr 64 Int)) (a' := x319) H 1 rfl sz25 rfl rfl) ?_
      rintro w324 H
      refine RL_do rfl rfl (Do_assign (v := .int .i64 0) rfl) ?_
      refine (RL_nil (thenQ_n (hK323 _ _ ?_)))
      have hR := Option.some.inj hF
      subst hR
      refine (WP_ret (postc1 (v1 := .int .i64 0) rfl rfl (run_loadVar_agg agg25 sz25 (Fl.len _ _) (Blk.cells (H.item (i := 1) rfl))) rfl ?_))
      exact ⟨rfl, H.pick [] (by decide)⟩
end Go.Proofs.YtafgmocdnjdmoaaDoor.L
namespace Go.Proofs.YtafgmocdnjdmoaaDoor.L
open Go.RowKit Go.OB Go.Lf
/- slices.Equal[[]int,int] -/
set_option maxHeartbeats 4000000 in
theorem F_slices_Equal___int_int__w (p0 : List Int) (p1 : List Int) (v1 : Value) (v3 : Value) (r : Bool) (hF : F_slices_Equal___int_int_ p0 p1 = some r) (O S : List Nat) (w : World) (H : Hd O w w S [.fz (.sl (Rp.int .i64) v1 p0), .fz (.sl (Rp.int .i64) v3 p1)]) :
    Calls Tryd.prog 49 ([v1, v3] : List Value).toArray w fun e w' => e = .returned (.bool r) ∧ Hd O w w' S [] := by
  unfold F_slices_Equal___int_int_ at hF
  refine calls_of_WP 26 Tryd.func49 rfl rfl rfl ?_
  refine WP_seq_k fun K5 hK5 => ?_
  refine WP_region ?_
  refine RL_do rfl rfl (Do_assign (v := .bool false) rfl) ?_
  refine (RL_nil (thenQ_n (hK5 _ _ ?_)))
  refine WP_seq_k fun K21 hK21 => ?_
  refine WP_seq_k fun K22 hK22 => ?_
  refine WP_region ?_
  refine RL_do rfl rfl (Do_move (v := v1) rfl) ?_
  obtain ⟨x23, e24, hF⟩ := letO_some hF
  obtain ⟨a25, c26, q27⟩ := SlF.len ((H.item (i := 0) rfl))
  refine RL_do rfl rfl (Do_as (Do_len u46 q27) (congrArg (Value.int .i64) e24)) ?_
  refine RL_do rfl rfl (Do_move (v := v3) rfl) ?_
  obtain ⟨x28, e29, hF⟩ := letO_some hF
  obtain ⟨a30, c31, q32⟩ := SlF.len ((H.item (i := 1) rfl))
  refine RL_do rfl rfl (Do_as (Do_len u46 q32) (congrArg (Value.int .i64) e29)) ?_
  obtain ⟨x33, e34, hF⟩ := letO_some hF
  refine RL_do rfl rfl (Do_as (Do_neq (a := x23) (b := x28) rfl rfl) (congrArg Value.bool e34)) ?_
  refine (RL_nil (thenQ_n (hK22 _ _ ?_)))
  refine WP_ifb (b := x33) rfl (fun c35 => ?_) (fun c35 => ?_)
  · have hF := iteB_t c35 hF
    refine WP_seq_k fun K36 hK36 => ?_
    refine WP_region ?_
    refine RL_do rfl rfl (Do_assign (v := .bool false) rfl) ?_
    refine (RL_nil (thenQ_n (hK36 _ _ ?_)))
    have hR := Option.some.inj hF
    subst hR
    refine (WP_ret (thenQ_r (post1 (v1 := .bool false) rfl rfl ?_)))
    exact ⟨rfl, H.pick [] (by decide)⟩
  · have hF := iteB_f c35 hF
    refine (WP_skip (thenQ_n (hK21 _ _ ?_)))
    obtain ⟨k201, ek202, hF⟩ := joinO_some hF
    refine WP_seqS [4, 5, 11, 12, 13, 14, 15, 16, 17, 18, 19, 20, 21, 22, 23, 24, 25] (fun (g : Unit) => []) (fun g wl => Hd O w wl S [] ∧ k201 () = some r) ?_ ?_
    · skip
      refine WP_seq_k fun K203 hK203 => ?_
      refine WP_region ?_
      refine RL_do rfl rfl (Do_move (v := v1) rfl) ?_
      obtain ⟨x204, e205, hF⟩ := letO_some hF
      obtain ⟨a206, c207, q208⟩ := SlF.len ((H.item (i := 0) rfl))
      refine RL_do rfl rfl (Do_as (Do_len u46 q208) (congrArg (Value.int .i64) e205)) ?_
      refine RL_do rfl rfl (Do_move (v := .int .i64 0) rfl) ?_
      refine (RL_nil (thenQ_n (hK203 _ _ ?_)))
      refine WP_block ?_
      unfold F_slices_Equal___int_int__L1 at hF
      obtain ⟨B361, n362, eB363, hF⟩ := loopO_some hF
      refine WP_loopS [4, 5, 13, 14, 15, 16, 17, 18, 19, 20, 21, 22, 23, 24, 25] (fun (g : Nat × Int) => [(13, .int .i64 g.2)]) (fun g wl => Hd O w wl S [.fz (.sl (Rp.int .i64) v1 p0), .fz (.sl (Rp.int .i64) v3 p1)] ∧ loopN B361 g.1 g.2 = some r) (fun g => g.1) (n362, 0) (Sl_cons rfl Sl_nil) ⟨H.pick [0, 1] (by decide), hF⟩ ?_
      clear H hF
      rintro ⟨n362, g360⟩ ρ w365 ⟨H, hF⟩
      obtain ⟨n366, rfl, hF⟩ := loopN_pos hF
      have hF := loop_body eB363 hF
      refine WP_seq_k fun K367 hK367 => ?_
      refine WP_region ?_
      obtain ⟨x368, e369, hF⟩ := letO_some hF
      refine RL_do rfl rfl (Do_as (Do_lss (a := g360) (b := x204) rfl rfl) (congrArg Value.bool e369)) ?_
      refine (RL_nil (thenQ_n (hK367 _ _ ?_)))
      refine WP_seq_k fun K371 hK371 => ?_
      refine WP_ifb (b := x368) rfl (fun c372 => ?_) (fun c372 => ?_)
      · have hF := iteB_t c372 hF
        refine (WP_skip (thenQ_n (hK371 _ _ ?_)))
        refine WP_seq_k fun K406 hK406 => ?_
        refine WP_block ?_
        refine WP_seq_k fun K407 hK407 => ?_
        refine WP_region ?_
        refine RL_do rfl rfl (Do_move (v := .int .i64 g360) rfl) ?_
        refine RL_do rfl rfl (Do_assign (v := .int .i64 g360) rfl) ?_
        refine (RL_nil (thenQ_n (hK407 _ _ ?_)))
        refine WP_seq_k fun K408 hK408 => ?_
        have H409 := H
        have H := H.rebase
        have H410 := H
        refine WP_mix0 H [0, 1, 2, 3, 4, 5, 6, 7, 8] [.pure, .pure, .pure, .read, .pure, .pure, .pure, .read, .pure] mixed (by kernel_rfl) (by kernel_rfl) (by kernel_rfl) rfl ?_
        refine Mx.XL_pure rfl rfl rfl (fun w' hw' => Do_move (v := v1) rfl) ?_
        refine Mx.XL_pure rfl rfl rfl (fun w' hw' => Do_move (v := .int .i64 g360) rfl) ?_
        obtain ⟨x411, e412, hF⟩ := bindO_some hF
        obtain ⟨b413, o414, c415, cs416, q417, h420, h418, h419, h421⟩ := rd_at (H.item (i := 0) rfl) e412
        obtain rfl : cs416 = [.int .i64 x411] := h420
        have H := H.fz (.at b413 (o414 + g360.toNat * 1) _) ⟨h418, h419, h421⟩
        refine Mx.XL_pure rfl rfl rfl (fun w' hw' => Do_idx u46 sz3 q417 rfl (at_some e412).1 (at_some e412).2.1 rfl rfl) ?_
        refine Mx.XL_read oS rfl rfl rfl (fun w' hw' => Do_load one3 rfl (Cells.get ((H.sees hw').item (i := 2) rfl).2.2 (i := 0) rfl)) ?_
        refine Mx.XL_pure rfl rfl rfl (fun w' hw' => Do_move (v := v3) rfl) ?_
        refine Mx.XL_pure rfl rfl rfl (fun w' hw' => Do_move (v := .int .i64 g360) rfl) ?_
        obtain ⟨x423, e424, hF⟩ := bindO_some hF
        obtain ⟨b425, o426, c427, cs428, q429, h432, h430, h431, h433⟩ := rd_at (H.item (i := 1) rfl) e424
        obtain rfl : cs428 = [.int .i64 x423] := h432
        have H := H.fz (.at b425 (o426 + g360.toNat * 1) _) ⟨h430, h431, h433⟩
        refine Mx.XL_pure rfl rfl rfl (fun w' hw' => Do_idx u46 sz3 q429 rfl (at_some e424).1 (at_some e424).2.1 rfl rfl) ?_
        refine Mx.XL_read oS rfl rfl rfl (fun w' hw' => Do_load one3 rfl (Cells.get ((H.sees hw').item (i := 3) rfl).2.2 (i := 0) rfl)) ?_
        obtain ⟨x435, e436, hF⟩ := letO_some hF
        refine Mx.XL_pure rfl rfl rfl (fun w' hw' => Do_as (Do_neq (a := x411) (b := x423) rfl rfl) (congrArg Value.bool e436)) ?_
        refine Mx.XL_nil fun w437 hS => ?_
        have H := H.sees hS
        have H := H409.rejoin H
        refine (thenQ_n (hK408 _ _ ?_))
        refine WP_ifb (b := x435) rfl (fun c438 => ?_) (fun c438 => ?_)
        · have hF := iteB_t c438 hF
          refine WP_seq_k fun K439 hK439 => ?_
          refine WP_region ?_
          refine RL_do rfl rfl (Do_assign (v := .bool false) rfl) ?_
          refine (RL_nil (thenQ_n (hK439 _ _ ?_)))
          have hR := Option.some.inj hF
          subst hR
          refine (WP_ret (blockQ_r (thenQ_r (thenQ_r (blockQ_r (thenQ_r (post1 (v1 := .bool false) rfl rfl ?_)))))))
          exact ⟨rfl, H.pick [] (by decide)⟩
        · have hF := iteB_f c438 hF
          refine (WP_skip (blockQ_n (thenQ_n (hK406 _ _ ?_))))
          refine WP_region ?_
          obtain ⟨x440, e441, hF⟩ := letO_some hF
          refine RL_do rfl rfl (Do_add (a := g360) (b := 1) rfl rfl e441) ?_
          refine RL_do rfl rfl (Do_move (v := .int .i64 x440) rfl) ?_
          refine (RL_nil (thenQ_n (And.intro ?_ ?_)))
          · repeat' (first | with_reducible exact Fr_refl | refine Fr_upd rfl ?_ | refine Fr_over rfl rfl ?_)
          · exact ⟨(n366, x440), (Sl_cons rfl Sl_nil), ⟨H.pick [0, 1] (by decide), hF⟩, Nat.lt_succ_self _⟩
      · have hF := iteB_f c372 hF
        refine (WP_exit (thenQ_x (thenQ_x (blockQ_eq (thenQ_n (And.intro ?_ ?_))))))
        · repeat' (first | with_reducible exact Fr_refl | refine Fr_upd rfl ?_ | refine Fr_over rfl rfl ?_)
        · exact ⟨(), Sl_nil, ⟨H.pick [] (by decide), hF⟩⟩
    · rintro _ ρ w200 ⟨H, hF⟩
      have hF := join_body ek202 hF
      refine WP_seq_k fun K442 hK442 => ?_
      refine WP_region ?_
      refine RL_do rfl rfl (Do_assign (v := .bool true) rfl) ?_
      refine (RL_nil (thenQ_n (hK442 _ _ ?_)))
      have hR := Option.some.inj hF
      subst hR
      refine (WP_ret (post1 (v1 := .bool true) rfl rfl ?_))
      exact ⟨rfl, H.pick [] (by decide)⟩
end Go.Proofs.YtafgmocdnjdmoaaDoor.L
namespace Go.Proofs.YtafgmocdnjdmoaaDoor.L
open Go.RowKit Go.OB Go.Lf
/- orangebox/orangeboxref1.Right -/
set_option maxHeartbeats 4000000 in
theorem F_ref1_Right_w (p0 : Int) (r : Bool) (hF : F_ref1_Right p0 = some r) (O S : List Nat) (w : World) (H : Hd O w w S []) :
    Calls Tryd.prog 100 ([.int .u16 p0] : List Value).toArray w fun e w' => e = .returned (.bool r) ∧ Hd O w w' S [] := by
  unfold F_ref1_Right at hF
  refine calls_of_WP 10 Tryd.func100 rfl rfl rfl ?_
  refine WP_seq_k fun K1 hK1 => ?_
  refine WP_region ?_
  refine RL_do rfl rfl (Do_assign (v := .bool false) rfl) ?_
  refine (RL_nil (thenQ_n (hK1 _ _ ?_)))
  obtain ⟨g12, hF, hK14⟩ := bindO_some hF
  refine WP_seqS [2, 3, 4, 5, 6, 7, 8, 9] (fun (g : Unit) => [(2, .bool g12)]) (fun g wl => Hd O w wl S []) ?_ ?_
  · skip
    refine WP_region ?_
    refine RL_do rfl rfl (Do_move (v := .int .u16 p0) rfl) ?_
    obtain ⟨x15, e16, hF⟩ := letO_some hF
    refine RL_do rfl rfl (Do_as (Do_leq (a := p0) (b := 4095) rfl rfl) (congrArg Value.bool e16)) ?_
    refine RL_splitb (b := x15) rfl rfl rfl (fun c17 => ?_) (fun c17 => ?_)
    · have hF := iteB_t c17 hF
      refine RL_do rfl rfl (Do_move (v := .int .u16 p0) rfl) ?_
      obtain ⟨x18, e19, hF⟩ := letO_some hF
      refine RL_do rfl rfl (Do_conv u23 u3 rfl e19) ?_
      have H20 := H
      obtain ⟨x21, e22, hF⟩ := bindO_some hF
      refine RL_call rfl rfl (DoC_func en87 rfl) (X_odd_w x18 _ e22 _ _ _ (H.enter [] [] (by decide) rfl)) ?_
      rintro _ w23 ⟨rfl, G24⟩
      have H := H20.step (G24.only : Only [] _ _)
      refine ⟨_, rfl, ?_⟩
      refine RL_do rfl rfl (Do_pick_t (v := .bool x21) rfl rfl) ?_
      refine RL_do rfl rfl (Do_assign (v := .bool x21) rfl) ?_
      have hR := Option.some.inj hF
      subst hR
      refine (RL_nil (thenQ_n (And.intro ?_ ?_)))
      · repeat' (first | with_reducible exact Fr_refl | refine Fr_upd rfl ?_ | refine Fr_over rfl rfl ?_)
      · exact ⟨(), (Sl_cons rfl Sl_nil), H.pick [] (by decide)⟩
    · have hF := iteB_f c17 hF
      refine RL_off rfl rfl ?_
      refine RL_off rfl rfl ?_
      refine RL_off rfl rfl ?_
      refine RL_do rfl rfl (Do_pick_f (v := .bool false) rfl rfl) ?_
      refine RL_do rfl rfl (Do_assign (v := .bool false) rfl) ?_
      have hR := Option.some.inj hF
      subst hR
      refine (RL_nil (thenQ_n (And.intro ?_ ?_)))
      · repeat' (first | with_reducible exact Fr_refl | refine Fr_upd rfl ?_ | refine Fr_over rfl rfl ?_)
      · exact ⟨(), (Sl_cons rfl Sl_nil), H.pick [] (by decide)⟩
  · rintro _ ρ w13 H
    have hF := hK14
    have hR := Option.some.inj hF
    subst hR
    refine (WP_ret (post1 (v1 := .bool g12) rfl rfl ?_))
    exact ⟨rfl, H.pick [] (by decide)⟩
end Go.Proofs.YtafgmocdnjdmoaaDoor.L
namespace Go.Proofs.YtafgmocdnjdmoaaDoor.L
open Go.RowKit Go.OB Go.Lf
/- orangebox/orangeboxref1.numberOf -/
set_option maxHeartbeats 4000000 in
theorem F_ref1_numberOf_w (p0 : Arr 64 Int) (r : Int) (hF : F_ref1_numberOf p0 = some r) (O S : List Nat) (w : World) (H : Hd O w w S []) :
    Calls Tryd.prog 101 ([.agg ((Fl.arr 64 (Fl.int .u16)).f p0).toArray] : List Value).toArray w fun e w' => e = .returned (.int .i64 r) ∧ Hd O w w' S [] := by
  unfold F_ref1_numberOf at hF
  refine calls_of_WP 13 Tryd.func101 rfl rfl rfl ?_
  refine WP_seq_k fun K1 hK1 => ?_
  refine WP_region ?_
  refine RL_ex rfl rfl (Lx_box (cs := (Fl.arr 64 (Fl.int .u16)).f p0) rfl H) ?_
  rintro _ w4 ⟨b2, rfl, H⟩
  refine RL_do rfl rfl (Do_assign (v := .int .i64 0) rfl) ?_
  refine (RL_nil (thenQ_n (hK1 _ _ ?_)))
  refine WP_seq_k fun K5 hK5 => ?_
  refine WP_region ?_
  obtain ⟨x6, e7, hF⟩ := bindO_some hF
  refine RL_do rfl rfl (Do_idxA (X := p0) u25 sz23 rfl rfl e7) ?_
  refine RL_do rfl rfl (Do_load1 (v := .int .u16 x6) one23 rfl (Cells.ix (e := (Fl.int .u16)) (x := p0) (Blk.cells (H.item (i := 0) rfl)) e7)) ?_
  obtain ⟨x8, e9, hF⟩ := letO_some hF
  refine RL_do rfl rfl (Do_conv u23 u3 rfl e9) ?_
  obtain ⟨x10, e11, hF⟩ := bindO_some hF
  refine RL_do rfl rfl (Do_rem' (j := x8) (q := 2048) rfl rfl e11) ?_
  obtain ⟨x12, e13, hF⟩ := bindO_some hF
  refine RL_do rfl rfl (Do_idxA (X := p0) u25 sz23 rfl rfl e13) ?_
  refine RL_do rfl rfl (Do_load1 (v := .int .u16 x12) one23 rfl (Cells.ix (e := (Fl.int .u16)) (x := p0) (Blk.cells (H.item (i := 0) rfl)) e13)) ?_
  obtain ⟨x14, e15, hF⟩ := letO_some hF
  refine RL_do rfl rfl (Do_conv u23 u3 rfl e15) ?_
  obtain ⟨x16, e17, hF⟩ := bindO_some hF
  refine RL_do rfl rfl (Do_rem' (j := x14) (q := 2048) rfl rfl e17) ?_
  obtain ⟨x18, e19, hF⟩ := letO_some hF
  refine RL_do rfl rfl (Do_mul (a := x16) (b := 2048) rfl rfl e19) ?_
  obtain ⟨x20, e21, hF⟩ := letO_some hF
  refine RL_do rfl rfl (Do_add (a := x10) (b := x18) rfl rfl e21) ?_
  refine RL_do rfl rfl (Do_assign (v := .int .i64 x20) rfl) ?_
  refine (RL_nil (thenQ_n (hK5 _ _ ?_)))
  have hR := Option.some.inj hF
  subst hR
  refine (WP_ret (post1 (v1 := .int .i64 x20) rfl rfl ?_))
  exact ⟨rfl, H.pick [] (by decide)⟩
end Go.Proofs.YtafgmocdnjdmoaaDoor.L
namespace Go.Proofs.YtafgmocdnjdmoaaDoor.L
open Go.RowKit Go.OB Go.Lf
/- orangebox/orangeboxref1.Number -/
set_option maxHeartbeats 4000000 in
theorem F_ref1_Number_w (p0 : Arr 64 Int) (r : Int × Bool) (hF : F_ref1_Number p0 = some r) (O S : List Nat) (w : World) (H : Hd O w w S []) :
    Calls Tryd.prog 51 ([.agg ((Fl.arr 64 (Fl.int .u16)).f p0).toArray] : List Value).toArray w fun e w' => e = .returned (.tuple #[.int .i64 r.1, .bool r.2]) ∧ Hd O w w' S [] := by
  unfold F_ref1_Number at hF
  refine calls_of_WP 16 Tryd.func51 rfl rfl rfl ?_
  refine WP_seq_k fun K1 hK1 => ?_
  refine WP_region ?_
  refine RL_ex rfl rfl (Lx_box (cs := (Fl.arr 64 (Fl.int .u16)).f p0) rfl H) ?_
  rintro _ w4 ⟨b2, rfl, H⟩
  refine RL_do rfl rfl (Do_assign (v := .int .i64 0) rfl) ?_
  refine RL_do rfl rfl (Do_assign (v := .bool false) rfl) ?_
  refine (RL_nil (thenQ_n (hK1 _ _ ?_)))
  refine WP_seq_k fun K29 hK29 => ?_
  obtain ⟨g49, hF, hK51⟩ := bindO_some hF
  refine WP_seqS [4, 5, 6, 7, 8, 9, 10, 11, 12, 13] (fun (g : Unit) => [(13, .bool g49)]) (fun g wl => Hd O w wl S [.blk b2 ((Fl.arr 64 (Fl.int .u16)).f p0) 25]) ?_ ?_
  · skip
    refine WP_region ?_
    obtain ⟨x52, e53, hF⟩ := bindO_some hF
    refine RL_do rfl rfl (Do_idxA (X := p0) u25 sz23 rfl rfl e53) ?_
    refine RL_do rfl rfl (Do_load1 (v := .int .u16 x52) one23 rfl (Cells.ix (e := (Fl.int .u16)) (x := p0) (Blk.cells (H.item (i := 0) rfl)) e53)) ?_
    have H54 := H
    obtain ⟨x55, e56, hF⟩ := bindO_some hF
    refine RL_call rfl rfl (DoC_func en100 rfl) (F_ref1_Right_w x52 _ e56 _ _ _ (H.enter [] [] (by decide) rfl)) ?_
    rintro _ w57 ⟨rfl, G58⟩
    have H := H54.step (G58.only : Only [] _ _)
    refine ⟨_, rfl, ?_⟩
    obtain ⟨x59, e60, hF⟩ := letO_some hF
    refine RL_do rfl rfl (Do_as (Do_not (p := x55) rfl) (congrArg Value.bool e60)) ?_
    refine RL_splitb (b := x59) rfl rfl rfl (fun c61 => ?_) (fun c61 => ?_)
    · have hF := iteB_t c61 hF
      refine RL_off rfl rfl ?_
      refine RL_off rfl rfl ?_
      refine RL_off rfl rfl ?_
      refine RL_off rfl rfl ?_
      refine RL_do rfl rfl (Do_pick_t (v := .bool true) rfl rfl) ?_
      have hR := Option.some.inj hF
      subst hR
      refine (RL_nil (thenQ_n (And.intro ?_ ?_)))
      · repeat' (first | with_reducible exact Fr_refl | refine Fr_upd rfl ?_ | refine Fr_over rfl rfl ?_)
      · exact ⟨(), (Sl_cons rfl Sl_nil), H.pick [0] (by decide)⟩
    · have hF := iteB_f c61 hF
      obtain ⟨x62, e63, hF⟩ := bindO_some hF
      refine RL_do rfl rfl (Do_idxA (X := p0) u25 sz23 rfl rfl e63) ?_
      refine RL_do rfl rfl (Do_load1 (v := .int .u16 x62) one23 rfl (Cells.ix (e := (Fl.int .u16)) (x := p0) (Blk.cells (H.item (i := 0) rfl)) e63)) ?_
      have H64 := H
      obtain ⟨x65, e66, hF⟩ := bindO_some hF
      refine RL_call rfl rfl (DoC_func en100 rfl) (F_ref1_Right_w x62 _ e66 _ _ _ (H.enter [] [] (by decide) rfl)) ?_
      rintro _ w67 ⟨rfl, G68⟩
      have H := H64.step (G68.only : Only [] _ _)
      refine ⟨_, rfl, ?_⟩
      obtain ⟨x69, e70, hF⟩ := letO_some hF
      refine RL_do rfl rfl (Do_as (Do_not (p := x65) rfl) (congrArg Value.bool e70)) ?_
      refine RL_do rfl rfl (Do_pick_f (v := .bool x69) rfl rfl) ?_
      have hR := Option.some.inj hF
      subst hR
      refine (RL_nil (thenQ_n (And.intro ?_ ?_)))
      · repeat' (first | with_reducible exact Fr_refl | refine Fr_upd rfl ?_ | refine Fr_over rfl rfl ?_)
      · exact ⟨(), (Sl_cons rfl Sl_nil), H.pick [0] (by decide)⟩
  · rintro _ ρ w50 H
    have hF := hK51
    refine WP_ifb (b := g49) rfl (fun c71 => ?_) (fun c71 => ?_)
    · have hF := iteB_t c71 hF
      refine WP_seq_k fun K72 hK72 => ?_
      refine WP_region ?_
      refine RL_do rfl rfl (Do_assign (v := .int .i64 0) rfl) ?_
      refine RL_do rfl rfl (Do_assign (v := .bool false) rfl) ?_
      refine (RL_nil (thenQ_n (hK72 _ _ ?_)))
      have hR := Option.some.inj hF
      subst hR
      refine (WP_ret (thenQ_r (post2 (v1 := .int .i64 0) (v2 := .bool false) rfl rfl rfl ?_)))
      exact ⟨rfl, H.pick [] (by decide)⟩
    · have hF := iteB_f c71 hF
      refine (WP_skip (thenQ_n (hK29 _ _ ?_)))
      refine WP_seq_k fun K73 hK73 => ?_
      refine WP_region ?_
      refine RL_do rfl rfl (Do_loadF (e := (Fl.arr 64 (Fl.int .u16))) (a := p0) agg25 rfl sz25 (Blk.cells (H.item (i := 0) rfl))) ?_
      have H74 := H
      obtain ⟨x75, e76, hF⟩ := bindO_some hF
      refine RL_call rfl rfl (DoC_func en101 rfl) (F_ref1_numberOf_w p0 _ e76 _ _ _ (H.enter [] [] (by decide) rfl)) ?_
      rintro _ w77 ⟨rfl, G78⟩
      have H := H74.step (G78.only : Only [] _ _)
      refine ⟨_, rfl, ?_⟩
      refine RL_do rfl rfl (Do_assign (v := .int .i64 x75) rfl) ?_
      refine RL_do rfl rfl (Do_assign (v := .bool true) rfl) ?_
      refine (RL_nil (thenQ_n (hK73 _ _ ?_)))
      have hR := Option.some.inj hF
      subst hR
      refine (WP_ret (post2 (v1 := .int .i64 x75) (v2 := .bool true) rfl rfl rfl ?_))
      exact ⟨rfl, H.pick [] (by decide)⟩
end Go.Proofs.YtafgmocdnjdmoaaDoor.L
namespace Go.Proofs.YtafgmocdnjdmoaaDoor.L
open Go.RowKit Go.OB Go.Lf
/- orangebox/orangeboxref1.Values -/
set_option maxHeartbeats 4000000 in
theorem F_ref1_Values_w (p0 : Arr 64 Int) (r : (List Int) × (List Bool)) (hF : F_ref1_Values p0 = some r) (O S : List Nat) (w : World) (H : Hd O w w S []) :
    Calls Tryd.prog 52 ([.agg ((Fl.arr 64 (Fl.int .u16)).f p0).toArray] : List Value).toArray w fun e w' => ∃ u1 u2, e = .returned (.tuple #[u1, u2]) ∧ Hd O w w' S [.own (Rp.int .i64) u1 3 r.1, .own Rp.bool u2 4 r.2] := by
  unfold F_ref1_Values at hF
  refine calls_of_WP 34 Tryd.func52 rfl rfl rfl ?_
  refine WP_seq_k fun K3 hK3 => ?_
  refine WP_region ?_
  refine RL_ex rfl rfl (Lx_box (cs := (Fl.arr 64 (Fl.int .u16)).f p0) rfl H) ?_
  rintro _ w6 ⟨b4, rfl, H⟩
  refine RL_do rfl rfl (Do_assign (v := .slice none 0 0) rfl) ?_
  refine RL_do rfl rfl (Do_assign (v := .slice none 0 0) rfl) ?_
  refine (RL_nil (thenQ_n (hK3 _ _ ?_)))
  refine WP_seq_k fun K7 hK7 => ?_
  refine WP_region ?_
  refine RL_do rfl rfl (Do_assign (v := .slice none 0 0) rfl) ?_
  refine (RL_nil (thenQ_n (hK7 _ _ ?_)))
  refine WP_seq_k fun K8 hK8 => ?_
  refine WP_region ?_
  refine RL_do rfl rfl (Do_assign (v := .slice none 0 0) rfl) ?_
  refine (RL_nil (thenQ_n (hK8 _ _ ?_)))
  obtain ⟨j233, hF, hK232⟩ := bindO_some hF
  refine WP_seqS [4, 5, 6, 7, 8, 9, 10, 11, 12, 13, 14, 15, 16, 17, 18, 19, 20, 21, 22, 23, 24, 25, 26, 27, 28, 29, 30, 31] (fun (g : Value × Value) => [(4, g.1), (5, g.2)]) (fun g wl => Hd O w wl S [.own (Rp.int .i64) g.1 3 j233.1, .own Rp.bool g.2 4 j233.2]) ?_ ?_
  · skip
    refine WP_seq_k fun K234 hK234 => ?_
    refine WP_region ?_
    refine RL_do rfl rfl (Do_assign (v := .int .i64 3) rfl) ?_
    refine (RL_nil (thenQ_n (hK234 _ _ ?_)))
    refine WP_block ?_
    have H := own_nil H (Rp.int .i64) 3
    have H := own_nil H Rp.bool 4
    have H := H.freezeB (i := 0) rfl
    unfold F_ref1_Values_L1 at hF
    obtain ⟨B451, n452, eB453, hF⟩ := loopO_some hF
    refine WP_loopS [4, 5, 6, 7, 8, 9, 10, 11, 12, 13, 14, 15, 16, 17, 18, 19, 20, 21, 22, 23, 24, 25, 26, 27, 28, 29, 30, 31] (fun (g : Nat × (List Int) × (List Bool) × Int × Value × Value) => [(4, g.2.2.2.2.1), (5, g.2.2.2.2.2), (6, .int .i64 g.2.2.2.1)]) (fun g wl => Hd O w wl S [.own (Rp.int .i64) g.2.2.2.2.1 3 g.2.1, .own Rp.bool g.2.2.2.2.2 4 g.2.2.1, .fz (.at b4 0 ((Fl.arr 64 (Fl.int .u16)).f p0))] ∧ loopN B451 g.1 (g.2.1, g.2.2.1, g.2.2.2.1) = some j233) (fun g => g.1) (n452, [], [], 3, .slice none 0 0, .slice none 0 0) (Sl_cons rfl (Sl_cons rfl (Sl_cons rfl Sl_nil))) ⟨H.pick [1, 2, 0] (by decide), hF⟩ ?_
    clear H hF
    rintro ⟨n452, g443, g446, g448, v444, v447⟩ ρ w455 ⟨H, hF⟩
    obtain ⟨n456, rfl, hF⟩ := loopN_pos hF
    have hF := loop_body eB453 hF
    refine WP_seq_k fun K461 hK461 => ?_
    refine WP_seq_k fun K462 hK462 => ?_
    refine WP_region ?_
    refine RL_do rfl rfl (Do_move (v := .int .i64 g448) rfl) ?_
    obtain ⟨x463, e464, hF⟩ := letO_some hF
    refine RL_do rfl rfl (Do_as (Do_leq (a := g448) (b := 60) rfl rfl) (congrArg Value.bool e464)) ?_
    refine (RL_nil (thenQ_n (hK462 _ _ ?_)))
    refine WP_ifb (b := x463) rfl (fun c465 => ?_) (fun c465 => ?_)
    · have hF := iteB_t c465 hF
      refine (WP_skip (thenQ_n (hK461 _ _ ?_)))
      refine WP_seq_k fun K509 hK509 => ?_
      refine WP_block ?_
      refine WP_seq_k fun K510 hK510 => ?_
      refine WP_region ?_
      refine RL_do rfl rfl (Do_assign (v := .int .i64 0) rfl) ?_
      refine (RL_nil (thenQ_n (hK510 _ _ ?_)))
      obtain ⟨g523, hF, hK525⟩ := bindO_some hF
      refine WP_seqS [7, 12, 13, 14, 15, 16, 17, 18, 19, 20] (fun (g : Unit) => [(7, .int .i64 g523)]) (fun g wl => Hd O w wl S [.own (Rp.int .i64) v444 3 g443, .own Rp.bool v447 4 g446, .fz (.at b4 0 ((Fl.arr 64 (Fl.int .u16)).f p0))]) ?_ ?_
      · skip
        refine WP_seq_k fun K526 hK526 => ?_
        refine WP_region ?_
        refine RL_do rfl rfl (Do_move (v := .int .i64 g448) rfl) ?_
        obtain ⟨x527, e528, hF⟩ := bindO_some hF
        refine RL_do rfl rfl (Do_idxA (X := p0) u25 sz23 rfl rfl e528) ?_
        refine RL_do rfl rfl (Do_load1 (v := .int .u16 x527) one23 rfl (Cells.ix (e := (Fl.int .u16)) (x := p0) (H.item (i := 2) rfl).2.2 e528)) ?_
        obtain ⟨x529, e530, hF⟩ := letO_some hF
        refine RL_do rfl rfl (Do_as (Do_leq (a := x527) (b := 4095) rfl rfl) (congrArg Value.bool e530)) ?_
        refine (RL_nil (thenQ_n (hK526 _ _ ?_)))
        refine WP_ifb (b := x529) rfl (fun c531 => ?_) (fun c531 => ?_)
        · have hF := iteB_t c531 hF
          refine WP_region ?_
          refine RL_do rfl rfl (Do_move (v := .int .i64 g448) rfl) ?_
          obtain ⟨x532, e533, hF⟩ := bindO_some hF
          refine RL_do rfl rfl (Do_idxA (X := p0) u25 sz23 rfl rfl e533) ?_
          refine RL_do rfl rfl (Do_load1 (v := .int .u16 x532) one23 rfl (Cells.ix (e := (Fl.int .u16)) (x := p0) (H.item (i := 2) rfl).2.2 e533)) ?_
          obtain ⟨x534, e535, hF⟩ := letO_some hF
          refine RL_do rfl rfl (Do_conv u23 u3 rfl e535) ?_
          obtain ⟨x536, e537, hF⟩ := bindO_some hF
          refine RL_do rfl rfl (Do_rem' (j := x534) (q := 2048) rfl rfl e537) ?_
          refine RL_do rfl rfl (Do_assign (v := .int .i64 x536) rfl) ?_
          have hR := Option.some.inj hF
          subst hR
          refine (RL_nil (thenQ_n (And.intro ?_ ?_)))
          · repeat' (first | with_reducible exact Fr_refl | refine Fr_upd rfl ?_ | refine Fr_over rfl rfl ?_)
          · exact ⟨(), (Sl_cons rfl Sl_nil), H.pick [0, 1, 2] (by decide)⟩
        · have hF := iteB_f c531 hF
          have hR := Option.some.inj hF
          subst hR
          refine (WP_skip (thenQ_n (And.intro ?_ ?_)))
          · repeat' (first | with_reducible exact Fr_refl | refine Fr_upd rfl ?_ | refine Fr_over rfl rfl ?_)
          · exact ⟨(), (Sl_cons rfl Sl_nil), H.pick [0, 1, 2] (by decide)⟩
      · rintro _ ρ w524 H
        have hF := hK525
        have H538 := H
        have H := H.rebase
        have H539 := H
        have h540 := H.firm (i := 2) rfl
        refine WP_mix H [0, 1, 4, 5, 6, 7, 2, 3, 8, 9, 10, 11, 12] [.pure, .pure, .new, .eff, .pure, .pure, .pure, .pure, .fcall, .new, .eff, .pure, .pure] mixed (by kernel_rfl) (by kernel_rfl) (by kernel_rfl) (by decide) ?_
        refine Mx.XL_pure rfl rfl rfl (fun w' hw' => Do_move (v := v444) rfl) ?_
        refine Mx.XL_pure rfl rfl rfl (fun w' hw' => Do_move (v := .int .i64 g523) rfl) ?_
        refine Mx.XL_pure rfl rfl rfl (fun w' hw' => Do_move (v := v447) rfl) ?_
        refine Mx.XL_pure rfl rfl rfl (fun w' hw' => Do_move (v := .int .i64 g448) rfl) ?_
        obtain ⟨x541, e542, hF⟩ := bindO_some hF
        refine Mx.XL_pure rfl rfl rfl (fun w' hw' => Do_idxA (X := p0) u25 sz23 rfl rfl e542) ?_
        refine Mx.XL_pure rfl rfl rfl (fun w' hw' => Do_load1 (v := .int .u16 x541) one23 rfl (Cells.ix (e := (Fl.int .u16)) (x := p0) (h540 w' hw').2.2 e542)) ?_
        obtain ⟨x543, e544, hF⟩ := letO_some hF
        subst e544
        refine Mx.XL_exN oS rfl rfl rfl (fun w' hw' => Ls_of (Lx_bs (r := (Rp.int .i64)) (xl := [g523]) (cs := [.int .i64 g523]) u46 el3 (by decide) (by decide) rfl (fillB_parts (vs := [.int .i64 g523]) (by decide) rfl rfl ⟨rfl, trivial⟩ rfl) (H.sees hw') ⟨[.int .i64 g523], [], rfl, rfl, rfl⟩) (Ys_bs (cs := [.int .i64 g523]) u46 el3 (by decide) (by decide) (fillB_parts (vs := [.int .i64 g523]) (by decide) rfl rfl ⟨rfl, trivial⟩ rfl))) ?_
        rintro w' v546 w547 hw' H
        obtain ⟨x548, e549, hF⟩ := bindO_some hF
        refine Mx.XL_ex oS rfl rfl rfl (fun w' hw' => Lx_app (H.sees hw') (i := 0) rfl u46 el3 rfl rfl (Sr.of_own ((H.sees hw').item (i := 3) rfl)) e549) ?_
        rintro w' v550 w551 hw' H
        refine ⟨H.only, ?_⟩
        have H552 := H
        obtain ⟨x553, e554, hF⟩ := bindO_some hF
        refine Mx.XL_fcall oS rfl rfl rfl (v := .bool x553) (fun w' hw' => DoC_func en100 rfl) (fun w' hw' => call_read (F_ref1_Right_w x541 _ e554 _ _ _ (Hd.fresh0 w'))) ?_
        have H := H552
        obtain ⟨x555, e556, hF⟩ := letO_some hF
        subst e556
        refine Mx.XL_exN oS rfl rfl rfl (fun w' hw' => Ls_of (Lx_bs (r := Rp.bool) (xl := [x553]) (cs := [.bool x553]) u70 el4 (by decide) (by decide) rfl (fillB_parts (vs := [.bool x553]) (by decide) rfl rfl ⟨rfl, trivial⟩ rfl) (H.sees hw') ⟨[.bool x553], [], rfl, rfl, rfl⟩) (Ys_bs (cs := [.bool x553]) u70 el4 (by decide) (by decide) (fillB_parts (vs := [.bool x553]) (by decide) rfl rfl ⟨rfl, trivial⟩ rfl))) ?_
        rintro w' v558 w559 hw' H
        obtain ⟨x560, e561, hF⟩ := bindO_some hF
        refine Mx.XL_ex oS rfl rfl rfl (fun w' hw' => Lx_app (H.sees hw') (i := 1) rfl u70 el4 rfl rfl (Sr.of_own ((H.sees hw').item (i := 4) rfl)) e561) ?_
        rintro w' v562 w563 hw' H
        refine ⟨H.only, ?_⟩
        refine Mx.XL_pure rfl rfl rfl (fun w' hw' => Do_assign (v := v550) rfl) ?_
        refine Mx.XL_pure rfl rfl rfl (fun w' hw' => Do_assign (v := v562) rfl) ?_
        refine Mx.XL_nil fun w564 hS => ?_
        have H := H.sees hS
        have H := H538.rejoin H
        refine (blockQ_n (thenQ_n (hK509 _ _ ?_)))
        refine WP_region ?_
        refine RL_do rfl rfl (Do_move (v := .int .i64 g448) rfl) ?_
        obtain ⟨x565, e566, hF⟩ := letO_some hF
        refine RL_do rfl rfl (Do_add (a := g448) (b := 1) rfl rfl e566) ?_
        refine RL_do rfl rfl (Do_assign (v := .int .i64 x565) rfl) ?_
        refine (RL_nil (thenQ_n (And.intro ?_ ?_)))
        · repeat' (first | with_reducible exact Fr_refl | refine Fr_upd rfl ?_ | refine Fr_over rfl rfl ?_)
        · exact ⟨(n456, x548, x560, x565, v550, v562), (Sl_cons rfl (Sl_cons rfl (Sl_cons rfl Sl_nil))), ⟨H.pick [0, 1, 2] (by decide), hF⟩, Nat.lt_succ_self _⟩
    · have hF := iteB_f c465 hF
      have hR := Option.some.inj hF
      subst hR
      refine (WP_exit (thenQ_x (thenQ_x (blockQ_eq (thenQ_n (And.intro ?_ ?_))))))
      · repeat' (first | with_reducible exact Fr_refl | refine Fr_upd rfl ?_ | refine Fr_over rfl rfl ?_)
      · exact ⟨(v444, v447), (Sl_cons rfl (Sl_cons rfl Sl_nil)), H.pick [0, 1] (by decide)⟩
  · rintro ⟨v227, v230⟩ ρ w231 H
    have hF := hK232
    obtain ⟨g226, g229⟩ := j233
    refine WP_seq_k fun K567 hK567 => ?_
    refine WP_region ?_
    refine RL_do rfl rfl (Do_move (v := v227) rfl) ?_
    refine RL_do rfl rfl (Do_move (v := v230) rfl) ?_
    refine RL_do rfl rfl (Do_assign (v := v227) rfl) ?_
    refine RL_do rfl rfl (Do_assign (v := v230) rfl) ?_
    refine (RL_nil (thenQ_n (hK567 _ _ ?_)))
    have hR := Option.some.inj hF
    subst hR
    refine (WP_ret (post2 (v1 := v227) (v2 := v230) rfl rfl rfl ?_))
    exact ⟨v227, v230, rfl, H.pick [0, 1] (by decide)⟩
end Go.Proofs.YtafgmocdnjdmoaaDoor.L
namespace Go.Proofs.YtafgmocdnjdmoaaDoor.L
open Go.RowKit Go.OB Go.Lf
/- slices.Equal[[]bool,bool] -/
set_option maxHeartbeats 4000000 in
theorem F_slices_Equal___bool_bool__w (p0 : List Bool) (p1 : List Bool) (v1 : Value) (v3 : Value) (r : Bool) (hF : F_slices_Equal___bool_bool_ p0 p1 = some r) (O S : List Nat) (w : World) (H : Hd O w w S [.fz (.sl Rp.bool v1 p0), .fz (.sl Rp.bool v3 p1)]) :
    Calls Tryd.prog 53 ([v1, v3] : List Value).toArray w fun e w' => e = .returned (.bool r) ∧ Hd O w w' S [] := by
  unfold F_slices_Equal___bool_bool_ at hF
  refine calls_of_WP 26 Tryd.func53 rfl rfl rfl ?_
  refine WP_seq_k fun K5 hK5 => ?_
  refine WP_region ?_
  refine RL_do rfl rfl (Do_assign (v := .bool false) rfl) ?_
  refine (RL_nil (thenQ_n (hK5 _ _ ?_)))
  refine WP_seq_k fun K21 hK21 => ?_
  refine WP_seq_k fun K22 hK22 => ?_
  refine WP_region ?_
  refine RL_do rfl rfl (Do_move (v := v1) rfl) ?_
  obtain ⟨x23, e24, hF⟩ := letO_some hF
  obtain ⟨a25, c26, q27⟩ := SlF.len ((H.item (i := 0) rfl))
  refine RL_do rfl rfl (Do_as (Do_len u70 q27) (congrArg (Value.int .i64) e24)) ?_
  refine RL_do rfl rfl (Do_move (v := v3) rfl) ?_
  obtain ⟨x28, e29, hF⟩ := letO_some hF
  obtain ⟨a30, c31, q32⟩ := SlF.len ((H.item (i := 1) rfl))
  refine RL_do rfl rfl (Do_as (Do_len u70 q32) (congrArg (Value.int .i64) e29)) ?_
  obtain ⟨x33, e34, hF⟩ := letO_some hF
  refine RL_do rfl rfl (Do_as (Do_neq (a := x23) (b := x28) rfl rfl) (congrArg Value.bool e34)) ?_
  refine (RL_nil (thenQ_n (hK22 _ _ ?_)))
  refine WP_ifb (b := x33) rfl (fun c35 => ?_) (fun c35 => ?_)
  · have hF := iteB_t c35 hF
    refine WP_seq_k fun K36 hK36 => ?_
    refine WP_region ?_
    refine RL_do rfl rfl (Do_assign (v := .bool false) rfl) ?_
    refine (RL_nil (thenQ_n (hK36 _ _ ?_)))
    have hR := Option.some.inj hF
    subst hR
    refine (WP_ret (thenQ_r (post1 (v1 := .bool false) rfl rfl ?_)))
    exact ⟨rfl, H.pick [] (by decide)⟩
  · have hF := iteB_f c35 hF
    refine (WP_skip (thenQ_n (hK21 _ _ ?_)))
    obtain ⟨k201, ek202, hF⟩ := joinO_some hF
    refine WP_seqS [4, 5, 11, 12, 13, 14, 15, 16, 17, 18, 19, 20, 21, 22, 23, 24, 25] (fun (g : Unit) => []) (fun g wl => Hd O w wl S [] ∧ k201 () = some r) ?_ ?_
    · skip
      refine WP_seq_k fun K203 hK203 => ?_
      refine WP_region ?_
      refine RL_do rfl rfl (Do_move (v := v1) rfl) ?_
      obtain ⟨x204, e205, hF⟩ := letO_some hF
      obtain ⟨a206, c207, q208⟩ := SlF.len ((H.item (i := 0) rfl))
      refine RL_do rfl rfl (Do_as (Do_len u70 q208) (congrArg (Value.int .i64) e205)) ?_
      refine RL_do rfl rfl (Do_move (v := .int .i64 0) rfl) ?_
      refine (RL_nil (thenQ_n (hK203 _ _ ?_)))
      refine WP_block ?_
      unfold F_slices_Equal___bool_bool__L1 at hF
      obtain ⟨B361, n362, eB363, hF⟩ := loopO_some hF
      refine WP_loopS [4, 5, 13, 14, 15, 16, 17, 18, 19, 20, 21, 22, 23, 24, 25] (fun (g : Nat × Int) => [(13, .int .i64 g.2)]) (fun g wl => Hd O w wl S [.fz (.sl Rp.bool v1 p0), .fz (.sl Rp.bool v3 p1)] ∧ loopN B361 g.1 g.2 = some r) (fun g => g.1) (n362, 0) (Sl_cons rfl Sl_nil) ⟨H.pick [0, 1] (by decide), hF⟩ ?_
      clear H hF
      rintro ⟨n362, g360⟩ ρ w365 ⟨H, hF⟩
      obtain ⟨n366, rfl, hF⟩ := loopN_pos hF
      have hF := loop_body eB363 hF
      refine WP_seq_k fun K367 hK367 => ?_
      refine WP_region ?_
      obtain ⟨x368, e369, hF⟩ := letO_some hF
      refine RL_do rfl rfl (Do_as (Do_lss (a := g360) (b := x204) rfl rfl) (congrArg Value.bool e369)) ?_
      refine (RL_nil (thenQ_n (hK367 _ _ ?_)))
      refine WP_seq_k fun K371 hK371 => ?_
      refine WP_ifb (b := x368) rfl (fun c372 => ?_) (fun c372 => ?_)
      · have hF := iteB_t c372 hF
        refine (WP_skip (thenQ_n (hK371 _ _ ?_)))
        refine WP_seq_k fun K406 hK406 => ?_
        refine WP_block ?_
        refine WP_seq_k fun K407 hK407 => ?_
        refine WP_region ?_
        refine RL_do rfl rfl (Do_move (v := .int .i64 g360) rfl) ?_
        refine RL_do rfl rfl (Do_assign (v := .int .i64 g360) rfl) ?_
        refine (RL_nil (thenQ_n (hK407 _ _ ?_)))
        refine WP_seq_k fun K408 hK408 => ?_
        have H409 := H
        have H := H.rebase
        have H410 := H
        refine WP_mix0 H [0, 1, 2, 3, 4, 5, 6, 7, 8] [.pure, .pure, .pure, .read, .pure, .pure, .pure, .read, .pure] mixed (by kernel_rfl) (by kernel_rfl) (by kernel_rfl) rfl ?_
        refine Mx.XL_pure rfl rfl rfl (fun w' hw' => Do_move (v := v1) rfl) ?_
        refine Mx.XL_pure rfl rfl rfl (fun w' hw' => Do_move (v := .int .i64 g360) rfl) ?_
        obtain ⟨x411, e412, hF⟩ := bindO_some hF
        obtain ⟨b413, o414, c415, cs416, q417, h420, h418, h419, h421⟩ := rd_at (H.item (i := 0) rfl) e412
        obtain rfl : cs416 = [.bool x411] := h420
        have H := H.fz (.at b413 (o414 + g360.toNat * 1) _) ⟨h418, h419, h421⟩
        refine Mx.XL_pure rfl rfl rfl (fun w' hw' => Do_idx u70 sz4 q417 rfl (at_some e412).1 (at_some e412).2.1 rfl rfl) ?_
        refine Mx.XL_read oS rfl rfl rfl (fun w' hw' => Do_load one4 rfl (Cells.get ((H.sees hw').item (i := 2) rfl).2.2 (i := 0) rfl)) ?_
        refine Mx.XL_pure rfl rfl rfl (fun w' hw' => Do_move (v := v3) rfl) ?_
        refine Mx.XL_pure rfl rfl rfl (fun w' hw' => Do_move (v := .int .i64 g360) rfl) ?_
        obtain ⟨x423, e424, hF⟩ := bindO_some hF
        obtain ⟨b425, o426, c427, cs428, q429, h432, h430, h431, h433⟩ := rd_at (H.item (i := 1) rfl) e424
        obtain rfl : cs428 = [.bool x423] := h432
        have H := H.fz (.at b425 (o426 + g360.toNat * 1) _) ⟨h430, h431, h433⟩
        refine Mx.XL_pure rfl rfl rfl (fun w' hw' => Do_idx u70 sz4 q429 rfl (at_some e424).1 (at_some e424).2.1 rfl rfl) ?_
        refine Mx.XL_read oS rfl rfl rfl (fun w' hw' => Do_load one4 rfl (Cells.get ((H.sees hw').item (i := 3) rfl).2.2 (i := 0) rfl)) ?_
        obtain ⟨x435, e436, hF⟩ := letO_some hF
        refine Mx.XL_pure rfl rfl rfl (fun w' hw' => Do_as (Do_neqb (p := x411) (q := x423) u4 rfl rfl) (congrArg Value.bool e436)) ?_
        refine Mx.XL_nil fun w437 hS => ?_
        have H := H.sees hS
        have H := H409.rejoin H
        refine (thenQ_n (hK408 _ _ ?_))
        refine WP_ifb (b := x435) rfl (fun c438 => ?_) (fun c438 => ?_)
        · have hF := iteB_t c438 hF
          refine WP_seq_k fun K439 hK439 => ?_
          refine WP_region ?_
          refine RL_do rfl rfl (Do_assign (v := .bool false) rfl) ?_
          refine (RL_nil (thenQ_n (hK439 _ _ ?_)))
          have hR := Option.some.inj hF
          subst hR
          refine (WP_ret (blockQ_r (thenQ_r (thenQ_r (blockQ_r (thenQ_r (post1 (v1 := .bool false) rfl rfl ?_)))))))
          exact ⟨rfl, H.pick [] (by decide)⟩
        · have hF := iteB_f c438 hF
          refine (WP_skip (blockQ_n (thenQ_n (hK406 _ _ ?_))))
          refine WP_region ?_
          obtain ⟨x440, e441, hF⟩ := letO_some hF
          refine RL_do rfl rfl (Do_add (a := g360) (b := 1) rfl rfl e441) ?_
          refine RL_do rfl rfl (Do_move (v := .int .i64 x440) rfl) ?_
          refine (RL_nil (thenQ_n (And.intro ?_ ?_)))
          · repeat' (first | with_reducible exact Fr_refl | refine Fr_upd rfl ?_ | refine Fr_over rfl rfl ?_)
          · exact ⟨(n366, x440), (Sl_cons rfl Sl_nil), ⟨H.pick [0, 1] (by decide), hF⟩, Nat.lt_succ_self _⟩
      · have hF := iteB_f c372 hF
        refine (WP_exit (thenQ_x (thenQ_x (blockQ_eq (thenQ_n (And.intro ?_ ?_))))))
        · repeat' (first | with_reducible exact Fr_refl | refine Fr_upd rfl ?_ | refine Fr_over rfl rfl ?_)
        · exact ⟨(), Sl_nil, ⟨H.pick [] (by decide), hF⟩⟩
    · rintro _ ρ w200 ⟨H, hF⟩
      have hF := join_body ek202 hF
      refine WP_seq_k fun K442 hK442 => ?_
      refine WP_region ?_
      refine RL_do rfl rfl (Do_assign (v := .bool true) rfl) ?_
      refine (RL_nil (thenQ_n (hK442 _ _ ?_)))
      have hR := Option.some.inj hF
      subst hR
      refine (WP_ret (post1 (v1 := .bool true) rfl rfl ?_))
      exact ⟨rfl, H.pick [] (by decide)⟩
end Go.Proofs.YtafgmocdnjdmoaaDoor.L
namespace Go.Proofs.YtafgmocdnjdmoaaDoor.L
open Go.RowKit Go.OB Go.Lf
/- orangebox/orangeboxref1.syncOf -/
set_option maxHeartbeats 4000000 in
theorem F_ref1_syncOf_w (p0 : Int) (r : Int) (hF : F_ref1_syncOf p0 = some r) (O S : List Nat) (w : World) (H : Hd O w w S []) :
    Calls Tryd.prog 88 ([.int .i64 p0] : List Value).toArray w fun e w' => e = .returned (.int .i64 r) ∧ Hd O w w' S [] := by
  unfold F_ref1_syncOf at hF
  refine calls_of_WP 7 Tryd.func88 rfl rfl rfl ?_
  refine WP_seq_k fun K1 hK1 => ?_
  refine WP_region ?_
  refine RL_do rfl rfl (Do_assign (v := .int .i64 0) rfl) ?_
  refine (RL_nil (thenQ_n (hK1 _ _ ?_)))
  refine WP_seq_k fun K2 hK2 => ?_
  refine WP_region ?_
  refine RL_do rfl rfl (Do_build (cs := (Fl.arr 4 (Fl.int .i64)).f (⟨[583, 1464, 2631, 3512], rfl⟩ : Arr 4 Int)) (bt128_0_1_2_3 _ _ _ _)) ?_
  refine RL_do rfl rfl (Do_move (v := .int .i64 p0) rfl) ?_
  obtain ⟨x3, e4, hF⟩ := bindO_some hF
  refine RL_do rfl rfl (Do_rem' (j := p0) (q := 4) rfl rfl e4) ?_
  obtain ⟨x5, e6, hF⟩ := bindO_some hF
  refine RL_do rfl rfl (Do_indexA1 (e := (Fl.int .i64)) (X := (⟨[583, 1464, 2631, 3512], rfl⟩ : Arr 4 Int)) u128 one3 sz3 rfl rfl rfl e6 rfl) ?_
  refine RL_do rfl rfl (Do_assign (v := .int .i64 x5) rfl) ?_
  refine (RL_nil (thenQ_n (hK2 _ _ ?_)))
  have hR := Option.some.inj hF
  subst hR
  refine (WP_ret (post1 (v1 := .int .i64 x5) rfl rfl ?_))
  exact ⟨rfl, H.pick [] (by decide)⟩
end Go.Proofs.YtafgmocdnjdmoaaDoor.L
namespace Go.Proofs.YtafgmocdnjdmoaaDoor.L
open Go.RowKit Go.OB Go.Lf
/- orangebox/orangeboxref1.Flaws -/
set_option maxHeartbeats 4000000 in
theorem F_ref1_Flaws_w (p0 : Arr 64 Int) (r : (List Flaw)) (hF : F_ref1_Flaws p0 = some r) (O S : List Nat) (w : World) (H : Hd O w w S []) :
    Calls Tryd.prog 55 ([.agg ((Fl.arr 64 (Fl.int .u16)).f p0).toArray] : List Value).toArray w fun e w' => ∃ u1, e = .returned (u1) ∧ Hd O w w' S [.own rFlaw u1 80 r] := by
  unfold F_ref1_Flaws at hF
  refine calls_of_WP 79 Tryd.func55 rfl rfl rfl ?_
  refine WP_seq_k fun K2 hK2 => ?_
  refine WP_region ?_
  refine RL_ex rfl rfl (Lx_box (cs := (Fl.arr 64 (Fl.int .u16)).f p0) rfl H) ?_
  rintro _ w5 ⟨b3, rfl, H⟩
  refine RL_do rfl rfl (Do_assign (v := .slice none 0 0) rfl) ?_
  refine (RL_nil (thenQ_n (hK2 _ _ ?_)))
  refine WP_seq_k fun K6 hK6 => ?_
  refine WP_region ?_
  refine RL_do rfl rfl (Do_assign (v := .slice none 0 0) rfl) ?_
  refine (RL_nil (thenQ_n (hK6 _ _ ?_)))
  obtain ⟨g78, hF, hK81⟩ := bindO_some hF
  refine WP_seqS [3, 4, 5, 7, 8, 9, 10, 11, 12, 13, 14, 15, 16, 17, 18, 19] (fun (g : Value) => [(3, g)]) (fun g wl => Hd O w wl S [.own rFlaw g 80 g78, .blk b3 ((Fl.arr 64 (Fl.int .u16)).f p0) 25]) ?_ ?_
  · skip
    refine WP_seq_k fun K82 hK82 => ?_
    refine WP_region ?_
    refine RL_do rfl rfl (Do_loadF (e := (Fl.arr 64 (Fl.int .u16))) (a := p0) agg25 rfl sz25 (Blk.cells (H.item (i := 0) rfl))) ?_
    refine RL_do rfl rfl (Do_move (v := .int .i64 0) rfl) ?_
    refine (RL_nil (thenQ_n (hK82 _ _ ?_)))
    refine WP_block ?_
    have H := own_nil H rFlaw 80
    unfold F_ref1_Flaws_L1 at hF
    obtain ⟨B150, n151, eB152, hF⟩ := loopO_some hF
    refine WP_loopS [3, 4, 5, 8, 9, 10, 11, 12, 13, 14, 15, 16, 17, 18, 19] (fun (g : Nat × (List Flaw) × Int × Value) => [(3, g.2.2.2), (8, .int .i64 g.2.2.1)]) (fun g wl => Hd O w wl S [.own rFlaw g.2.2.2 80 g.2.1, .blk b3 ((Fl.arr 64 (Fl.int .u16)).f p0) 25] ∧ loopN B150 g.1 (g.2.1, g.2.2.1) = some g78) (fun g => g.1) (n151, [], 0, .slice none 0 0) (Sl_cons rfl (Sl_cons rfl Sl_nil)) ⟨H.pick [1, 0] (by decide), hF⟩ ?_
    clear H hF
    rintro ⟨n151, g146, g148, v147⟩ ρ w154 ⟨H, hF⟩
    obtain ⟨n155, rfl, hF⟩ := loopN_pos hF
    have hF := loop_body eB152 hF
    refine WP_seq_k fun K156 hK156 => ?_
    refine WP_region ?_
    obtain ⟨x157, e158, hF⟩ := letO_some hF
    refine RL_do rfl rfl (Do_as (Do_lss (a := g148) (b := 64) rfl rfl) (congrArg Value.bool e158)) ?_
    refine (RL_nil (thenQ_n (hK156 _ _ ?_)))
    refine WP_seq_k fun K160 hK160 => ?_
    refine WP_ifb (b := x157) rfl (fun c161 => ?_) (fun c161 => ?_)
    · have hF := iteB_t c161 hF
      refine (WP_skip (thenQ_n (hK160 _ _ ?_)))
      obtain ⟨g178, hF, hK181⟩ := bindO_some hF
      refine WP_seqS [3, 4, 5, 10, 11, 12, 13, 14, 15, 16, 17, 18] (fun (g : Value) => [(3, g)]) (fun g wl => Hd O w wl S [.own rFlaw g 80 g178, .blk b3 ((Fl.arr 64 (Fl.int .u16)).f p0) 25]) ?_ ?_
      · skip
        refine WP_block ?_
        refine WP_seq_k fun K182 hK182 => ?_
        refine WP_region ?_
        refine RL_do rfl rfl (Do_move (v := .int .i64 g148) rfl) ?_
        obtain ⟨x183, e184, hF⟩ := bindO_some hF
        refine RL_do rfl rfl (Do_indexA1 (e := (Fl.int .u16)) (X := p0) u25 one23 sz23 rfl rfl rfl e184 rfl) ?_
        refine RL_do rfl rfl (Do_assign (v := .int .i64 g148) rfl) ?_
        refine RL_do rfl rfl (Do_assign (v := .int .u16 x183) rfl) ?_
        refine (RL_nil (thenQ_n (hK182 _ _ ?_)))
        refine WP_seq_k fun K185 hK185 => ?_
        refine WP_region ?_
        refine RL_do rfl rfl (Do_move (v := .int .u16 x183) rfl) ?_
        obtain ⟨x186, e187, hF⟩ := letO_some hF
        refine RL_do rfl rfl (Do_as (Do_gtr (a := x183) (b := 4095) rfl rfl) (congrArg Value.bool e187)) ?_
        refine (RL_nil (thenQ_n (hK185 _ _ ?_)))
        refine WP_ifb (b := x186) rfl (fun c188 => ?_) (fun c188 => ?_)
        · have hF := iteB_t c188 hF
          refine WP_region ?_
          refine RL_do rfl rfl (Do_move (v := v147) rfl) ?_
          refine RL_do rfl rfl (Do_move (v := .int .i64 g148) rfl) ?_
          refine RL_do rfl rfl (Do_build (cs := [.int .i64 g148, .int .i64 5]) (bt80_0_1 _ _)) ?_
          obtain ⟨x189, e190, hF⟩ := letO_some hF
          subst e190
          refine RL_ex rfl rfl (Lx_bs (r := rFlaw) (xl := [Flaw.mk g148 5]) (cs := [.int .i64 g148, .int .i64 5]) u50 el80 (by decide) (by decide) rfl (fillB_parts (vs := [.agg [.int .i64 g148, .int .i64 5].toArray]) (by decide) rfl rfl ⟨rfl, trivial⟩ rfl) H ⟨[.int .i64 g148, .int .i64 5], [], rfl, (rFlaw_mk (x := Flaw.mk g148 5)), rfl⟩) ?_
          rintro v192 w193 H
          obtain ⟨x194, e195, hF⟩ := bindO_some hF
          refine RL_ex rfl rfl (Lx_app H (i := 0) rfl u50 el80 rfl rfl (Sr.of_own (H.item (i := 2) rfl)) e195) ?_
          rintro v196 w197 H
          refine RL_do rfl rfl (Do_assign (v := v196) rfl) ?_
          have hR := Option.some.inj hF
          subst hR
          refine (RL_nil (blockQ_n (thenQ_n (And.intro ?_ ?_))))
          · repeat' (first | with_reducible exact Fr_refl | refine Fr_upd rfl ?_ | refine Fr_over rfl rfl ?_)
          · exact ⟨v196, (Sl_cons rfl Sl_nil), H.pick [0, 1] (by decide)⟩
        · have hF := iteB_f c188 hF
          have hR := Option.some.inj hF
          subst hR
          refine (WP_skip (blockQ_n (thenQ_n (And.intro ?_ ?_))))
          · repeat' (first | with_reducible exact Fr_refl | refine Fr_upd rfl ?_ | refine Fr_over rfl rfl ?_)
          · exact ⟨v147, (Sl_cons rfl Sl_nil), H.pick [0, 1] (by decide)⟩
      · rintro v179 ρ w180 H
        have hF := hK181
        refine WP_region ?_
        obtain ⟨x198, e199, hF⟩ := letO_some hF
        refine RL_do rfl rfl (Do_add (a := g148) (b := 1) rfl rfl e199) ?_
        refine RL_do rfl rfl (Do_move (v := .int .i64 x198) rfl) ?_
        refine (RL_nil (thenQ_n (And.intro ?_ ?_)))
        · repeat' (first | with_reducible exact Fr_refl | refine Fr_upd rfl ?_ | refine Fr_over rfl rfl ?_)
        · exact ⟨(n155, g178, x198, v179), (Sl_cons rfl (Sl_cons rfl Sl_nil)), ⟨H.pick [0, 1] (by decide), hF⟩, Nat.lt_succ_self _⟩
    · have hF := iteB_f c161 hF
      have hR := Option.some.inj hF
      subst hR
      refine (WP_exit (thenQ_x (thenQ_x (blockQ_eq (thenQ_n (And.intro ?_ ?_))))))
      · repeat' (first | with_reducible exact Fr_refl | refine Fr_upd rfl ?_ | refine Fr_over rfl rfl ?_)
      · exact ⟨v147, (Sl_cons rfl Sl_nil), H.pick [0, 1] (by decide)⟩
  · rintro v79 ρ w80 H
    have hF := hK81
    refine WP_seq_k fun K210 hK210 => ?_
    refine WP_seq_k fun K211 hK211 => ?_
    refine WP_region ?_
    refine RL_do rfl rfl (Do_move (v := v79) rfl) ?_
    obtain ⟨x212, e213, hF⟩ := letO_some hF
    obtain ⟨a214, c215, q216⟩ := Sr.len (Sr.of_own (H.item (i := 0) rfl))
    refine RL_do rfl rfl (Do_as (Do_len u50 q216) (congrArg (Value.int .i64) e213)) ?_
    obtain ⟨x217, e218, hF⟩ := letO_some hF
    refine RL_do rfl rfl (Do_as (Do_gtr (a := x212) (b := 0) rfl rfl) (congrArg Value.bool e218)) ?_
    refine (RL_nil (thenQ_n (hK211 _ _ ?_)))
    refine WP_ifb (b := x217) rfl (fun c219 => ?_) (fun c219 => ?_)
    · have hF := iteB_t c219 hF
      refine WP_seq_k fun K220 hK220 => ?_
      refine WP_region ?_
      refine RL_do rfl rfl (Do_move (v := v79) rfl) ?_
      refine RL_do rfl rfl (Do_assign (v := v79) rfl) ?_
      refine (RL_nil (thenQ_n (hK220 _ _ ?_)))
      have hR := Option.some.inj hF
      subst hR
      refine (WP_ret (thenQ_r (post1 (v1 := v79) rfl rfl ?_)))
      exact ⟨v79, rfl, H.pick [0] (by decide)⟩
    · have hF := iteB_f c219 hF
      refine (WP_skip (thenQ_n (hK210 _ _ ?_)))
      obtain ⟨g247, hF, hK250⟩ := bindO_some hF
      refine WP_seqS [3, 24, 25, 26, 27, 28, 29, 30, 31, 32, 33, 34] (fun (g : Value) => [(3, g)]) (fun g wl => Hd O w wl S [.own rFlaw g 80 g247, .blk b3 ((Fl.arr 64 (Fl.int .u16)).f p0) 25]) ?_ ?_
      · skip
        refine WP_seq_k fun K251 hK251 => ?_
        have H252 := H
        have H := H.rebase
        have H253 := H
        refine WP_mix0 H [0, 1, 2, 3, 4, 5, 6] [.pure, .read, .pure, .read, .fcall, .fcall, .pure] mixed (by kernel_rfl) (by kernel_rfl) (by kernel_rfl) rfl ?_
        obtain ⟨x254, e255, hF⟩ := bindO_some hF
        refine Mx.XL_pure rfl rfl rfl (fun w' hw' => Do_idxA (X := p0) u25 sz23 rfl rfl e255) ?_
        refine Mx.XL_read oS rfl rfl rfl (fun w' hw' => Do_load1 (v := .int .u16 x254) one23 rfl (Cells.ix (e := (Fl.int .u16)) (x := p0) (Blk.cells ((H.sees hw').item (i := 1) rfl)) e255)) ?_
        obtain ⟨x256, e257, hF⟩ := letO_some hF
        refine Mx.XL_pure rfl rfl rfl (fun w' hw' => Do_conv u23 u3 rfl e257) ?_
        refine Mx.XL_read oS rfl rfl rfl (fun w' hw' => Do_loadF (e := (Fl.arr 64 (Fl.int .u16))) (a := p0) agg25 rfl sz25 (Blk.cells ((H.sees hw').item (i := 1) rfl))) ?_
        have H258 := H
        obtain ⟨x259, e260, hF⟩ := bindO_some hF
        refine Mx.XL_fcall oS rfl rfl rfl (v := .int .i64 x259) (fun w' hw' => DoC_func en101 rfl) (fun w' hw' => call_read (F_ref1_numberOf_w p0 _ e260 _ _ _ (Hd.fresh0 w'))) ?_
        have H := H258
        have H261 := H
        obtain ⟨x262, e263, hF⟩ := bindO_some hF
        refine Mx.XL_fcall oS rfl rfl rfl (v := .int .i64 x262) (fun w' hw' => DoC_func en88 rfl) (fun w' hw' => call_read (F_ref1_syncOf_w x259 _ e263 _ _ _ (Hd.fresh0 w'))) ?_
        have H := H261
        obtain ⟨x264, e265, hF⟩ := letO_some hF
        refine Mx.XL_pure rfl rfl rfl (fun w' hw' => Do_as (Do_neq (a := x256) (b := x262) rfl rfl) (congrArg Value.bool e265)) ?_
        refine Mx.XL_nil fun w266 hS => ?_
        have H := H.sees hS
        have H := H252.rejoin H
        refine (thenQ_n (hK251 _ _ ?_))
        refine WP_ifb (b := x264) rfl (fun c267 => ?_) (fun c267 => ?_)
        · have hF := iteB_t c267 hF
          refine WP_region ?_
          refine RL_do rfl rfl (Do_move (v := v79) rfl) ?_
          refine RL_do rfl rfl (Do_build (cs := [.int .i64 0, .int .i64 1]) (bt80_0_1 _ _)) ?_
          obtain ⟨x268, e269, hF⟩ := letO_some hF
          subst e269
          refine RL_ex rfl rfl (Lx_bs (r := rFlaw) (xl := [Flaw.mk 0 1]) (cs := [.int .i64 0, .int .i64 1]) u50 el80 (by decide) (by decide) rfl (fillB_parts (vs := [.agg [.int .i64 0, .int .i64 1].toArray]) (by decide) rfl rfl ⟨rfl, trivial⟩ rfl) H ⟨[.int .i64 0, .int .i64 1], [], rfl, (rFlaw_mk (x := Flaw.mk 0 1)), rfl⟩) ?_
          rintro v271 w272 H
          obtain ⟨x273, e274, hF⟩ := bindO_some hF
          refine RL_ex rfl rfl (Lx_app H (i := 0) rfl u50 el80 rfl rfl (Sr.of_own (H.item (i := 2) rfl)) e274) ?_
          rintro v275 w276 H
          refine RL_do rfl rfl (Do_assign (v := v275) rfl) ?_
          have hR := Option.some.inj hF
          subst hR
          refine (RL_nil (thenQ_n (And.intro ?_ ?_)))
          · repeat' (first | with_reducible exact Fr_refl | refine Fr_upd rfl ?_ | refine Fr_over rfl rfl ?_)
          · exact ⟨v275, (Sl_cons rfl Sl_nil), H.pick [0, 1] (by decide)⟩
        · have hF := iteB_f c267 hF
          have hR := Option.some.inj hF
          subst hR
          refine (WP_skip (thenQ_n (And.intro ?_ ?_)))
          · repeat' (first | with_reducible exact Fr_refl | refine Fr_upd rfl ?_ | refine Fr_over rfl rfl ?_)
          · exact ⟨v79, (Sl_cons rfl Sl_nil), H.pick [0, 1] (by decide)⟩
      · rintro v248 ρ w249 H
        have hF := hK250
        obtain ⟨g361, hF, hK364⟩ := bindO_some hF
        refine WP_seqS [3, 6, 35, 36, 37, 38, 39, 40, 41, 42, 43, 44, 45, 46, 47, 48, 49] (fun (g : Value) => [(3, g)]) (fun g wl => Hd O w wl S [.own rFlaw g 80 g361, .blk b3 ((Fl.arr 64 (Fl.int .u16)).f p0) 25]) ?_ ?_
        · skip
          refine WP_seq_k fun K365 hK365 => ?_
          refine WP_region ?_
          refine RL_do rfl rfl (Do_assign (v := .int .i64 1) rfl) ?_
          refine (RL_nil (thenQ_n (hK365 _ _ ?_)))
          refine WP_block ?_
          unfold F_ref1_Flaws_L2 at hF
          obtain ⟨B446, n447, eB448, hF⟩ := loopO_some hF
          refine WP_loopS [3, 6, 35, 36, 37, 38, 39, 40, 41, 42, 43, 44, 45, 46, 47, 48, 49] (fun (g : Nat × (List Flaw) × Int × Value) => [(3, g.2.2.2), (6, .int .i64 g.2.2.1)]) (fun g wl => Hd O w wl S [.own rFlaw g.2.2.2 80 g.2.1, .blk b3 ((Fl.arr 64 (Fl.int .u16)).f p0) 25] ∧ loopN B446 g.1 (g.2.1, g.2.2.1) = some g361) (fun g => g.1) (n447, g247, 1, v248) (Sl_cons rfl (Sl_cons rfl Sl_nil)) ⟨H.pick [0, 1] (by decide), hF⟩ ?_
          clear H hF
          rintro ⟨n447, g443, g445, v444⟩ ρ w450 ⟨H, hF⟩
          obtain ⟨n451, rfl, hF⟩ := loopN_pos hF
          have hF := loop_body eB448 hF
          refine WP_seq_k fun K456 hK456 => ?_
          refine WP_seq_k fun K457 hK457 => ?_
          refine WP_region ?_
          refine RL_do rfl rfl (Do_move (v := .int .i64 g445) rfl) ?_
          obtain ⟨x458, e459, hF⟩ := letO_some hF
          refine RL_do rfl rfl (Do_as (Do_lss (a := g445) (b := 64) rfl rfl) (congrArg Value.bool e459)) ?_
          refine (RL_nil (thenQ_n (hK457 _ _ ?_)))
          refine WP_ifb (b := x458) rfl (fun c460 => ?_) (fun c460 => ?_)
          · have hF := iteB_t c460 hF
            refine (WP_skip (thenQ_n (hK456 _ _ ?_)))
            obtain ⟨g483, hF, hK486⟩ := bindO_some hF
            refine WP_seqS [3, 39, 40, 41, 42, 43, 44, 45, 46, 47, 48, 49] (fun (g : Value) => [(3, g)]) (fun g wl => Hd O w wl S [.own rFlaw g 80 g483, .blk b3 ((Fl.arr 64 (Fl.int .u16)).f p0) 25]) ?_ ?_
            · skip
              refine WP_block ?_
              refine WP_seq_k fun K487 hK487 => ?_
              refine WP_region ?_
              refine RL_do rfl rfl (Do_move (v := .int .i64 g445) rfl) ?_
              obtain ⟨x488, e489, hF⟩ := bindO_some hF
              refine RL_do rfl rfl (Do_idxA (X := p0) u25 sz23 rfl rfl e489) ?_
              refine RL_do rfl rfl (Do_load1 (v := .int .u16 x488) one23 rfl (Cells.ix (e := (Fl.int .u16)) (x := p0) (Blk.cells (H.item (i := 1) rfl)) e489)) ?_
              obtain ⟨x490, e491, hF⟩ := letO_some hF
              refine RL_do rfl rfl (Do_conv u23 u3 rfl e491) ?_
              have H492 := H
              obtain ⟨x493, e494, hF⟩ := bindO_some hF
              refine RL_call rfl rfl (DoC_func en87 rfl) (X_odd_w x490 _ e494 _ _ _ (H.enter [] [] (by decide) rfl)) ?_
              rintro _ w495 ⟨rfl, G496⟩
              have H := H492.step (G496.only : Only [] _ _)
              refine ⟨_, rfl, ?_⟩
              obtain ⟨x497, e498, hF⟩ := letO_some hF
              refine RL_do rfl rfl (Do_as (Do_not (p := x493) rfl) (congrArg Value.bool e498)) ?_
              refine (RL_nil (thenQ_n (hK487 _ _ ?_)))
              refine WP_ifb (b := x497) rfl (fun c499 => ?_) (fun c499 => ?_)
              · have hF := iteB_t c499 hF
                refine WP_region ?_
                refine RL_do rfl rfl (Do_move (v := v444) rfl) ?_
                refine RL_do rfl rfl (Do_move (v := .int .i64 g445) rfl) ?_
                refine RL_do rfl rfl (Do_build (cs := [.int .i64 g445, .int .i64 2]) (bt80_0_1 _ _)) ?_
                obtain ⟨x500, e501, hF⟩ := letO_some hF
                subst e501
                refine RL_ex rfl rfl (Lx_bs (r := rFlaw) (xl := [Flaw.mk g445 2]) (cs := [.int .i64 g445, .int .i64 2]) u50 el80 (by decide) (by decide) rfl (fillB_parts (vs := [.agg [.int .i64 g445, .int .i64 2].toArray]) (by decide) rfl rfl ⟨rfl, trivial⟩ rfl) H ⟨[.int .i64 g445, .int .i64 2], [], rfl, (rFlaw_mk (x := Flaw.mk g445 2)), rfl⟩) ?_
                rintro v503 w504 H
                obtain ⟨x505, e506, hF⟩ := bindO_some hF
                refine RL_ex rfl rfl (Lx_app H (i := 0) rfl u50 el80 rfl rfl (Sr.of_own (H.item (i := 2) rfl)) e506) ?_
                rintro v507 w508 H
                refine RL_do rfl rfl (Do_assign (v := v507) rfl) ?_
                have hR := Option.some.inj hF
                subst hR
                refine (RL_nil (blockQ_n (thenQ_n (And.intro ?_ ?_))))
                · repeat' (first | with_reducible exact Fr_refl | refine Fr_upd rfl ?_ | refine Fr_over rfl rfl ?_)
                · exact ⟨v507, (Sl_cons rfl Sl_nil), H.pick [0, 1] (by decide)⟩
              · have hF := iteB_f c499 hF
                have hR := Option.some.inj hF
                subst hR
                refine (WP_skip (blockQ_n (thenQ_n (And.intro ?_ ?_))))
                · repeat' (first | with_reducible exact Fr_refl | refine Fr_upd rfl ?_ | refine Fr_over rfl rfl ?_)
                · exact ⟨v444, (Sl_cons rfl Sl_nil), H.pick [0, 1] (by decide)⟩
            · rintro v484 ρ w485 H
              have hF := hK486
              refine WP_region ?_
              refine RL_do rfl rfl (Do_move (v := .int .i64 g445) rfl) ?_
              obtain ⟨x509, e510, hF⟩ := letO_some hF
              refine RL_do rfl rfl (Do_add (a := g445) (b := 1) rfl rfl e510) ?_
              refine RL_do rfl rfl (Do_assign (v := .int .i64 x509) rfl) ?_
              refine (RL_nil (thenQ_n (And.intro ?_ ?_)))
              · repeat' (first | with_reducible exact Fr_refl | refine Fr_upd rfl ?_ | refine Fr_over rfl rfl ?_)
              · exact ⟨(n451, g483, x509, v484), (Sl_cons rfl (Sl_cons rfl Sl_nil)), ⟨H.pick [0, 1] (by decide), hF⟩, Nat.lt_succ_self _⟩
          · have hF := iteB_f c460 hF
            have hR := Option.some.inj hF
            subst hR
            refine (WP_exit (thenQ_x (thenQ_x (blockQ_eq (thenQ_n (And.intro ?_ ?_))))))
            · repeat' (first | with_reducible exact Fr_refl | refine Fr_upd rfl ?_ | refine Fr_over rfl rfl ?_)
            · exact ⟨v444, (Sl_cons rfl Sl_nil), H.pick [0, 1] (by decide)⟩
        · rintro v362 ρ w363 H
          have hF := hK364
          obtain ⟨g536, hF, hK539⟩ := bindO_some hF
          refine WP_seqS [3, 50, 51, 52, 53, 54, 55, 56, 57, 58, 59, 60] (fun (g : Value) => [(3, g)]) (fun g wl => Hd O w wl S [.own rFlaw g 80 g536, .blk b3 ((Fl.arr 64 (Fl.int .u16)).f p0) 25]) ?_ ?_
          · skip
            refine WP_seq_k fun K540 hK540 => ?_
            have H541 := H
            have H := H.rebase
            have H542 := H
            refine WP_mix0 H [0, 1, 2, 3, 4, 5, 6] [.pure, .read, .pure, .pure, .read, .fcall, .pure] mixed (by kernel_rfl) (by kernel_rfl) (by kernel_rfl) rfl ?_
            obtain ⟨x543, e544, hF⟩ := bindO_some hF
            refine Mx.XL_pure rfl rfl rfl (fun w' hw' => Do_idxA (X := p0) u25 sz23 rfl rfl e544) ?_
            refine Mx.XL_read oS rfl rfl rfl (fun w' hw' => Do_load1 (v := .int .u16 x543) one23 rfl (Cells.ix (e := (Fl.int .u16)) (x := p0) (Blk.cells ((H.sees hw').item (i := 1) rfl)) e544)) ?_
            obtain ⟨x545, e546, hF⟩ := letO_some hF
            refine Mx.XL_pure rfl rfl rfl (fun w' hw' => Do_conv u23 u3 rfl e546) ?_
            obtain ⟨x547, e548, hF⟩ := bindO_some hF
            refine Mx.XL_pure rfl rfl rfl (fun w' hw' => Do_rem' (j := x545) (q := 2048) rfl rfl e548) ?_
            refine Mx.XL_read oS rfl rfl rfl (fun w' hw' => Do_loadF (e := (Fl.arr 64 (Fl.int .u16))) (a := p0) agg25 rfl sz25 (Blk.cells ((H.sees hw').item (i := 1) rfl))) ?_
            have H549 := H
            obtain ⟨x550, e551, hF⟩ := bindO_some hF
            refine Mx.XL_fcall oS rfl rfl rfl (v := .int .i64 x550) (fun w' hw' => DoC_func en102 rfl) (fun w' hw' => call_read (X_sum_w p0 _ e551 _ _ _ (Hd.fresh0 w'))) ?_
            have H := H549
            obtain ⟨x552, e553, hF⟩ := letO_some hF
            refine Mx.XL_pure rfl rfl rfl (fun w' hw' => Do_as (Do_neq (a := x547) (b := x550) rfl rfl) (congrArg Value.bool e553)) ?_
            refine Mx.XL_nil fun w554 hS => ?_
            have H := H.sees hS
            have H := H541.rejoin H
            refine (thenQ_n (hK540 _ _ ?_))
            refine WP_ifb (b := x552) rfl (fun c555 => ?_) (fun c555 => ?_)
            · have hF := iteB_t c555 hF
              refine WP_region ?_
              refine RL_do rfl rfl (Do_move (v := v362) rfl) ?_
              refine RL_do rfl rfl (Do_build (cs := [.int .i64 61, .int .i64 3]) (bt80_0_1 _ _)) ?_
              obtain ⟨x556, e557, hF⟩ := letO_some hF
              subst e557
              refine RL_ex rfl rfl (Lx_bs (r := rFlaw) (xl := [Flaw.mk 61 3]) (cs := [.int .i64 61, .int .i64 3]) u50 el80 (by decide) (by decide) rfl (fillB_parts (vs := [.agg [.int .i64 61, .int .i64 3].toArray]) (by decide) rfl rfl ⟨rfl, trivial⟩ rfl) H ⟨[.int .i64 61, .int .i64 3], [], rfl, (rFlaw_mk (x := Flaw.mk 61 3)), rfl⟩) ?_
              rintro v559 w560 H
              obtain ⟨x561, e562, hF⟩ := bindO_some hF
              refine RL_ex rfl rfl (Lx_app H (i := 0) rfl u50 el80 rfl rfl (Sr.of_own (H.item (i := 2) rfl)) e562) ?_
              rintro v563 w564 H
              refine RL_do rfl rfl (Do_assign (v := v563) rfl) ?_
              have hR := Option.some.inj hF
              subst hR
              refine (RL_nil (thenQ_n (And.intro ?_ ?_)))
              · repeat' (first | with_reducible exact Fr_refl | refine Fr_upd rfl ?_ | refine Fr_over rfl rfl ?_)
              · exact ⟨v563, (Sl_cons rfl Sl_nil), H.pick [0, 1] (by decide)⟩
            · have hF := iteB_f c555 hF
              have hR := Option.some.inj hF
              subst hR
              refine (WP_skip (thenQ_n (And.intro ?_ ?_)))
              · repeat' (first | with_reducible exact Fr_refl | refine Fr_upd rfl ?_ | refine Fr_over rfl rfl ?_)
              · exact ⟨v362, (Sl_cons rfl Sl_nil), H.pick [0, 1] (by decide)⟩
          · rintro v537 ρ w538 H
            have hF := hK539
            obtain ⟨g600, hF, hK603⟩ := bindO_some hF
            refine WP_seqS [3, 61, 62, 63, 64, 65, 66, 67, 68, 69, 70, 71, 72, 73, 74, 75, 76, 77] (fun (g : Value) => [(3, g)]) (fun g wl => Hd O w wl S [.own rFlaw g 80 g600]) ?_ ?_
            · skip
              refine WP_seq_k fun K604 hK604 => ?_
              have H605 := H
              have H := H.rebase
              have H606 := H
              refine WP_mix0 H [0, 1, 2, 3, 4, 5, 6, 7, 8, 9, 10, 11, 12] [.pure, .read, .pure, .pure, .pure, .pure, .read, .pure, .pure, .pure, .read, .fcall, .pure] mixed (by kernel_rfl) (by kernel_rfl) (by kernel_rfl) rfl ?_
              obtain ⟨x607, e608, hF⟩ := bindO_some hF
              refine Mx.XL_pure rfl rfl rfl (fun w' hw' => Do_idxA (X := p0) u25 sz23 rfl rfl e608) ?_
              refine Mx.XL_read oS rfl rfl rfl (fun w' hw' => Do_load1 (v := .int .u16 x607) one23 rfl (Cells.ix (e := (Fl.int .u16)) (x := p0) (Blk.cells ((H.sees hw').item (i := 1) rfl)) e608)) ?_
              obtain ⟨x609, e610, hF⟩ := letO_some hF
              refine Mx.XL_pure rfl rfl rfl (fun w' hw' => Do_conv u23 u3 rfl e610) ?_
              obtain ⟨x611, e612, hF⟩ := bindO_some hF
              refine Mx.XL_pure rfl rfl rfl (fun w' hw' => Do_rem' (j := x609) (q := 2048) rfl rfl e612) ?_
              obtain ⟨x613, e614, hF⟩ := letO_some hF
              refine Mx.XL_pure rfl rfl rfl (fun w' hw' => Do_mul (a := x611) (b := 2048) rfl rfl e614) ?_
              obtain ⟨x615, e616, hF⟩ := bindO_some hF
              refine Mx.XL_pure rfl rfl rfl (fun w' hw' => Do_idxA (X := p0) u25 sz23 rfl rfl e616) ?_
              refine Mx.XL_read oS rfl rfl rfl (fun w' hw' => Do_load1 (v := .int .u16 x615) one23 rfl (Cells.ix (e := (Fl.int .u16)) (x := p0) (Blk.cells ((H.sees hw').item (i := 1) rfl)) e616)) ?_
              obtain ⟨x617, e618, hF⟩ := letO_some hF
              refine Mx.XL_pure rfl rfl rfl (fun w' hw' => Do_conv u23 u3 rfl e618) ?_
              obtain ⟨x619, e620, hF⟩ := bindO_some hF
              refine Mx.XL_pure rfl rfl rfl (fun w' hw' => Do_rem' (j := x617) (q := 2048) rfl rfl e620) ?_
              obtain ⟨x621, e622, hF⟩ := letO_some hF
              refine Mx.XL_pure rfl rfl rfl (fun w' hw' => Do_add (a := x613) (b := x619) rfl rfl e622) ?_
              refine Mx.XL_read oS rfl rfl rfl (fun w' hw' => Do_loadF (e := (Fl.arr 64 (Fl.int .u16))) (a := p0) agg25 rfl sz25 (Blk.cells ((H.sees hw').item (i := 1) rfl))) ?_
              have H623 := H
              obtain ⟨x624, e625, hF⟩ := bindO_some hF
              refine Mx.XL_fcall oS rfl rfl rfl (v := .int .i64 x624) (fun w' hw' => DoC_func en103 rfl) (fun w' hw' => call_read (X_check_w p0 _ e625 _ _ _ (Hd.fresh0 w'))) ?_
              have H := H623
              obtain ⟨x626, e627, hF⟩ := letO_some hF
              refine Mx.XL_pure rfl rfl rfl (fun w' hw' => Do_as (Do_neq (a := x621) (b := x624) rfl rfl) (congrArg Value.bool e627)) ?_
              refine Mx.XL_nil fun w628 hS => ?_
              have H := H.sees hS
              have H := H605.rejoin H
              refine (thenQ_n (hK604 _ _ ?_))
              refine WP_ifb (b := x626) rfl (fun c629 => ?_) (fun c629 => ?_)
              · have hF := iteB_t c629 hF
                refine WP_region ?_
                refine RL_do rfl rfl (Do_move (v := v537) rfl) ?_
                refine RL_do rfl rfl (Do_build (cs := [.int .i64 62, .int .i64 4]) (bt80_0_1 _ _)) ?_
                obtain ⟨x630, e631, hF⟩ := letO_some hF
                subst e631
                refine RL_ex rfl rfl (Lx_bs (r := rFlaw) (xl := [Flaw.mk 62 4]) (cs := [.int .i64 62, .int .i64 4]) u50 el80 (by decide) (by decide) rfl (fillB_parts (vs := [.agg [.int .i64 62, .int .i64 4].toArray]) (by decide) rfl rfl ⟨rfl, trivial⟩ rfl) H ⟨[.int .i64 62, .int .i64 4], [], rfl, (rFlaw_mk (x := Flaw.mk 62 4)), rfl⟩) ?_
                rintro v633 w634 H
                obtain ⟨x635, e636, hF⟩ := bindO_some hF
                refine RL_ex rfl rfl (Lx_app H (i := 0) rfl u50 el80 rfl rfl (Sr.of_own (H.item (i := 2) rfl)) e636) ?_
                rintro v637 w638 H
                refine RL_do rfl rfl (Do_assign (v := v637) rfl) ?_
                have hR := Option.some.inj hF
                subst hR
                refine (RL_nil (thenQ_n (And.intro ?_ ?_)))
                · repeat' (first | with_reducible exact Fr_refl | refine Fr_upd rfl ?_ | refine Fr_over rfl rfl ?_)
                · exact ⟨v637, (Sl_cons rfl Sl_nil), H.pick [0] (by decide)⟩
              · have hF := iteB_f c629 hF
                have hR := Option.some.inj hF
                subst hR
                refine (WP_skip (thenQ_n (And.intro ?_ ?_)))
                · repeat' (first | with_reducible exact Fr_refl | refine Fr_upd rfl ?_ | refine Fr_over rfl rfl ?_)
                · exact ⟨v537, (Sl_cons rfl Sl_nil), H.pick [0] (by decide)⟩
            · rintro v601 ρ w602 H
              have hF := hK603
              refine WP_seq_k fun K639 hK639 => ?_
              refine WP_region ?_
              refine RL_do rfl rfl (Do_move (v := v601) rfl) ?_
              refine RL_do rfl rfl (Do_assign (v := v601) rfl) ?_
              refine (RL_nil (thenQ_n (hK639 _ _ ?_)))
              have hR := Option.some.inj hF
              subst hR
              refine (WP_ret (post1 (v1 := v601) rfl rfl ?_))
              exact ⟨v601, rfl, H.pick [0] (by decide)⟩
end Go.Proofs.YtafgmocdnjdmoaaDoor.L
