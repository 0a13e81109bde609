/- Walks: what each function computes, for every argument; no condition but those that stand in the statements. -/
import Derived.Test.YtafgmocdnjdmoaaDoorAV0
namespace Go.Proofs.YtafgmocdnjdmoaaDoor.L
open Go.RowKit Go.OB Go.Lf
/- orangebox/frame.Mend -/
set_option maxHeartbeats 4000000 in
theorem F_frame_Mend_w (p0 : Arr 64 Int) (r : (Arr 64 Int) × (List Int) × Bool) (hF : F_frame_Mend p0 = some r) (O S : List Nat) (w : World) (H : Hd O w w S [.fz (.at 0 0 ((Fl.arr 4 (Fl.int .u16)).f G_frame_syncs))]) :
    Calls Tryd.prog 44 ([.agg ((Fl.arr 64 (Fl.int .u16)).f p0).toArray] : List Value).toArray w fun e w' => ∃ u2, e = .returned (.tuple #[.agg ((Fl.arr 64 (Fl.int .u16)).f r.1).toArray, u2, .bool r.2.2]) ∧ Hd O w w' S [.own (Rp.int .i64) u2 3 r.2.1] := by
  unfold F_frame_Mend at hF
  refine calls_of_WP 32 Tryd.func44 rfl rfl rfl ?_
  refine WP_seq_k fun K3 hK3 => ?_
  refine WP_region ?_
  refine RL_ex rfl rfl (Lx_box (cs := (Fl.arr 64 (Fl.int .u16)).f p0) rfl H) ?_
  rintro _ w6 ⟨b4, rfl, H⟩
  refine RL_ex rfl rfl (Lx_alloc zero25 H) ?_
  rintro _ w9 ⟨b7, rfl, H⟩
  refine RL_do rfl rfl (Do_assign (v := .slice none 0 0) rfl) ?_
  refine RL_do rfl rfl (Do_assign (v := .bool false) rfl) ?_
  refine (RL_nil (thenQ_n (hK3 _ _ ?_)))
  refine WP_seq_k fun K20 hK20 => ?_
  refine WP_seq_k fun K21 hK21 => ?_
  refine WP_region ?_
  have H22 := H
  have H := H.freezeB (i := 1) rfl
  have H := H.fz (.pt (Rp.fl (Fl.arr 64 (Fl.int .u16))) (some ⟨b4, 0, none⟩) (some p0)) ⟨_, _, _, rfl, (H.item (i := 1) rfl).1, (H.item (i := 1) rfl).2.1, rfl, (H.item (i := 1) rfl).2.2⟩
  obtain ⟨x24, e25, hF⟩ := bindO_some hF
  refine RL_call rfl rfl (DoC_func en96 rfl) (F_frame_sound_w (some p0) (some ⟨b4, 0, none⟩) _ e25 _ _ _ (H.enter [] [3, 0] (by decide) rfl)) ?_
  rintro _ w26 ⟨rfl, G27⟩
  have H := H22.step (G27.only : Only [] _ _)
  refine ⟨_, rfl, ?_⟩
  refine (RL_nil (thenQ_n (hK21 _ _ ?_)))
  refine WP_ifb (b := x24) rfl (fun c28 => ?_) (fun c28 => ?_)
  · have hF := iteB_t c28 hF
    refine WP_seq_k fun K29 hK29 => ?_
    refine WP_region ?_
    refine RL_do rfl rfl (Do_loadF (e := (Fl.arr 64 (Fl.int .u16))) (a := p0) agg25 rfl sz25 (Blk.cells (H.item (i := 1) rfl))) ?_
    refine RL_exU rfl (Lx_storeW (e := (Fl.arr 64 (Fl.int .u16))) (a := (Arr.rep 64 0 : Arr 64 Int)) (a' := p0) H 2 rfl sz25 rfl rfl) ?_
    rintro w30 H
    refine RL_do rfl rfl (Do_assign (v := .slice none 0 0) rfl) ?_
    refine RL_do rfl rfl (Do_assign (v := .bool true) rfl) ?_
    refine (RL_nil (thenQ_n (hK29 _ _ ?_)))
    have H := own_nil H (Rp.int .i64) 3
    have hR := Option.some.inj hF
    subst hR
    refine (WP_ret (thenQ_r (postc2 (v1 := .slice none 0 0) (v2 := .bool true) rfl rfl (run_loadVar_agg agg25 sz25 (Fl.len _ _) (Blk.cells (H.item (i := 2) rfl))) rfl rfl ?_)))
    exact ⟨.slice none 0 0, rfl, H.pick [3] (by decide)⟩
  · have hF := iteB_f c28 hF
    refine (WP_skip (thenQ_n (hK20 _ _ ?_)))
    refine WP_seq_k fun K42 hK42 => ?_
    refine WP_seq_k fun K43 hK43 => ?_
    refine WP_region ?_
    have H44 := H
    have H := H.freezeB (i := 1) rfl
    have H := H.fz (.pt (Rp.fl (Fl.arr 64 (Fl.int .u16))) (some ⟨b4, 0, none⟩) (some p0)) ⟨_, _, _, rfl, (H.item (i := 1) rfl).1, (H.item (i := 1) rfl).2.1, rfl, (H.item (i := 1) rfl).2.2⟩
    obtain ⟨x46, e47, hF⟩ := bindO_some hF
    refine RL_call rfl rfl (DoC_func en78 rfl) (F_frame_wide_w (some p0) (some ⟨b4, 0, none⟩) _ e47 _ _ _ (H.enter [] [3] (by decide) rfl)) ?_
    rintro _ w48 ⟨rfl, G49⟩
    have H := H44.step (G49.only : Only [] _ _)
    refine ⟨_, rfl, ?_⟩
    refine (RL_nil (thenQ_n (hK43 _ _ ?_)))
    refine WP_ifb (b := x46) rfl (fun c50 => ?_) (fun c50 => ?_)
    · have hF := iteB_t c50 hF
      refine WP_seq_k fun K51 hK51 => ?_
      refine WP_region ?_
      refine RL_do rfl rfl (Do_build (cs := (Fl.arr 64 (Fl.int .u16)).f (Arr.rep 64 0 : Arr 64 Int)) bz25) ?_
      refine RL_exU rfl (Lx_storeW (e := (Fl.arr 64 (Fl.int .u16))) (a := (Arr.rep 64 0 : Arr 64 Int)) (a' := (Arr.rep 64 0 : Arr 64 Int)) H 2 rfl sz25 rfl rfl) ?_
      rintro w52 H
      refine RL_do rfl rfl (Do_assign (v := .slice none 0 0) rfl) ?_
      refine RL_do rfl rfl (Do_assign (v := .bool false) rfl) ?_
      refine (RL_nil (thenQ_n (hK51 _ _ ?_)))
      have H := own_nil H (Rp.int .i64) 3
      have hR := Option.some.inj hF
      subst hR
      refine (WP_ret (thenQ_r (postc2 (v1 := .slice none 0 0) (v2 := .bool false) rfl rfl (run_loadVar_agg agg25 sz25 (Fl.len _ _) (Blk.cells (H.item (i := 2) rfl))) rfl rfl ?_)))
      exact ⟨.slice none 0 0, rfl, H.pick [3] (by decide)⟩
    · have hF := iteB_f c50 hF
      refine (WP_skip (thenQ_n (hK42 _ _ ?_)))
      refine WP_seq_k fun K54 hK54 => ?_
      refine WP_region ?_
      refine RL_ex rfl rfl (Lx_alloc zero25 H) ?_
      rintro _ w57 ⟨b55, rfl, H⟩
      refine (RL_nil (thenQ_n (hK54 _ _ ?_)))
      refine WP_seq_k fun K58 hK58 => ?_
      refine WP_region ?_
      refine RL_do rfl rfl (Do_assign (v := .slice none 0 0) rfl) ?_
      refine (RL_nil (thenQ_n (hK58 _ _ ?_)))
      obtain ⟨j168, hF, hK167⟩ := bindO_some hF
      refine WP_seqS [6, 7, 8, 13, 14, 15, 16, 17, 18, 19, 20, 21, 22, 23, 24, 25] (fun (g : Value) => [(6, g)]) (fun g wl => Hd O w wl S [.own (Rp.int .i64) g 3 j168.1, .fz (.at 0 0 ((Fl.arr 4 (Fl.int .u16)).f G_frame_syncs)), .blk b7 ((Fl.arr 64 (Fl.int .u16)).f (Arr.rep 64 0 : Arr 64 Int)) 25, .blk b55 ((Fl.arr 64 (Fl.int .u16)).f j168.2) 25]) ?_ ?_
      · skip
        refine WP_seq_k fun K169 hK169 => ?_
        refine WP_region ?_
        refine RL_do rfl rfl (Do_move (v := .int .i64 0) rfl) ?_
        refine (RL_nil (thenQ_n (hK169 _ _ ?_)))
        refine WP_block ?_
        have H := own_nil H (Rp.int .i64) 3
        unfold F_frame_Mend_L1 at hF
        obtain ⟨B271, n272, eB273, hF⟩ := loopO_some hF
        refine WP_loopS [6, 7, 8, 13, 14, 15, 16, 17, 18, 19, 20, 21, 22, 23, 24, 25] (fun (g : Nat × (List Int) × Int × (Arr 64 Int) × Value) => [(6, g.2.2.2.2), (13, .int .i64 g.2.2.1)]) (fun g wl => Hd O w wl S [.own (Rp.int .i64) g.2.2.2.2 3 g.2.1, .fz (.at 0 0 ((Fl.arr 4 (Fl.int .u16)).f G_frame_syncs)), .blk b4 ((Fl.arr 64 (Fl.int .u16)).f p0) 25, .blk b7 ((Fl.arr 64 (Fl.int .u16)).f (Arr.rep 64 0 : Arr 64 Int)) 25, .blk b55 ((Fl.arr 64 (Fl.int .u16)).f g.2.2.2.1) 25] ∧ loopN B271 g.1 (g.2.1, g.2.2.1, g.2.2.2.1) = some j168) (fun g => g.1) (n272, [], 0, (Arr.rep 64 0 : Arr 64 Int), .slice none 0 0) (Sl_cons rfl (Sl_cons rfl Sl_nil)) ⟨H.pick [4, 0, 1, 2, 3] (by decide), hF⟩ ?_
        clear H hF
        rintro ⟨n272, g266, g268, g269, v267⟩ ρ w275 ⟨H, hF⟩
        obtain ⟨n276, rfl, hF⟩ := loopN_pos hF
        have hF := loop_body eB273 hF
        refine WP_seq_k fun K277 hK277 => ?_
        refine WP_region ?_
        obtain ⟨x278, e279, hF⟩ := letO_some hF
        refine RL_do rfl rfl (Do_as (Do_lss (a := g268) (b := 64) rfl rfl) (congrArg Value.bool e279)) ?_
        refine (RL_nil (thenQ_n (hK277 _ _ ?_)))
        refine WP_seq_k fun K281 hK281 => ?_
        refine WP_ifb (b := x278) rfl (fun c282 => ?_) (fun c282 => ?_)
        · have hF := iteB_t c282 hF
          refine (WP_skip (thenQ_n (hK281 _ _ ?_)))
          obtain ⟨j318, hF, hK317⟩ := bindO_some hF
          refine WP_seqS [6, 7, 8, 15, 16, 17, 18, 19, 20, 21, 22, 23, 24] (fun (g : Value) => [(6, g)]) (fun g wl => Hd O w wl S [.own (Rp.int .i64) g 3 j318.1, .fz (.at 0 0 ((Fl.arr 4 (Fl.int .u16)).f G_frame_syncs)), .blk b4 ((Fl.arr 64 (Fl.int .u16)).f p0) 25, .blk b7 ((Fl.arr 64 (Fl.int .u16)).f (Arr.rep 64 0 : Arr 64 Int)) 25, .blk b55 ((Fl.arr 64 (Fl.int .u16)).f j318.2) 25]) ?_ ?_
          · skip
            refine WP_block ?_
            refine WP_seq_k fun K319 hK319 => ?_
            refine WP_region ?_
            refine RL_do rfl rfl (Do_move (v := .int .i64 g268) rfl) ?_
            refine RL_do rfl rfl (Do_assign (v := .int .i64 g268) rfl) ?_
            refine (RL_nil (thenQ_n (hK319 _ _ ?_)))
            refine WP_seq_k fun K320 hK320 => ?_
            refine WP_region ?_
            refine RL_do rfl rfl (Do_loadF (e := (Fl.arr 64 (Fl.int .u16))) (a := p0) agg25 rfl sz25 (Blk.cells (H.item (i := 2) rfl))) ?_
            refine RL_do rfl rfl (Do_move (v := .int .i64 g268) rfl) ?_
            have H321 := H
            obtain ⟨x322, e323, hF⟩ := bindO_some hF
            refine RL_call rfl rfl (DoC_func en97 rfl) (F_frame_replaced_w p0 g268 _ e323 _ _ _ (H.enter [] [1] (by decide) rfl)) ?_
            rintro _ w324 ⟨rfl, G325⟩
            have H := H321.step (G325.only : Only [] _ _)
            refine ⟨_, rfl, ?_⟩
            refine RL_ex rfl rfl (Lx_alloc zero25 H) ?_
            rintro _ w328 ⟨b326, rfl, H⟩
            refine RL_exU rfl (Lx_storeW (e := (Fl.arr 64 (Fl.int .u16))) (a := (Arr.rep 64 0 : Arr 64 Int)) (a' := x322) H 5 rfl sz25 rfl rfl) ?_
            rintro w329 H
            refine (RL_nil (thenQ_n (hK320 _ _ ?_)))
            refine WP_seq_k fun K330 hK330 => ?_
            refine WP_region ?_
            have H331 := H
            have H := H.freezeB (i := 5) rfl
            have H := H.fz (.pt (Rp.fl (Fl.arr 64 (Fl.int .u16))) (some ⟨b326, 0, none⟩) (some x322)) ⟨_, _, _, rfl, (H.item (i := 5) rfl).1, (H.item (i := 5) rfl).2.1, rfl, (H.item (i := 5) rfl).2.2⟩
            obtain ⟨x333, e334, hF⟩ := bindO_some hF
            refine RL_call rfl rfl (DoC_func en96 rfl) (F_frame_sound_w (some x322) (some ⟨b326, 0, none⟩) _ e334 _ _ _ (H.enter [] [6, 1] (by decide) rfl)) ?_
            rintro _ w335 ⟨rfl, G336⟩
            have H := H331.step (G336.only : Only [] _ _)
            refine ⟨_, rfl, ?_⟩
            refine (RL_nil (thenQ_n (hK330 _ _ ?_)))
            refine WP_ifb (b := x333) rfl (fun c337 => ?_) (fun c337 => ?_)
            · have hF := iteB_t c337 hF
              refine WP_seq_k fun K338 hK338 => ?_
              refine WP_region ?_
              refine RL_do rfl rfl (Do_loadF (e := (Fl.arr 64 (Fl.int .u16))) (a := x322) agg25 rfl sz25 (Blk.cells (H.item (i := 5) rfl))) ?_
              refine RL_exU rfl (Lx_storeW (e := (Fl.arr 64 (Fl.int .u16))) (a := g269) (a' := x322) H 4 rfl sz25 rfl rfl) ?_
              rintro w339 H
              refine (RL_nil (thenQ_n (hK338 _ _ ?_)))
              refine WP_region ?_
              refine RL_do rfl rfl (Do_move (v := v267) rfl) ?_
              refine RL_do rfl rfl (Do_move (v := .int .i64 g268) rfl) ?_
              obtain ⟨x340, e341, hF⟩ := letO_some hF
              subst e341
              refine RL_ex rfl rfl (Lx_bs (r := (Rp.int .i64)) (xl := [g268]) (cs := [.int .i64 g268]) u46 el3 (by decide) (by decide) rfl (fillB_parts (vs := [.int .i64 g268]) (by decide) rfl rfl ⟨rfl, trivial⟩ rfl) H ⟨[.int .i64 g268], [], rfl, rfl, rfl⟩) ?_
              rintro v343 w344 H
              obtain ⟨x345, e346, hF⟩ := bindO_some hF
              refine RL_ex rfl rfl (Lx_app H (i := 0) rfl u46 el3 rfl rfl (Sr.of_own (H.item (i := 6) rfl)) e346) ?_
              rintro v347 w348 H
              refine RL_do rfl rfl (Do_assign (v := v347) rfl) ?_
              have hR := Option.some.inj hF
              subst hR
              refine (RL_nil (blockQ_n (thenQ_n (And.intro ?_ ?_))))
              · repeat' (first | with_reducible exact Fr_refl | refine Fr_upd rfl ?_ | refine Fr_over rfl rfl ?_)
              · exact ⟨v347, (Sl_cons rfl Sl_nil), H.pick [0, 1, 2, 3, 4] (by decide)⟩
            · have hF := iteB_f c337 hF
              have hR := Option.some.inj hF
              subst hR
              refine (WP_skip (blockQ_n (thenQ_n (And.intro ?_ ?_))))
              · repeat' (first | with_reducible exact Fr_refl | refine Fr_upd rfl ?_ | refine Fr_over rfl rfl ?_)
              · exact ⟨v267, (Sl_cons rfl Sl_nil), H.pick [0, 1, 2, 3, 4] (by decide)⟩
          · rintro v314 ρ w316 H
            have hF := hK317
            obtain ⟨g313, g315⟩ := j318
            refine WP_region ?_
            obtain ⟨x349, e350, hF⟩ := letO_some hF
            refine RL_do rfl rfl (Do_add (a := g268) (b := 1) rfl rfl e350) ?_
            refine RL_do rfl rfl (Do_move (v := .int .i64 x349) rfl) ?_
            refine (RL_nil (thenQ_n (And.intro ?_ ?_)))
            · repeat' (first | with_reducible exact Fr_refl | refine Fr_upd rfl ?_ | refine Fr_over rfl rfl ?_)
            · exact ⟨(n276, g313, x349, g315, v314), (Sl_cons rfl (Sl_cons rfl Sl_nil)), ⟨H.pick [0, 1, 2, 3, 4] (by decide), hF⟩, Nat.lt_succ_self _⟩
        · have hF := iteB_f c282 hF
          have hR := Option.some.inj hF
          subst hR
          refine (WP_exit (thenQ_x (thenQ_x (blockQ_eq (thenQ_n (And.intro ?_ ?_))))))
          · repeat' (first | with_reducible exact Fr_refl | refine Fr_upd rfl ?_ | refine Fr_over rfl rfl ?_)
          · exact ⟨v267, (Sl_cons rfl Sl_nil), H.pick [0, 1, 3, 4] (by decide)⟩
      · rintro v164 ρ w166 H
        have hF := hK167
        obtain ⟨g163, g165⟩ := j168
        refine WP_seq_k fun K362 hK362 => ?_
        refine WP_seq_k fun K363 hK363 => ?_
        refine WP_region ?_
        refine RL_do rfl rfl (Do_move (v := v164) rfl) ?_
        obtain ⟨x364, e365, hF⟩ := letO_some hF
        obtain ⟨a366, c367, q368⟩ := Sr.len (Sr.of_own (H.item (i := 0) rfl))
        refine RL_do rfl rfl (Do_as (Do_len u46 q368) (congrArg (Value.int .i64) e365)) ?_
        obtain ⟨x369, e370, hF⟩ := letO_some hF
        refine RL_do rfl rfl (Do_as (Do_neq (a := x364) (b := 1) rfl rfl) (congrArg Value.bool e370)) ?_
        refine (RL_nil (thenQ_n (hK363 _ _ ?_)))
        refine WP_ifb (b := x369) rfl (fun c371 => ?_) (fun c371 => ?_)
        · have hF := iteB_t c371 hF
          refine WP_seq_k fun K372 hK372 => ?_
          refine WP_region ?_
          refine RL_do rfl rfl (Do_build (cs := (Fl.arr 64 (Fl.int .u16)).f (Arr.rep 64 0 : Arr 64 Int)) bz25) ?_
          refine RL_exU rfl (Lx_storeW (e := (Fl.arr 64 (Fl.int .u16))) (a := (Arr.rep 64 0 : Arr 64 Int)) (a' := (Arr.rep 64 0 : Arr 64 Int)) H 2 rfl sz25 rfl rfl) ?_
          rintro w373 H
          refine RL_do rfl rfl (Do_assign (v := .slice none 0 0) rfl) ?_
          refine RL_do rfl rfl (Do_assign (v := .bool false) rfl) ?_
          refine (RL_nil (thenQ_n (hK372 _ _ ?_)))
          have H := own_nil H (Rp.int .i64) 3
          have hR := Option.some.inj hF
          subst hR
          refine (WP_ret (thenQ_r (postc2 (v1 := .slice none 0 0) (v2 := .bool false) rfl rfl (run_loadVar_agg agg25 sz25 (Fl.len _ _) (Blk.cells (H.item (i := 2) rfl))) rfl rfl ?_)))
          exact ⟨.slice none 0 0, rfl, H.pick [4] (by decide)⟩
        · have hF := iteB_f c371 hF
          refine (WP_skip (thenQ_n (hK362 _ _ ?_)))
          refine WP_seq_k fun K375 hK375 => ?_
          refine WP_region ?_
          refine RL_do rfl rfl (Do_loadF (e := (Fl.arr 64 (Fl.int .u16))) (a := g165) agg25 rfl sz25 (Blk.cells (H.item (i := 3) rfl))) ?_
          refine RL_do rfl rfl (Do_move (v := v164) rfl) ?_
          refine RL_exU rfl (Lx_storeW (e := (Fl.arr 64 (Fl.int .u16))) (a := (Arr.rep 64 0 : Arr 64 Int)) (a' := g165) H 2 rfl sz25 rfl rfl) ?_
          rintro w376 H
          refine RL_do rfl rfl (Do_assign (v := v164) rfl) ?_
          refine RL_do rfl rfl (Do_assign (v := .bool true) rfl) ?_
          refine (RL_nil (thenQ_n (hK375 _ _ ?_)))
          have hR := Option.some.inj hF
          subst hR
          refine (WP_ret (postc2 (v1 := v164) (v2 := .bool true) rfl rfl (run_loadVar_agg agg25 sz25 (Fl.len _ _) (Blk.cells (H.item (i := 2) rfl))) rfl rfl ?_))
          exact ⟨v164, rfl, H.pick [0] (by decide)⟩
end Go.Proofs.YtafgmocdnjdmoaaDoor.L
namespace Go.Proofs.YtafgmocdnjdmoaaDoor.L
open Go.RowKit Go.OB Go.Lf
/- slices.Equal[[]int,int] -/
set_option maxHeartbeats 4000000 in
theorem F_slices_Equal___int_int__w (p0 : List Int) (p1 : List Int) (v1 : Value) (v3 : Value) (r : Bool) (hF : F_slices_Equal___int_int_ p0 p1 = some r) (O S : List Nat) (w : World) (H : Hd O w w S [.fz (.sl (Rp.int .i64) v1 p0), .fz (.sl (Rp.int .i64) v3 p1)]) :
    Calls Tryd.prog 49 ([v1, v3] : List Value).toArray w fun e w' => e = .returned (.bool r) ∧ Hd O w w' S [] := by
  unfold F_slices_Equal___int_int_ at hF
  refine calls_of_WP 26 Tryd.func49 rfl rfl rfl ?_
  refine WP_seq_k fun K5 hK5 => ?_
  refine WP_region ?_
  refine RL_do rfl rfl (Do_assign (v := .bool false) rfl) ?_
  refine (RL_nil (thenQ_n (hK5 _ _ ?_)))
  refine WP_seq_k fun K21 hK21 => ?_
  refine WP_seq_k fun K22 hK22 => ?_
  refine WP_region ?_
  refine RL_do rfl rfl (Do_move (v := v1) rfl) ?_
  obtain ⟨x23, e24, hF⟩ := letO_some hF
  obtain ⟨a25, c26, q27⟩ := SlF.len ((H.item (i := 0) rfl))
  refine RL_do rfl rfl (Do_as (Do_len u46 q27) (congrArg (Value.int .i64) e24)) ?_
  refine RL_do rfl rfl (Do_move (v := v3) rfl) ?_
  obtain ⟨x28, e29, hF⟩ := letO_some hF
  obtain ⟨a30, c31, q32⟩ := SlF.len ((H.item (i := 1) rfl))
  refine RL_do rfl rfl (Do_as (Do_len u46 q32) (congrArg (Value.int .i64) e29)) ?_
  obtain ⟨x33, e34, hF⟩ := letO_some hF
  refine RL_do rfl rfl (Do_as (Do_neq (a := x23) (b := x28) rfl rfl) (congrArg Value.bool e34)) ?_
  refine (RL_nil (thenQ_n (hK22 _ _ ?_)))
  refine WP_ifb (b := x33) rfl (fun c35 => ?_) (fun c35 => ?_)
  · have hF := iteB_t c35 hF
    refine WP_seq_k fun K36 hK36 => ?_
    refine WP_region ?_
    refine RL_do rfl rfl (Do_assign (v := .bool false) rfl) ?_
    refine (RL_nil (thenQ_n (hK36 _ _ ?_)))
    have hR := Option.some.inj hF
    subst hR
    refine (WP_ret (thenQ_r (post1 (v1 := .bool false) rfl rfl ?_)))
    exact ⟨rfl, H.pick [] (by decide)⟩
  · have hF := iteB_f c35 hF
    refine (WP_skip (thenQ_n (hK21 _ _ ?_)))
    obtain ⟨k201, ek202, hF⟩ := joinO_some hF
    refine WP_seqS [4, 5, 11, 12, 13, 14, 15, 16, 17, 18, 19, 20, 21, 22, 23, 24, 25] (fun (g : Unit) => []) (fun g wl => Hd O w wl S [] ∧ k201 () = some r) ?_ ?_
    · skip
      refine WP_seq_k fun K203 hK203 => ?_
      refine WP_region ?_
      refine RL_do rfl rfl (Do_move (v := v1) rfl) ?_
      obtain ⟨x204, e205, hF⟩ := letO_some hF
      obtain ⟨a206, c207, q208⟩ := SlF.len ((H.item (i := 0) rfl))
      refine RL_do rfl rfl (Do_as (Do_len u46 q208) (congrArg (Value.int .i64) e205)) ?_
      refine RL_do rfl rfl (Do_move (v := .int .i64 0) rfl) ?_
      refine (RL_nil (thenQ_n (hK203 _ _ ?_)))
      refine WP_block ?_
      unfold F_slices_Equal___int_int__L1 at hF
      obtain ⟨B361, n362, eB363, hF⟩ := loopO_some hF
      refine WP_loopS [4, 5, 13, 14, 15, 16, 17, 18, 19, 20, 21, 22, 23, 24, 25] (fun (g : Nat × Int) => [(13, .int .i64 g.2)]) (fun g wl => Hd O w wl S [.fz (.sl (Rp.int .i64) v1 p0), .fz (.sl (Rp.int .i64) v3 p1)] ∧ loopN B361 g.1 g.2 = some r) (fun g => g.1) (n362, 0) (Sl_cons rfl Sl_nil) ⟨H.pick [0, 1] (by decide), hF⟩ ?_
      clear H hF
      rintro ⟨n362, g360⟩ ρ w365 ⟨H, hF⟩
      obtain ⟨n366, rfl, hF⟩ := loopN_pos hF
      have hF := loop_body eB363 hF
      refine WP_seq_k fun K367 hK367 => ?_
      refine WP_region ?_
      obtain ⟨x368, e369, hF⟩ := letO_some hF
      refine RL_do rfl rfl (Do_as (Do_lss (a := g360) (b := x204) rfl rfl) (congrArg Value.bool e369)) ?_
      refine (RL_nil (thenQ_n (hK367 _ _ ?_)))
      refine WP_seq_k fun K371 hK371 => ?_
      refine WP_ifb (b := x368) rfl (fun c372 => ?_) (fun c372 => ?_)
      · have hF := iteB_t c372 hF
        refine (WP_skip (thenQ_n (hK371 _ _ ?_)))
        refine WP_seq_k fun K406 hK406 => ?_
        refine WP_block ?_
        refine WP_seq_k fun K407 hK407 => ?_
        refine WP_region ?_
        refine RL_do rfl rfl (Do_move (v := .int .i64 g360) rfl) ?_
        refine RL_do rfl rfl (Do_assign (v := .int .i64 g360) rfl) ?_
        refine (RL_nil (thenQ_n (hK407 _ _ ?_)))
        refine WP_seq_k fun K408 hK408 => ?_
        have H409 := H
        have H := H.rebase
        have H410 := H
        refine WP_mix0 H [0, 1, 2, 3, 4, 5, 6, 7, 8] [.pure, .pure, .pure, .read, .pure, .pure, .pure, .read, .pure] mixed (by kernel_rfl) (by kernel_rfl) (by kernel_rfl) rfl ?_
        refine Mx.XL_pure rfl rfl rfl (fun w' hw' => Do_move (v := v1) rfl) ?_
        refine Mx.XL_pure rfl rfl rfl (fun w' hw' => Do_move (v := .int .i64 g360) rfl) ?_
        obtain ⟨x411, e412, hF⟩ := bindO_some hF
        obtain ⟨b413, o414, c415, cs416, q417, h420, h418, h419, h421⟩ := rd_at (H.item (i := 0) rfl) e412
        obtain rfl : cs416 = [.int .i64 x411] := h420
        have H := H.fz (.at b413 (o414 + g360.toNat * 1) _) ⟨h418, h419, h421⟩
        refine Mx.XL_pure rfl rfl rfl (fun w' hw' => Do_idx u46 sz3 q417 rfl (at_some e412).1 (at_some e412).2.1 rfl rfl) ?_
        refine Mx.XL_read oS rfl rfl rfl (fun w' hw' => Do_load one3 rfl (Cells.get ((H.sees hw').item (i := 2) rfl).2.2 (i := 0) rfl)) ?_
        refine Mx.XL_pure rfl rfl rfl (fun w' hw' => Do_move (v := v3) rfl) ?_
        refine Mx.XL_pure rfl rfl rfl (fun w' hw' => Do_move (v := .int .i64 g360) rfl) ?_
        obtain ⟨x423, e424, hF⟩ := bindO_some hF
        obtain ⟨b425, o426, c427, cs428, q429, h432, h430, h431, h433⟩ := rd_at (H.item (i := 1) rfl) e424
        obtain rfl : cs428 = [.int .i64 x423] := h432
        have H := H.fz (.at b425 (o426 + g360.toNat * 1) _) ⟨h430, h431, h433⟩
        refine Mx.XL_pure rfl rfl rfl (fun w' hw' => Do_idx u46 sz3 q429 rfl (at_some e424).1 (at_some e424).2.1 rfl rfl) ?_
        refine Mx.XL_read oS rfl rfl rfl (fun w' hw' => Do_load one3 rfl (Cells.get ((H.sees hw').item (i := 3) rfl).2.2 (i := 0) rfl)) ?_
        obtain ⟨x435, e436, hF⟩ := letO_some hF
        refine Mx.XL_pure rfl rfl rfl (fun w' hw' => Do_as (Do_neq (a := x411) (b := x423) rfl rfl) (congrArg Value.bool e436)) ?_
        refine Mx.XL_nil fun w437 hS => ?_
        have H := H.sees hS
        have H := H409.rejoin H
        refine (thenQ_n (hK408 _ _ ?_))
        refine WP_ifb (b := x435) rfl (fun c438 => ?_) (fun c438 => ?_)
        · have hF := iteB_t c438 hF
          refine WP_seq_k fun K439 hK439 => ?_
          refine WP_region ?_
          refine RL_do rfl rfl (Do_assign (v := .bool false) rfl) ?_
          refine (RL_nil (thenQ_n (hK439 _ _ ?_)))
          have hR := Option.some.inj hF
          subst hR
          refine (WP_ret (blockQ_r (thenQ_r (thenQ_r (blockQ_r (thenQ_r (post1 (v1 := .bool false) rfl rfl ?_)))))))
          exact ⟨rfl, H.pick [] (by decide)⟩
        · have hF := iteB_f c438 hF
          refine (WP_skip (blockQ_n (thenQ_n (hK406 _ _ ?_))))
          refine WP_region ?_
          obtain ⟨x440, e441, hF⟩ := letO_some hF
          refine RL_do rfl rfl (Do_add (a := g360) (b := 1) rfl rfl e441) ?_
          refine RL_do rfl rfl (Do_move (v := .int .i64 x440) rfl) ?_
          refine (RL_nil (thenQ_n (And.intro ?_ ?_)))
          · repeat' (first | with_reducible exact Fr_refl | refine Fr_upd rfl ?_ | refine Fr_over rfl rfl ?_)
          · exact ⟨(n366, x440), (Sl_cons rfl Sl_nil), ⟨H.pick [0, 1] (by decide), hF⟩, Nat.lt_succ_self _⟩
      · have hF := iteB_f c372 hF
        refine (WP_exit (thenQ_x (thenQ_x (blockQ_eq (thenQ_n (And.intro ?_ ?_))))))
        · repeat' (first | with_reducible exact Fr_refl | refine Fr_upd rfl ?_ | refine Fr_over rfl rfl ?_)
        · exact ⟨(), Sl_nil, ⟨H.pick [] (by decide), hF⟩⟩
    · rintro _ ρ w200 ⟨H, hF⟩
      have hF := join_body ek202 hF
      refine WP_seq_k fun K442 hK442 => ?_
      refine WP_region ?_
      refine RL_do rfl rfl (Do_assign (v := .bool true) rfl) ?_
      refine (RL_nil (thenQ_n (hK442 _ _ ?_)))
      have hR := Option.some.inj hF
      subst hR
      refine (WP_ret (post1 (v1 := .bool true) rfl rfl ?_))
      exact ⟨rfl, H.pick [] (by decide)⟩
end Go.Proofs.YtafgmocdnjdmoaaDoor.L
namespace Go.Proofs.YtafgmocdnjdmoaaDoor.L
open Go.RowKit Go.OB Go.Lf
/- orangebox/orangeboxref1.Wide -/
set_option maxHeartbeats 4000000 in
theorem F_ref1_Wide_w (p0 : Arr 64 Int) (r : Bool) (hF : F_ref1_Wide p0 = some r) (O S : List Nat) (w : World) (H : Hd O w w S []) :
    Calls Tryd.prog 74 ([.agg ((Fl.arr 64 (Fl.int .u16)).f p0).toArray] : List Value).toArray w fun e w' => e = .returned (.bool r) ∧ Hd O w w' S [] := by
  unfold F_ref1_Wide at hF
  refine calls_of_WP 12 Tryd.func74 rfl rfl rfl ?_
  refine WP_seq_k fun K1 hK1 => ?_
  refine WP_region ?_
  refine RL_ex rfl rfl (Lx_box (cs := (Fl.arr 64 (Fl.int .u16)).f p0) rfl H) ?_
  rintro _ w4 ⟨b2, rfl, H⟩
  refine RL_do rfl rfl (Do_assign (v := .bool false) rfl) ?_
  refine (RL_nil (thenQ_n (hK1 _ _ ?_)))
  obtain ⟨k64, ek65, hF⟩ := joinO_some hF
  refine WP_seqS [2, 4, 5, 6, 7, 8, 9, 10, 11] (fun (g : Unit) => []) (fun g wl => Hd O w wl S [] ∧ k64 () = some r) ?_ ?_
  · skip
    refine WP_seq_k fun K66 hK66 => ?_
    refine WP_region ?_
    refine RL_do rfl rfl (Do_loadF (e := (Fl.arr 64 (Fl.int .u16))) (a := p0) agg25 rfl sz25 (Blk.cells (H.item (i := 0) rfl))) ?_
    refine RL_do rfl rfl (Do_move (v := .int .i64 0) rfl) ?_
    refine (RL_nil (thenQ_n (hK66 _ _ ?_)))
    refine WP_block ?_
    unfold F_ref1_Wide_L1 at hF
    obtain ⟨B119, n120, eB121, hF⟩ := loopO_some hF
    refine WP_loopS [2, 4, 6, 7, 8, 9, 10, 11] (fun (g : Nat × Int) => [(6, .int .i64 g.2)]) (fun g wl => Hd O w wl S [] ∧ loopN B119 g.1 g.2 = some r) (fun g => g.1) (n120, 0) (Sl_cons rfl Sl_nil) ⟨H.pick [] (by decide), hF⟩ ?_
    clear H hF
    rintro ⟨n120, g118⟩ ρ w123 ⟨H, hF⟩
    obtain ⟨n124, rfl, hF⟩ := loopN_pos hF
    have hF := loop_body eB121 hF
    refine WP_seq_k fun K125 hK125 => ?_
    refine WP_region ?_
    obtain ⟨x126, e127, hF⟩ := letO_some hF
    refine RL_do rfl rfl (Do_as (Do_lss (a := g118) (b := 64) rfl rfl) (congrArg Value.bool e127)) ?_
    refine (RL_nil (thenQ_n (hK125 _ _ ?_)))
    refine WP_seq_k fun K129 hK129 => ?_
    refine WP_ifb (b := x126) rfl (fun c130 => ?_) (fun c130 => ?_)
    · have hF := iteB_t c130 hF
      refine (WP_skip (thenQ_n (hK129 _ _ ?_)))
      refine WP_seq_k fun K139 hK139 => ?_
      refine WP_block ?_
      refine WP_seq_k fun K140 hK140 => ?_
      refine WP_region ?_
      obtain ⟨x141, e142, hF⟩ := bindO_some hF
      refine RL_do rfl rfl (Do_indexA1 (e := (Fl.int .u16)) (X := p0) u25 one23 sz23 rfl rfl rfl e142 rfl) ?_
      refine RL_do rfl rfl (Do_assign (v := .int .u16 x141) rfl) ?_
      refine (RL_nil (thenQ_n (hK140 _ _ ?_)))
      refine WP_seq_k fun K143 hK143 => ?_
      refine WP_region ?_
      refine RL_do rfl rfl (Do_move (v := .int .u16 x141) rfl) ?_
      obtain ⟨x144, e145, hF⟩ := letO_some hF
      refine RL_do rfl rfl (Do_as (Do_gtr (a := x141) (b := 4095) rfl rfl) (congrArg Value.bool e145)) ?_
      refine (RL_nil (thenQ_n (hK143 _ _ ?_)))
      refine WP_ifb (b := x144) rfl (fun c146 => ?_) (fun c146 => ?_)
      · have hF := iteB_t c146 hF
        refine WP_seq_k fun K147 hK147 => ?_
        refine WP_region ?_
        refine RL_do rfl rfl (Do_assign (v := .bool true) rfl) ?_
        refine (RL_nil (thenQ_n (hK147 _ _ ?_)))
        have hR := Option.some.inj hF
        subst hR
        refine (WP_ret (blockQ_r (thenQ_r (thenQ_r (blockQ_r (thenQ_r (post1 (v1 := .bool true) rfl rfl ?_)))))))
        exact ⟨rfl, H.pick [] (by decide)⟩
      · have hF := iteB_f c146 hF
        refine (WP_skip (blockQ_n (thenQ_n (hK139 _ _ ?_))))
        refine WP_region ?_
        obtain ⟨x148, e149, hF⟩ := letO_some hF
        refine RL_do rfl rfl (Do_add (a := g118) (b := 1) rfl rfl e149) ?_
        refine RL_do rfl rfl (Do_move (v := .int .i64 x148) rfl) ?_
        refine (RL_nil (thenQ_n (And.intro ?_ ?_)))
        · repeat' (first | with_reducible exact Fr_refl | refine Fr_upd rfl ?_ | refine Fr_over rfl rfl ?_)
        · exact ⟨(n124, x148), (Sl_cons rfl Sl_nil), ⟨H.pick [] (by decide), hF⟩, Nat.lt_succ_self _⟩
    · have hF := iteB_f c130 hF
      refine (WP_exit (thenQ_x (thenQ_x (blockQ_eq (thenQ_n (And.intro ?_ ?_))))))
      · repeat' (first | with_reducible exact Fr_refl | refine Fr_upd rfl ?_ | refine Fr_over rfl rfl ?_)
      · exact ⟨(), Sl_nil, ⟨H.pick [] (by decide), hF⟩⟩
  · rintro _ ρ w63 ⟨H, hF⟩
    have hF := join_body ek65 hF
    refine WP_seq_k fun K150 hK150 => ?_
    refine WP_region ?_
    refine RL_do rfl rfl (Do_assign (v := .bool false) rfl) ?_
    refine (RL_nil (thenQ_n (hK150 _ _ ?_)))
    have hR := Option.some.inj hF
    subst hR
    refine (WP_ret (post1 (v1 := .bool false) rfl rfl ?_))
    exact ⟨rfl, H.pick [] (by decide)⟩
end Go.Proofs.YtafgmocdnjdmoaaDoor.L
namespace Go.Proofs.YtafgmocdnjdmoaaDoor.L
open Go.RowKit Go.OB Go.Lf
/- orangebox/orangeboxref1.numberOf -/
set_option maxHeartbeats 4000000 in
theorem F_ref1_numberOf_w (p0 : Arr 64 Int) (r : Int) (hF : F_ref1_numberOf p0 = some r) (O S : List Nat) (w : World) (H : Hd O w w S []) :
    Calls Tryd.prog 101 ([.agg ((Fl.arr 64 (Fl.int .u16)).f p0).toArray] : List Value).toArray w fun e w' => e = .returned (.int .i64 r) ∧ Hd O w w' S [] := by
  unfold F_ref1_numberOf at hF
  refine calls_of_WP 13 Tryd.func101 rfl rfl rfl ?_
  refine WP_seq_k fun K1 hK1 => ?_
  refine WP_region ?_
  refine RL_ex rfl rfl (Lx_box (cs := (Fl.arr 64 (Fl.int .u16)).f p0) rfl H) ?_
  rintro _ w4 ⟨b2, rfl, H⟩
  refine RL_do rfl rfl (Do_assign (v := .int .i64 0) rfl) ?_
  refine (RL_nil (thenQ_n (hK1 _ _ ?_)))
  refine WP_seq_k fun K5 hK5 => ?_
  refine WP_region ?_
  obtain ⟨x6, e7, hF⟩ := bindO_some hF
  refine RL_do rfl rfl (Do_idxA (X := p0) u25 sz23 rfl rfl e7) ?_
  refine RL_do rfl rfl (Do_load1 (v := .int .u16 x6) one23 rfl (Cells.ix (e := (Fl.int .u16)) (x := p0) (Blk.cells (H.item (i := 0) rfl)) e7)) ?_
  obtain ⟨x8, e9, hF⟩ := letO_some hF
  refine RL_do rfl rfl (Do_conv u23 u3 rfl e9) ?_
  obtain ⟨x10, e11, hF⟩ := bindO_some hF
  refine RL_do rfl rfl (Do_rem' (j := x8) (q := 2048) rfl rfl e11) ?_
  obtain ⟨x12, e13, hF⟩ := bindO_some hF
  refine RL_do rfl rfl (Do_idxA (X := p0) u25 sz23 rfl rfl e13) ?_
  refine RL_do rfl rfl (Do_load1 (v := .int .u16 x12) one23 rfl (Cells.ix (e := (Fl.int .u16)) (x := p0) (Blk.cells (H.item (i := 0) rfl)) e13)) ?_
  obtain ⟨x14, e15, hF⟩ := letO_some hF
  refine RL_do rfl rfl (Do_conv u23 u3 rfl e15) ?_
  obtain ⟨x16, e17, hF⟩ := bindO_some hF
  refine RL_do rfl rfl (Do_rem' (j := x14) (q := 2048) rfl rfl e17) ?_
  obtain ⟨x18, e19, hF⟩ := letO_some hF
  refine RL_do rfl rfl (Do_mul (a := x16) (b := 2048) rfl rfl e19) ?_
  obtain ⟨x20, e21, hF⟩ := letO_some hF
  refine RL_do rfl rfl (Do_add (a := x10) (b := x18) rfl rfl e21) ?_
  refine RL_do rfl rfl (Do_assign (v := .int .i64 x20) rfl) ?_
  refine (RL_nil (thenQ_n (hK5 _ _ ?_)))
  have hR := Option.some.inj hF
  subst hR
  refine (WP_ret (post1 (v1 := .int .i64 x20) rfl rfl ?_))
  exact ⟨rfl, H.pick [] (by decide)⟩
end Go.Proofs.YtafgmocdnjdmoaaDoor.L
namespace Go.Proofs.YtafgmocdnjdmoaaDoor.L
open Go.RowKit Go.OB Go.Lf
/- orangebox/orangeboxref1.syncOf -/
set_option maxHeartbeats 4000000 in
theorem F_ref1_syncOf_w (p0 : Int) (r : Int) (hF : F_ref1_syncOf p0 = some r) (O S : List Nat) (w : World) (H : Hd O w w S []) :
    Calls Tryd.prog 88 ([.int .i64 p0] : List Value).toArray w fun e w' => e = .returned (.int .i64 r) ∧ Hd O w w' S [] := by
  unfold F_ref1_syncOf at hF
  refine calls_of_WP 7 Tryd.func88 rfl rfl rfl ?_
  refine WP_seq_k fun K1 hK1 => ?_
  refine WP_region ?_
  refine RL_do rfl rfl (Do_assign (v := .int .i64 0) rfl) ?_
  refine (RL_nil (thenQ_n (hK1 _ _ ?_)))
  refine WP_seq_k fun K2 hK2 => ?_
  refine WP_region ?_
  refine RL_do rfl rfl (Do_build (cs := (Fl.arr 4 (Fl.int .i64)).f (⟨[583, 1464, 2631, 3512], rfl⟩ : Arr 4 Int)) (bt128_0_1_2_3 _ _ _ _)) ?_
  refine RL_do rfl rfl (Do_move (v := .int .i64 p0) rfl) ?_
  obtain ⟨x3, e4, hF⟩ := bindO_some hF
  refine RL_do rfl rfl (Do_rem' (j := p0) (q := 4) rfl rfl e4) ?_
  obtain ⟨x5, e6, hF⟩ := bindO_some hF
  refine RL_do rfl rfl (Do_indexA1 (e := (Fl.int .i64)) (X := (⟨[583, 1464, 2631, 3512], rfl⟩ : Arr 4 Int)) u128 one3 sz3 rfl rfl rfl e6 rfl) ?_
  refine RL_do rfl rfl (Do_assign (v := .int .i64 x5) rfl) ?_
  refine (RL_nil (thenQ_n (hK2 _ _ ?_)))
  have hR := Option.some.inj hF
  subst hR
  refine (WP_ret (post1 (v1 := .int .i64 x5) rfl rfl ?_))
  exact ⟨rfl, H.pick [] (by decide)⟩
end Go.Proofs.YtafgmocdnjdmoaaDoor.L
namespace Go.Proofs.YtafgmocdnjdmoaaDoor.L
open Go.RowKit Go.OB Go.Lf
/- orangebox/orangeboxref1.Flaws -/
set_option maxHeartbeats 4000000 in
theorem F_ref1_Flaws_w (p0 : Arr 64 Int) (r : (List Flaw)) (hF : F_ref1_Flaws p0 = some r) (O S : List Nat) (w : World) (H : Hd O w w S []) :
    Calls Tryd.prog 55 ([.agg ((Fl.arr 64 (Fl.int .u16)).f p0).toArray] : List Value).toArray w fun e w' => ∃ u1, e = .returned (u1) ∧ Hd O w w' S [.own rFlaw u1 80 r] := by
  unfold F_ref1_Flaws at hF
  refine calls_of_WP 79 Tryd.func55 rfl rfl rfl ?_
  refine WP_seq_k fun K2 hK2 => ?_
  refine WP_region ?_
  refine RL_ex rfl rfl (Lx_box (cs := (Fl.arr 64 (Fl.int .u16)).f p0) rfl H) ?_
  rintro _ w5 ⟨b3, rfl, H⟩
  refine RL_do rfl rfl (Do_assign (v := .slice none 0 0) rfl) ?_
  refine (RL_nil (thenQ_n (hK2 _ _ ?_)))
  refine WP_seq_k fun K6 hK6 => ?_
  refine WP_region ?_
  refine RL_do rfl rfl (Do_assign (v := .slice none 0 0) rfl) ?_
  refine (RL_nil (thenQ_n (hK6 _ _ ?_)))
  obtain ⟨g78, hF, hK81⟩ := bindO_some hF
  refine WP_seqS [3, 4, 5, 7, 8, 9, 10, 11, 12, 13, 14, 15, 16, 17, 18, 19] (fun (g : Value) => [(3, g)]) (fun g wl => Hd O w wl S [.own rFlaw g 80 g78, .blk b3 ((Fl.arr 64 (Fl.int .u16)).f p0) 25]) ?_ ?_
  · skip
    refine WP_seq_k fun K82 hK82 => ?_
    refine WP_region ?_
    refine RL_do rfl rfl (Do_loadF (e := (Fl.arr 64 (Fl.int .u16))) (a := p0) agg25 rfl sz25 (Blk.cells (H.item (i := 0) rfl))) ?_
    refine RL_do rfl rfl (Do_move (v := .int .i64 0) rfl) ?_
    refine (RL_nil (thenQ_n (hK82 _ _ ?_)))
    refine WP_block ?_
    have H := own_nil H rFlaw 80
    unfold F_ref1_Flaws_L1 at hF
    obtain ⟨B150, n151, eB152, hF⟩ := loopO_some hF
    refine WP_loopS [3, 4, 5, 8, 9, 10, 11, 12, 13, 14, 15, 16, 17, 18, 19] (fun (g : Nat × (List Flaw) × Int × Value) => [(3, g.2.2.2), (8, .int .i64 g.2.2.1)]) (fun g wl => Hd O w wl S [.own rFlaw g.2.2.2 80 g.2.1, .blk b3 ((Fl.arr 64 (Fl.int .u16)).f p0) 25] ∧ loopN B150 g.1 (g.2.1, g.2.2.1) = some g78) (fun g => g.1) (n151, [], 0, .slice none 0 0) (Sl_cons rfl (Sl_cons rfl Sl_nil)) ⟨H.pick [1, 0] (by decide), hF⟩ ?_
    clear H hF
    rintro ⟨n151, g146, g148, v147⟩ ρ w154 ⟨H, hF⟩
    obtain ⟨n155, rfl, hF⟩ := loopN_pos hF
    have hF := loop_body eB152 hF
    refine WP_seq_k fun K156 hK156 => ?_
    refine WP_region ?_
    obtain ⟨x157, e158, hF⟩ := letO_some hF
    refine RL_do rfl rfl (Do_as (Do_lss (a := g148) (b := 64) rfl rfl) (congrArg Value.bool e158)) ?_
    refine (RL_nil (thenQ_n (hK156 _ _ ?_)))
    refine WP_seq_k fun K160 hK160 => ?_
    refine WP_ifb (b := x157) rfl (fun c161 => ?_) (fun c161 => ?_)
    · have hF := iteB_t c161 hF
      refine (WP_skip (thenQ_n (hK160 _ _ ?_)))
      obtain ⟨g178, hF, hK181⟩ := bindO_some hF
      refine WP_seqS [3, 4, 5, 10, 11, 12, 13, 14, 15, 16, 17, 18] (fun (g : Value) => [(3, g)]) (fun g wl => Hd O w wl S [.own rFlaw g 80 g178, .blk b3 ((Fl.arr 64 (Fl.int .u16)).f p0) 25]) ?_ ?_
      · skip
        refine WP_block ?_
        refine WP_seq_k fun K182 hK182 => ?_
        refine WP_region ?_
        refine RL_do rfl rfl (Do_move (v := .int .i64 g148) rfl) ?_
        obtain ⟨x183, e184, hF⟩ := bindO_some hF
        refine RL_do rfl rfl (Do_indexA1 (e := (Fl.int .u16)) (X := p0) u25 one23 sz23 rfl rfl rfl e184 rfl) ?_
        refine RL_do rfl rfl (Do_assign (v := .int .i64 g148) rfl) ?_
        refine RL_do rfl rfl (Do_assign (v := .int .u16 x183) rfl) ?_
        refine (RL_nil (thenQ_n (hK182 _ _ ?_)))
        refine WP_seq_k fun K185 hK185 => ?_
        refine WP_region ?_
        refine RL_do rfl rfl (Do_move (v := .int .u16 x183) rfl) ?_
        obtain ⟨x186, e187, hF⟩ := letO_some hF
        refine RL_do rfl rfl (Do_as (Do_gtr (a := x183) (b := 4095) rfl rfl) (congrArg Value.bool e187)) ?_
        refine (RL_nil (thenQ_n (hK185 _ _ ?_)))
        refine WP_ifb (b := x186) rfl (fun c188 => ?_) (fun c188 => ?_)
        · have hF := iteB_t c188 hF
          refine WP_region ?_
          refine RL_do rfl rfl (Do_move (v := v147) rfl) ?_
          refine RL_do rfl rfl (Do_move (v := .int .i64 g148) rfl) ?_
          refine RL_do rfl rfl (Do_build (cs := [.int .i64 g148, .int .i64 5]) (bt80_0_1 _ _)) ?_
          obtain ⟨x189, e190, hF⟩ := letO_some hF
          subst e190
          refine RL_ex rfl rfl (Lx_bs (r := rFlaw) (xl := [Flaw.mk g148 5]) (cs := [.int .i64 g148, .int .i64 5]) u50 el80 (by decide) (by decide) rfl (fillB_parts (vs := [.agg [.int .i64 g148, .int .i64 5].toArray]) (by decide) rfl rfl ⟨rfl, trivial⟩ rfl) H ⟨[.int .i64 g148, .int .i64 5], [], rfl, (rFlaw_mk (x := Flaw.mk g148 5)), rfl⟩) ?_
          rintro v192 w193 H
          obtain ⟨x194, e195, hF⟩ := bindO_some hF
          refine RL_ex rfl rfl (Lx_app H (i := 0) rfl u50 el80 rfl rfl (Sr.of_own (H.item (i := 2) rfl)) e195) ?_
          rintro v196 w197 H
          refine RL_do rfl rfl (Do_assign (v := v196) rfl) ?_
          have hR := Option.some.inj hF
          subst hR
          refine (RL_nil (blockQ_n (thenQ_n (And.intro ?_ ?_))))
          · repeat' (first | with_reducible exact Fr_refl | refine Fr_upd rfl ?_ | refine Fr_over rfl rfl ?_)
          · exact ⟨v196, (Sl_cons rfl Sl_nil), H.pick [0, 1] (by decide)⟩
        · have hF := iteB_f c188 hF
          have hR := Option.some.inj hF
          subst hR
          refine (WP_skip (blockQ_n (thenQ_n (And.intro ?_ ?_))))
          · repeat' (first | with_reducible exact Fr_refl | refine Fr_upd rfl ?_ | refine Fr_over rfl rfl ?_)
          · exact ⟨v147, (Sl_cons rfl Sl_nil), H.pick [0, 1] (by decide)⟩
      · rintro v179 ρ w180 H
        have hF := hK181
        refine WP_region ?_
        obtain ⟨x198, e199, hF⟩ := letO_some hF
        refine RL_do rfl rfl (Do_add (a := g148) (b := 1) rfl rfl e199) ?_
        refine RL_do rfl rfl (Do_move (v := .int .i64 x198) rfl) ?_
        refine (RL_nil (thenQ_n (And.intro ?_ ?_)))
        · repeat' (first | with_reducible exact Fr_refl | refine Fr_upd rfl ?_ | refine Fr_over rfl rfl ?_)
        · exact ⟨(n155, g178, x198, v179), (Sl_cons rfl (Sl_cons rfl Sl_nil)), ⟨H.pick [0, 1] (by decide), hF⟩, Nat.lt_succ_self _⟩
    · have hF := iteB_f c161 hF
      have hR := Option.some.inj hF
      subst hR
      refine (WP_exit (thenQ_x (thenQ_x (blockQ_eq (thenQ_n (And.intro ?_ ?_))))))
      · repeat' (first | with_reducible exact Fr_refl | refine Fr_upd rfl ?_ | refine Fr_over rfl rfl ?_)
      · exact ⟨v147, (Sl_cons rfl Sl_nil), H.pick [0, 1] (by decide)⟩
  · rintro v79 ρ w80 H
    have hF := hK81
    refine WP_seq_k fun K210 hK210 => ?_
    refine WP_seq_k fun K211 hK211 => ?_
    refine WP_region ?_
    refine RL_do rfl rfl (Do_move (v := v79) rfl) ?_
    obtain ⟨x212, e213, hF⟩ := letO_some hF
    obtain ⟨a214, c215, q216⟩ := Sr.len (Sr.of_own (H.item (i := 0) rfl))
    refine RL_do rfl rfl (Do_as (Do_len u50 q216) (congrArg (Value.int .i64) e213)) ?_
    obtain ⟨x217, e218, hF⟩ := letO_some hF
    refine RL_do rfl rfl (Do_as (Do_gtr (a := x212) (b := 0) rfl rfl) (congrArg Value.bool e218)) ?_
    refine (RL_nil (thenQ_n (hK211 _ _ ?_)))
    refine WP_ifb (b := x217) rfl (fun c219 => ?_) (fun c219 => ?_)
    · have hF := iteB_t c219 hF
      refine WP_seq_k fun K220 hK220 => ?_
      refine WP_region ?_
      refine RL_do rfl rfl (Do_move (v := v79) rfl) ?_
      refine RL_do rfl rfl (Do_assign (v := v79) rfl) ?_
      refine (RL_nil (thenQ_n (hK220 _ _ ?_)))
      have hR := Option.some.inj hF
      subst hR
      refine (WP_ret (thenQ_r (post1 (v1 := v79) rfl rfl ?_)))
      exact ⟨v79, rfl, H.pick [0] (by decide)⟩
    · have hF := iteB_f c219 hF
      refine (WP_skip (thenQ_n (hK210 _ _ ?_)))
      obtain ⟨g247, hF, hK250⟩ := bindO_some hF
      refine WP_seqS [3, 24, 25, 26, 27, 28, 29, 30, 31, 32, 33, 34] (fun (g : Value) => [(3, g)]) (fun g wl => Hd O w wl S [.own rFlaw g 80 g247, .blk b3 ((Fl.arr 64 (Fl.int .u16)).f p0) 25]) ?_ ?_
      · skip
        refine WP_seq_k fun K251 hK251 => ?_
        have H252 := H
        have H := H.rebase
        have H253 := H
        refine WP_mix0 H [0, 1, 2, 3, 4, 5, 6] [.pure, .read, .pure, .read, .fcall, .fcall, .pure] mixed (by kernel_rfl) (by kernel_rfl) (by kernel_rfl) rfl ?_
        obtain ⟨x254, e255, hF⟩ := bindO_some hF
        refine Mx.XL_pure rfl rfl rfl (fun w' hw' => Do_idxA (X := p0) u25 sz23 rfl rfl e255) ?_
        refine Mx.XL_read oS rfl rfl rfl (fun w' hw' => Do_load1 (v := .int .u16 x254) one23 rfl (Cells.ix (e := (Fl.int .u16)) (x := p0) (Blk.cells ((H.sees hw').item (i := 1) rfl)) e255)) ?_
        obtain ⟨x256, e257, hF⟩ := letO_some hF
        refine Mx.XL_pure rfl rfl rfl (fun w' hw' => Do_conv u23 u3 rfl e257) ?_
        refine Mx.XL_read oS rfl rfl rfl (fun w' hw' => Do_loadF (e := (Fl.arr 64 (Fl.int .u16))) (a := p0) agg25 rfl sz25 (Blk.cells ((H.sees hw').item (i := 1) rfl))) ?_
        have H258 := H
        obtain ⟨x259, e260, hF⟩ := bindO_some hF
        refine Mx.XL_fcall oS rfl rfl rfl (v := .int .i64 x259) (fun w' hw' => DoC_func en101 rfl) (fun w' hw' => call_read (F_ref1_numberOf_w p0 _ e260 _ _ _ (Hd.fresh0 w'))) ?_
        have H := H258
        have H261 := H
        obtain ⟨x262, e263, hF⟩ := bindO_some hF
        refine Mx.XL_fcall oS rfl rfl rfl (v := .int .i64 x262) (fun w' hw' => DoC_func en88 rfl) (fun w' hw' => call_read (F_ref1_syncOf_w x259 _ e263 _ _ _ (Hd.fresh0 w'))) ?_
        have H := H261
        obtain ⟨x264, e265, hF⟩ := letO_some hF
        refine Mx.XL_pure rfl rfl rfl (fun w' hw' => Do_as (Do_neq (a := x256) (b := x262) rfl rfl) (congrArg Value.bool e265)) ?_
        refine Mx.XL_nil fun w266 hS => ?_
        have H := H.sees hS
        have H := H252.rejoin H
        refine (thenQ_n (hK251 _ _ ?_))
        refine WP_ifb (b := x264) rfl (fun c267 => ?_) (fun c267 => ?_)
        · have hF := iteB_t c267 hF
          refine WP_region ?_
          refine RL_do rfl rfl (Do_move (v := v79) rfl) ?_
          refine RL_do rfl rfl (Do_build (cs := [.int .i64 0, .int .i64 1]) (bt80_0_1 _ _)) ?_
          obtain ⟨x268, e269, hF⟩ := letO_some hF
          subst e269
          refine RL_ex rfl rfl (Lx_bs (r := rFlaw) (xl := [Flaw.mk 0 1]) (cs := [.int .i64 0, .int .i64 1]) u50 el80 (by decide) (by decide) rfl (fillB_parts (vs := [.agg [.int .i64 0, .int .i64 1].toArray]) (by decide) rfl rfl ⟨rfl, trivial⟩ rfl) H ⟨[.int .i64 0, .int .i64 1], [], rfl, (rFlaw_mk (x := Flaw.mk 0 1)), rfl⟩) ?_
          rintro v271 w272 H
          obtain ⟨x273, e274, hF⟩ := bindO_some hF
          refine RL_ex rfl rfl (Lx_app H (i := 0) rfl u50 el80 rfl rfl (Sr.of_own (H.item (i := 2) rfl)) e274) ?_
          rintro v275 w276 H
          refine RL_do rfl rfl (Do_assign (v := v275) rfl) ?_
          have hR := Option.some.inj hF
          subst hR
          refine (RL_nil (thenQ_n (And.intro ?_ ?_)))
          · repeat' (first | with_reducible exact Fr_refl | refine Fr_upd rfl ?_ | refine Fr_over rfl rfl ?_)
          · exact ⟨v275, (Sl_cons rfl Sl_nil), H.pick [0, 1] (by decide)⟩
        · have hF := iteB_f c267 hF
          have hR := Option.some.inj hF
          subst hR
          refine (WP_skip (thenQ_n (And.intro ?_ ?_)))
          · repeat' (first | with_reducible exact Fr_refl | refine Fr_upd rfl ?_ | refine Fr_over rfl rfl ?_)
          · exact ⟨v79, (Sl_cons rfl Sl_nil), H.pick [0, 1] (by decide)⟩
      · rintro v248 ρ w249 H
        have hF := hK250
        obtain ⟨g361, hF, hK364⟩ := bindO_some hF
        refine WP_seqS [3, 6, 35, 36, 37, 38, 39, 40, 41, 42, 43, 44, 45, 46, 47, 48, 49] (fun (g : Value) => [(3, g)]) (fun g wl => Hd O w wl S [.own rFlaw g 80 g361, .blk b3 ((Fl.arr 64 (Fl.int .u16)).f p0) 25]) ?_ ?_
        · skip
          refine WP_seq_k fun K365 hK365 => ?_
          refine WP_region ?_
          refine RL_do rfl rfl (Do_assign (v := .int .i64 1) rfl) ?_
          refine (RL_nil (thenQ_n (hK365 _ _ ?_)))
          refine WP_block ?_
          unfold F_ref1_Flaws_L2 at hF
          obtain ⟨B446, n447, eB448, hF⟩ := loopO_some hF
          refine WP_loopS [3, 6, 35, 36, 37, 38, 39, 40, 41, 42, 43, 44, 45, 46, 47, 48, 49] (fun (g : Nat × (List Flaw) × Int × Value) => [(3, g.2.2.2), (6, .int .i64 g.2.2.1)]) (fun g wl => Hd O w wl S [.own rFlaw g.2.2.2 80 g.2.1, .blk b3 ((Fl.arr 64 (Fl.int .u16)).f p0) 25] ∧ loopN B446 g.1 (g.2.1, g.2.2.1) = some g361) (fun g => g.1) (n447, g247, 1, v248) (Sl_cons rfl (Sl_cons rfl Sl_nil)) ⟨H.pick [0, 1] (by decide), hF⟩ ?_
          clear H hF
          rintro ⟨n447, g443, g445, v444⟩ ρ w450 ⟨H, hF⟩
          obtain ⟨n451, rfl, hF⟩ := loopN_pos hF
          have hF := loop_body eB448 hF
          refine WP_seq_k fun K456 hK456 => ?_
          refine WP_seq_k fun K457 hK457 => ?_
          refine WP_region ?_
          refine RL_do rfl rfl (Do_move (v := .int .i64 g445) rfl) ?_
          obtain ⟨x458, e459, hF⟩ := letO_some hF
          refine RL_do rfl rfl (Do_as (Do_lss (a := g445) (b := 64) rfl rfl) (congrArg Value.bool e459)) ?_
          refine (RL_nil (thenQ_n (hK457 _ _ ?_)))
          refine WP_ifb (b := x458) rfl (fun c460 => ?_) (fun c460 => ?_)
          · have hF := iteB_t c460 hF
            refine (WP_skip (thenQ_n (hK456 _ _ ?_)))
            obtain ⟨g483, hF, hK486⟩ := bindO_some hF
            refine WP_seqS [3, 39, 40, 41, 42, 43, 44, 45, 46, 47, 48, 49] (fun (g : Value) => [(3, g)]) (fun g wl => Hd O w wl S [.own rFlaw g 80 g483, .blk b3 ((Fl.arr 64 (Fl.int .u16)).f p0) 25]) ?_ ?_
            · skip
              refine WP_block ?_
              refine WP_seq_k fun K487 hK487 => ?_
              refine WP_region ?_
              refine RL_do rfl rfl (Do_move (v := .int .i64 g445) rfl) ?_
              obtain ⟨x488, e489, hF⟩ := bindO_some hF
              refine RL_do rfl rfl (Do_idxA (X := p0) u25 sz23 rfl rfl e489) ?_
              refine RL_do rfl rfl (Do_load1 (v := .int .u16 x488) one23 rfl (Cells.ix (e := (Fl.int .u16)) (x := p0) (Blk.cells (H.item (i := 1) rfl)) e489)) ?_
              obtain ⟨x490, e491, hF⟩ := letO_some hF
              refine RL_do rfl rfl (Do_conv u23 u3 rfl e491) ?_
              have H492 := H
              obtain ⟨x493, e494, hF⟩ := bindO_some hF
              refine RL_call rfl rfl (DoC_func en87 rfl) (X_odd_w x490 _ e494 _ _ _ (H.enter [] [] (by decide) rfl)) ?_
              rintro _ w495 ⟨rfl, G496⟩
              have H := H492.step (G496.only : Only [] _ _)
              refine ⟨_, rfl, ?_⟩
              obtain ⟨x497, e498, hF⟩ := letO_some hF
              refine RL_do rfl rfl (Do_as (Do_not (p := x493) rfl) (congrArg Value.bool e498)) ?_
              refine (RL_nil (thenQ_n (hK487 _ _ ?_)))
              refine WP_ifb (b := x497) rfl (fun c499 => ?_) (fun c499 => ?_)
              · have hF := iteB_t c499 hF
                refine WP_region ?_
                refine RL_do rfl rfl (Do_move (v := v444) rfl) ?_
                refine RL_do rfl rfl (Do_move (v := .int .i64 g445) rfl) ?_
                refine RL_do rfl rfl (Do_build (cs := [.int .i64 g445, .int .i64 2]) (bt80_0_1 _ _)) ?_
                obtain ⟨x500, e501, hF⟩ := letO_some hF
                subst e501
                refine RL_ex rfl rfl (Lx_bs (r := rFlaw) (xl := [Flaw.mk g445 2]) (cs := [.int .i64 g445, .int .i64 2]) u50 el80 (by decide) (by decide) rfl (fillB_parts (vs := [.agg [.int .i64 g445, .int .i64 2].toArray]) (by decide) rfl rfl ⟨rfl, trivial⟩ rfl) H ⟨[.int .i64 g445, .int .i64 2], [], rfl, (rFlaw_mk (x := Flaw.mk g445 2)), rfl⟩) ?_
                rintro v503 w504 H
                obtain ⟨x505, e506, hF⟩ := bindO_some hF
                refine RL_ex rfl rfl (Lx_app H (i := 0) rfl u50 el80 rfl rfl (Sr.of_own (H.item (i := 2) rfl)) e506) ?_
                rintro v507 w508 H
                refine RL_do rfl rfl (Do_assign (v := v507) rfl) ?_
                have hR := Option.some.inj hF
                subst hR
                refine (RL_nil (blockQ_n (thenQ_n (And.intro ?_ ?_))))
                · repeat' (first | with_reducible exact Fr_refl | refine Fr_upd rfl ?_ | refine Fr_over rfl rfl ?_)
                · exact ⟨v507, (Sl_cons rfl Sl_nil), H.pick [0, 1] (by decide)⟩
              · have hF := iteB_f c499 hF
                have hR := Option.some.inj hF
                subst hR
                refine (WP_skip (blockQ_n (thenQ_n (And.intro ?_ ?_))))
                · repeat' (first | with_reducible exact Fr_refl | refine Fr_upd rfl ?_ | refine Fr_over rfl rfl ?_)
                · exact ⟨v444, (Sl_cons rfl Sl_nil), H.pick [0, 1] (by decide)⟩
            · rintro v484 ρ w485 H
              have hF := hK486
              refine WP_region ?_
              refine RL_do rfl rfl (Do_move (v := .int .i64 g445) rfl) ?_
              obtain ⟨x509, e510, hF⟩ := letO_some hF
              refine RL_do rfl rfl (Do_add (a := g445) (b := 1) rfl rfl e510) ?_
              refine RL_do rfl rfl (Do_assign (v := .int .i64 x509) rfl) ?_
              refine (RL_nil (thenQ_n (And.intro ?_ ?_)))
              · repeat' (first | with_reducible exact Fr_refl | refine Fr_upd rfl ?_ | refine Fr_over rfl rfl ?_)
              · exact ⟨(n451, g483, x509, v484), (Sl_cons rfl (Sl_cons rfl Sl_nil)), ⟨H.pick [0, 1] (by decide), hF⟩, Nat.lt_succ_self _⟩
          · have hF := iteB_f c460 hF
            have hR := Option.some.inj hF
            subst hR
            refine (WP_exit (thenQ_x (thenQ_x (blockQ_eq (thenQ_n (And.intro ?_ ?_))))))
            · repeat' (first | with_reducible exact Fr_refl | refine Fr_upd rfl ?_ | refine Fr_over rfl rfl ?_)
            · exact ⟨v444, (Sl_cons rfl Sl_nil), H.pick [0, 1] (by decide)⟩
        · rintro v362 ρ w363 H
          have hF := hK364
          obtain ⟨g536, hF, hK539⟩ := bindO_some hF
          refine WP_seqS [3, 50, 51, 52, 53, 54, 55, 56, 57, 58, 59, 60] (fun (g : Value) => [(3, g)]) (fun g wl => Hd O w wl S [.own rFlaw g 80 g536, .blk b3 ((Fl.arr 64 (Fl.int .u16)).f p0) 25]) ?_ ?_
          · skip
            refine WP_seq_k fun K540 hK540 => ?_
            have H541 := H
            have H := H.rebase
            have H542 := H
            refine WP_mix0 H [0, 1, 2, 3, 4, 5, 6] [.pure, .read, .pure, .pure, .read, .fcall, .pure] mixed (by kernel_rfl) (by kernel_rfl) (by kernel_rfl) rfl ?_
            obtain ⟨x543, e544, hF⟩ := bindO_some hF
            refine Mx.XL_pure rfl rfl rfl (fun w' hw' => Do_idxA (X := p0) u25 sz23 rfl rfl e544) ?_
            refine Mx.XL_read oS rfl rfl rfl (fun w' hw' => Do_load1 (v := .int .u16 x543) one23 rfl (Cells.ix (e := (Fl.int .u16)) (x := p0) (Blk.cells ((H.sees hw').item (i := 1) rfl)) e544)) ?_
            obtain ⟨x545, e546, hF⟩ := letO_some hF
            refine Mx.XL_pure rfl rfl rfl (fun w' hw' => Do_conv u23 u3 rfl e546) ?_
            obtain ⟨x547, e548, hF⟩ := bindO_some hF
            refine Mx.XL_pure rfl rfl rfl (fun w' hw' => Do_rem' (j := x545) (q := 2048) rfl rfl e548) ?_
            refine Mx.XL_read oS rfl rfl rfl (fun w' hw' => Do_loadF (e := (Fl.arr 64 (Fl.int .u16))) (a := p0) agg25 rfl sz25 (Blk.cells ((H.sees hw').item (i := 1) rfl))) ?_
            have H549 := H
            obtain ⟨x550, e551, hF⟩ := bindO_some hF
            refine Mx.XL_fcall oS rfl rfl rfl (v := .int .i64 x550) (fun w' hw' => DoC_func en102 rfl) (fun w' hw' => call_read (X_sum_w p0 _ e551 _ _ _ (Hd.fresh0 w'))) ?_
            have H := H549
            obtain ⟨x552, e553, hF⟩ := letO_some hF
            refine Mx.XL_pure rfl rfl rfl (fun w' hw' => Do_as (Do_neq (a := x547) (b := x550) rfl rfl) (congrArg Value.bool e553)) ?_
            refine Mx.XL_nil fun w554 hS => ?_
            have H := H.sees hS
            have H := H541.rejoin H
            refine (thenQ_n (hK540 _ _ ?_))
            refine WP_ifb (b := x552) rfl (fun c555 => ?_) (fun c555 => ?_)
            · have hF := iteB_t c555 hF
              refine WP_region ?_
              refine RL_do rfl rfl (Do_move (v := v362) rfl) ?_
              refine RL_do rfl rfl (Do_build (cs := [.int .i64 61, .int .i64 3]) (bt80_0_1 _ _)) ?_
              obtain ⟨x556, e557, hF⟩ := letO_some hF
              subst e557
              refine RL_ex rfl rfl (Lx_bs (r := rFlaw) (xl := [Flaw.mk 61 3]) (cs := [.int .i64 61, .int .i64 3]) u50 el80 (by decide) (by decide) rfl (fillB_parts (vs := [.agg [.int .i64 61, .int .i64 3].toArray]) (by decide) rfl rfl ⟨rfl, trivial⟩ rfl) H ⟨[.int .i64 61, .int .i64 3], [], rfl, (rFlaw_mk (x := Flaw.mk 61 3)), rfl⟩) ?_
              rintro v559 w560 H
              obtain ⟨x561, e562, hF⟩ := bindO_some hF
              refine RL_ex rfl rfl (Lx_app H (i := 0) rfl u50 el80 rfl rfl (Sr.of_own (H.item (i := 2) rfl)) e562) ?_
              rintro v563 w564 H
              refine RL_do rfl rfl (Do_assign (v := v563) rfl) ?_
              have hR := Option.some.inj hF
              subst hR
              refine (RL_nil (thenQ_n (And.intro ?_ ?_)))
              · repeat' (first | with_reducible exact Fr_refl | refine Fr_upd rfl ?_ | refine Fr_over rfl rfl ?_)
              · exact ⟨v563, (Sl_cons rfl Sl_nil), H.pick [0, 1] (by decide)⟩
            · have hF := iteB_f c555 hF
              have hR := Option.some.inj hF
              subst hR
              refine (WP_skip (thenQ_n (And.intro ?_ ?_)))
              · repeat' (first | with_reducible exact Fr_refl | refine Fr_upd rfl ?_ | refine Fr_over rfl rfl ?_)
              · exact ⟨v362, (Sl_cons rfl Sl_nil), H.pick [0, 1] (by decide)⟩
          · rintro v537 ρ w538 H
            have hF := hK539
            obtain ⟨g600, hF, hK603⟩ := bindO_some hF
            refine WP_seqS [3, 61, 62, 63, 64, 65, 66, 67, 68, 69, 70, 71, 72, 73, 74, 75, 76, 77] (fun (g : Value) => [(3, g)]) (fun g wl => Hd O w wl S [.own rFlaw g 80 g600]) ?_ ?_
            · skip
              refine WP_seq_k fun K604 hK604 => ?_
              have H605 := H
              have H := H.rebase
              have H606 := H
              refine WP_mix0 H [0, 1, 2, 3, 4, 5, 6, 7, 8, 9, 10, 11, 12] [.pure, .read, .pure, .pure, .pure, .pure, .read, .pure, .pure, .pure, .read, .fcall, .pure] mixed (by kernel_rfl) (by kernel_rfl) (by kernel_rfl) rfl ?_
              obtain ⟨x607, e608, hF⟩ := bindO_some hF
              refine Mx.XL_pure rfl rfl rfl (fun w' hw' => Do_idxA (X := p0) u25 sz23 rfl rfl e608) ?_
              refine Mx.XL_read oS rfl rfl rfl (fun w' hw' => Do_load1 (v := .int .u16 x607) one23 rfl (Cells.ix (e := (Fl.int .u16)) (x := p0) (Blk.cells ((H.sees hw').item (i := 1) rfl)) e608)) ?_
              obtain ⟨x609, e610, hF⟩ := letO_some hF
              refine Mx.XL_pure rfl rfl rfl (fun w' hw' => Do_conv u23 u3 rfl e610) ?_
              obtain ⟨x611, e612, hF⟩ := bindO_some hF
              refine Mx.XL_pure rfl rfl rfl (fun w' hw' => Do_rem' (j := x609) (q := 2048) rfl rfl e612) ?_
              obtain ⟨x613, e614, hF⟩ := letO_some hF
              refine Mx.XL_pure rfl rfl rfl (fun w' hw' => Do_mul (a := x611) (b := 2048) rfl rfl e614) ?_
              obtain ⟨x615, e616, hF⟩ := bindO_some hF
              refine Mx.XL_pure rfl rfl rfl (fun w' hw' => Do_idxA (X := p0) u25 sz23 rfl rfl e616) ?_
              refine Mx.XL_read oS rfl rfl rfl (fun w' hw' => Do_load1 (v := .int .u16 x615) one23 rfl (Cells.ix (e := (Fl.int .u16)) (x := p0) (Blk.cells ((H.sees hw').item (i := 1) rfl)) e616)) ?_
              obtain ⟨x617, e618, hF⟩ := letO_some hF
              refine Mx.XL_pure rfl rfl rfl (fun w' hw' => Do_conv u23 u3 rfl e618) ?_
              obtain ⟨x619, e620, hF⟩ := bindO_some hF
              refine Mx.XL_pure rfl rfl rfl (fun w' hw' => Do_rem' (j := x617) (q := 2048) rfl rfl e620) ?_
              obtain ⟨x621, e622, hF⟩ := letO_some hF
              refine Mx.XL_pure rfl rfl rfl (fun w' hw' => Do_add (a := x613) (b := x619) rfl rfl e622) ?_
              refine Mx.XL_read oS rfl rfl rfl (fun w' hw' => Do_loadF (e := (Fl.arr 64 (Fl.int .u16))) (a := p0) agg25 rfl sz25 (Blk.cells ((H.sees hw').item (i := 1) rfl))) ?_
              have H623 := H
              obtain ⟨x624, e625, hF⟩ := bindO_some hF
              refine Mx.XL_fcall oS rfl rfl rfl (v := .int .i64 x624) (fun w' hw' => DoC_func en103 rfl) (fun w' hw' => call_read (X_check_w p0 _ e625 _ _ _ (Hd.fresh0 w'))) ?_
              have H := H623
              obtain ⟨x626, e627, hF⟩ := letO_some hF
              refine Mx.XL_pure rfl rfl rfl (fun w' hw' => Do_as (Do_neq (a := x621) (b := x624) rfl rfl) (congrArg Value.bool e627)) ?_
              refine Mx.XL_nil fun w628 hS => ?_
              have H := H.sees hS
              have H := H605.rejoin H
              refine (thenQ_n (hK604 _ _ ?_))
              refine WP_ifb (b := x626) rfl (fun c629 => ?_) (fun c629 => ?_)
              · have hF := iteB_t c629 hF
                refine WP_region ?_
                refine RL_do rfl rfl (Do_move (v := v537) rfl) ?_
                refine RL_do rfl rfl (Do_build (cs := [.int .i64 62, .int .i64 4]) (bt80_0_1 _ _)) ?_
                obtain ⟨x630, e631, hF⟩ := letO_some hF
                subst e631
                refine RL_ex rfl rfl (Lx_bs (r := rFlaw) (xl := [Flaw.mk 62 4]) (cs := [.int .i64 62, .int .i64 4]) u50 el80 (by decide) (by decide) rfl (fillB_parts (vs := [.agg [.int .i64 62, .int .i64 4].toArray]) (by decide) rfl rfl ⟨rfl, trivial⟩ rfl) H ⟨[.int .i64 62, .int .i64 4], [], rfl, (rFlaw_mk (x := Flaw.mk 62 4)), rfl⟩) ?_
                rintro v633 w634 H
                obtain ⟨x635, e636, hF⟩ := bindO_some hF
                refine RL_ex rfl rfl (Lx_app H (i := 0) rfl u50 el80 rfl rfl (Sr.of_own (H.item (i := 2) rfl)) e636) ?_
                rintro v637 w638 H
                refine RL_do rfl rfl (Do_assign (v := v637) rfl) ?_
                have hR := Option.some.inj hF
                subst hR
                refine (RL_nil (thenQ_n (And.intro ?_ ?_)))
                · repeat' (first | with_reducible exact Fr_refl | refine Fr_upd rfl ?_ | refine Fr_over rfl rfl ?_)
                · exact ⟨v637, (Sl_cons rfl Sl_nil), H.pick [0] (by decide)⟩
              · have hF := iteB_f c629 hF
                have hR := Option.some.inj hF
                subst hR
                refine (WP_skip (thenQ_n (And.intro ?_ ?_)))
                · repeat' (first | with_reducible exact Fr_refl | refine Fr_upd rfl ?_ | refine Fr_over rfl rfl ?_)
                · exact ⟨v537, (Sl_cons rfl Sl_nil), H.pick [0] (by decide)⟩
            · rintro v601 ρ w602 H
              have hF := hK603
              refine WP_seq_k fun K639 hK639 => ?_
              refine WP_region ?_
              refine RL_do rfl rfl (Do_move (v := v601) rfl) ?_
              refine RL_do rfl rfl (Do_assign (v := v601) rfl) ?_
              refine (RL_nil (thenQ_n (hK639 _ _ ?_)))
              have hR := Option.some.inj hF
              subst hR
              refine (WP_ret (post1 (v1 := v601) rfl rfl ?_))
              exact ⟨v601, rfl, H.pick [0] (by decide)⟩
end Go.Proofs.YtafgmocdnjdmoaaDoor.L
namespace Go.Proofs.YtafgmocdnjdmoaaDoor.L
open Go.RowKit Go.OB Go.Lf
/- orangebox/orangeboxref1.Sound -/
set_option maxHeartbeats 4000000 in
theorem F_ref1_Sound_w (p0 : Arr 64 Int) (r : Bool) (hF : F_ref1_Sound p0 = some r) (O S : List Nat) (w : World) (H : Hd O w w S []) :
    Calls Tryd.prog 104 ([.agg ((Fl.arr 64 (Fl.int .u16)).f p0).toArray] : List Value).toArray w fun e w' => e = .returned (.bool r) ∧ Hd O w w' S [] := by
  unfold F_ref1_Sound at hF
  refine calls_of_WP 7 Tryd.func104 rfl rfl rfl ?_
  refine WP_seq_k fun K1 hK1 => ?_
  refine WP_region ?_
  refine RL_ex rfl rfl (Lx_box (cs := (Fl.arr 64 (Fl.int .u16)).f p0) rfl H) ?_
  rintro _ w4 ⟨b2, rfl, H⟩
  refine RL_do rfl rfl (Do_assign (v := .bool false) rfl) ?_
  refine (RL_nil (thenQ_n (hK1 _ _ ?_)))
  refine WP_seq_k fun K5 hK5 => ?_
  refine WP_region ?_
  refine RL_do rfl rfl (Do_loadF (e := (Fl.arr 64 (Fl.int .u16))) (a := p0) agg25 rfl sz25 (Blk.cells (H.item (i := 0) rfl))) ?_
  obtain ⟨x6, e7, hF⟩ := bindO_some hF
  refine RL_call rfl rfl (DoC_func en55 rfl) (F_ref1_Flaws_w p0 _ e7 _ _ _ (H.enter [] [] (by decide) rfl)) ?_
  rintro _ w10 ⟨v8, rfl, G11⟩
  have H := H.back1 [] rfl G11
  refine ⟨_, rfl, ?_⟩
  obtain ⟨x12, e13, hF⟩ := letO_some hF
  obtain ⟨a14, c15, q16⟩ := Sr.len (Sr.of_own (H.item (i := 1) rfl))
  refine RL_do rfl rfl (Do_as (Do_len u50 q16) (congrArg (Value.int .i64) e13)) ?_
  obtain ⟨x17, e18, hF⟩ := letO_some hF
  refine RL_do rfl rfl (Do_as (Do_eql (a := x12) (b := 0) rfl rfl) (congrArg Value.bool e18)) ?_
  refine RL_do rfl rfl (Do_assign (v := .bool x17) rfl) ?_
  refine (RL_nil (thenQ_n (hK5 _ _ ?_)))
  have hR := Option.some.inj hF
  subst hR
  refine (WP_ret (post1 (v1 := .bool x17) rfl rfl ?_))
  exact ⟨rfl, H.pick [] (by decide)⟩
end Go.Proofs.YtafgmocdnjdmoaaDoor.L
namespace Go.Proofs.YtafgmocdnjdmoaaDoor.L
open Go.RowKit Go.OB Go.Lf
/- orangebox/orangeboxref1.PutWord -/
set_option maxHeartbeats 4000000 in
theorem F_ref1_PutWord_w (p0 : Arr 64 Int) (p1 : Int) (r : (Arr 64 Int)) (hF : F_ref1_PutWord p0 p1 = some r) (O S : List Nat) (w : World) (H : Hd O w w S []) :
    Calls Tryd.prog 105 ([.agg ((Fl.arr 64 (Fl.int .u16)).f p0).toArray, .int .i64 p1] : List Value).toArray w fun e w' => e = .returned (.agg ((Fl.arr 64 (Fl.int .u16)).f r).toArray) ∧ Hd O w w' S [] := by
  unfold F_ref1_PutWord at hF
  refine calls_of_WP 57 Tryd.func105 rfl rfl rfl ?_
  refine WP_seq_k fun K1 hK1 => ?_
  refine WP_region ?_
  refine RL_ex rfl rfl (Lx_box (cs := (Fl.arr 64 (Fl.int .u16)).f p0) rfl H) ?_
  rintro _ w4 ⟨b2, rfl, H⟩
  refine RL_ex rfl rfl (Lx_alloc zero25 H) ?_
  rintro _ w7 ⟨b5, rfl, H⟩
  refine (RL_nil (thenQ_n (hK1 _ _ ?_)))
  obtain ⟨g128, hF, hK130⟩ := bindO_some hF
  refine WP_seqS [5, 6, 7, 8, 9, 10, 11, 12, 13, 14, 15, 16, 17, 18, 19, 20, 21, 22, 23, 24, 25, 26, 27, 28, 29, 30, 31, 32, 33, 34, 35, 36, 37, 38, 39, 40, 41, 42, 43, 44, 45, 46, 47, 48, 49, 50, 51, 52, 53, 54, 55] (fun (g : Unit) => []) (fun g wl => Hd O w wl S [.blk b2 ((Fl.arr 64 (Fl.int .u16)).f g128) 25, .blk b5 ((Fl.arr 64 (Fl.int .u16)).f (Arr.rep 64 0 : Arr 64 Int)) 25]) ?_ ?_
  · skip
    refine WP_block ?_
    refine WP_seq_k fun K131 hK131 => ?_
    refine WP_region ?_
    refine RL_do rfl rfl (Do_move (v := .int .i64 p1) rfl) ?_
    obtain ⟨x132, e133, hF⟩ := letO_some hF
    refine RL_do rfl rfl (Do_as (Do_eql (a := p1) (b := 0) rfl rfl) (congrArg Value.bool e133)) ?_
    refine RL_do rfl rfl (Do_assign (v := .bool x132) rfl) ?_
    refine (RL_nil (thenQ_n (hK131 _ _ ?_)))
    refine WP_ifb (b := x132) rfl (fun c134 => ?_) (fun c134 => ?_)
    · have hF := iteB_t c134 hF
      refine WP_region ?_
      refine RL_do rfl rfl (Do_loadF (e := (Fl.arr 64 (Fl.int .u16))) (a := p0) agg25 rfl sz25 (Blk.cells (H.item (i := 0) rfl))) ?_
      have H135 := H
      obtain ⟨x136, e137, hF⟩ := bindO_some hF
      refine RL_call rfl rfl (DoC_func en101 rfl) (F_ref1_numberOf_w p0 _ e137 _ _ _ (H.enter [] [] (by decide) rfl)) ?_
      rintro _ w138 ⟨rfl, G139⟩
      have H := H135.step (G139.only : Only [] _ _)
      refine ⟨_, rfl, ?_⟩
      have H140 := H
      obtain ⟨x141, e142, hF⟩ := bindO_some hF
      refine RL_call rfl rfl (DoC_func en88 rfl) (F_ref1_syncOf_w x136 _ e142 _ _ _ (H.enter [] [] (by decide) rfl)) ?_
      rintro _ w143 ⟨rfl, G144⟩
      have H := H140.step (G144.only : Only [] _ _)
      refine ⟨_, rfl, ?_⟩
      obtain ⟨x145, e146, hF⟩ := letO_some hF
      refine RL_do rfl rfl (Do_conv u3 u23 rfl e146) ?_
      obtain ⟨x147, e148, hF⟩ := bindO_some hF
      refine RL_do rfl rfl (Do_idxA (X := p0) u25 sz23 rfl rfl e148) ?_
      obtain ⟨x149, e150, hF⟩ := letO_some hF
      refine RL_exU rfl (Lx_storeA (e := (Fl.int .u16)) (X := p0) (a := x145) (j := 0) H 0 rfl sz23 rfl (v := .int .u16 x145) rfl rfl (Arr.at_lt e148).1 (Arr.at_lt e148).2 e150) ?_
      rintro w151 H
      have hR := Option.some.inj hF
      subst hR
      refine (RL_nil (blockQ_n (thenQ_n (And.intro ?_ ?_))))
      · repeat' (first | with_reducible exact Fr_refl | refine Fr_upd rfl ?_ | refine Fr_over rfl rfl ?_)
      · exact ⟨(), Sl_nil, H.pick [0, 1] (by decide)⟩
    · have hF := iteB_f c134 hF
      refine WP_seq_k fun K152 hK152 => ?_
      refine WP_region ?_
      refine RL_do rfl rfl (Do_move (v := .int .i64 p1) rfl) ?_
      obtain ⟨x153, e154, hF⟩ := letO_some hF
      refine RL_do rfl rfl (Do_as (Do_leq (a := p1) (b := 60) rfl rfl) (congrArg Value.bool e154)) ?_
      refine RL_do rfl rfl (Do_assign (v := .bool x153) rfl) ?_
      refine (RL_nil (thenQ_n (hK152 _ _ ?_)))
      refine WP_ifb (b := x153) rfl (fun c155 => ?_) (fun c155 => ?_)
      · have hF := iteB_t c155 hF
        have H156 := H
        have H := H.rebase
        have H157 := H
        refine WP_mix0 H [0, 1, 2, 3, 4, 5, 6, 7, 8, 9, 10, 11, 12, 13, 14, 15, 16, 17] [.pure, .pure, .pure, .read, .pure, .pure, .read, .fcall, .pure, .pure, .read, .pure, .pure, .pure, .fcall, .pure, .pure, .eff] mixed (by kernel_rfl) (by kernel_rfl) (by kernel_rfl) rfl ?_
        refine Mx.XL_pure rfl rfl rfl (fun w' hw' => Do_move (v := .int .i64 p1) rfl) ?_
        refine Mx.XL_pure rfl rfl rfl (fun w' hw' => Do_move (v := .int .i64 p1) rfl) ?_
        obtain ⟨x158, e159, hF⟩ := bindO_some hF
        refine Mx.XL_pure rfl rfl rfl (fun w' hw' => Do_idxA (X := p0) u25 sz23 rfl rfl e159) ?_
        refine Mx.XL_read oS rfl rfl rfl (fun w' hw' => Do_load1 (v := .int .u16 x158) one23 rfl (Cells.ix (e := (Fl.int .u16)) (x := p0) (Blk.cells ((H.sees hw').item (i := 0) rfl)) e159)) ?_
        obtain ⟨x160, e161, hF⟩ := letO_some hF
        refine Mx.XL_pure rfl rfl rfl (fun w' hw' => Do_conv u23 u3 rfl e161) ?_
        obtain ⟨x162, e163, hF⟩ := bindO_some hF
        refine Mx.XL_pure rfl rfl rfl (fun w' hw' => Do_rem' (j := x160) (q := 2048) rfl rfl e163) ?_
        refine Mx.XL_read oS rfl rfl rfl (fun w' hw' => Do_loadF (e := (Fl.arr 64 (Fl.int .u16))) (a := p0) agg25 rfl sz25 (Blk.cells ((H.sees hw').item (i := 0) rfl))) ?_
        have H164 := H
        obtain ⟨x165, e166, hF⟩ := bindO_some hF
        refine Mx.XL_fcall oS rfl rfl rfl (v := .int .i64 x165) (fun w' hw' => DoC_func en102 rfl) (fun w' hw' => call_read (X_sum_w p0 _ e166 _ _ _ (Hd.fresh0 w'))) ?_
        have H := H164
        obtain ⟨x167, e168, hF⟩ := letO_some hF
        refine Mx.XL_pure rfl rfl rfl (fun w' hw' => Do_xor (a := x162) (b := x165) rfl rfl e168) ?_
        obtain ⟨x169, e170, hF⟩ := bindO_some hF
        refine Mx.XL_pure rfl rfl rfl (fun w' hw' => Do_idxA (X := p0) u25 sz23 rfl rfl e170) ?_
        refine Mx.XL_read oS rfl rfl rfl (fun w' hw' => Do_load1 (v := .int .u16 x169) one23 rfl (Cells.ix (e := (Fl.int .u16)) (x := p0) (Blk.cells ((H.sees hw').item (i := 0) rfl)) e170)) ?_
        obtain ⟨x171, e172, hF⟩ := letO_some hF
        refine Mx.XL_pure rfl rfl rfl (fun w' hw' => Do_conv u23 u3 rfl e172) ?_
        obtain ⟨x173, e174, hF⟩ := bindO_some hF
        refine Mx.XL_pure rfl rfl rfl (fun w' hw' => Do_rem' (j := x171) (q := 2048) rfl rfl e174) ?_
        obtain ⟨x175, e176, hF⟩ := letO_some hF
        refine Mx.XL_pure rfl rfl rfl (fun w' hw' => Do_xor (a := x167) (b := x173) rfl rfl e176) ?_
        have H177 := H
        obtain ⟨x178, e179, hF⟩ := bindO_some hF
        refine Mx.XL_fcall oS rfl rfl rfl (v := .int .i64 x178) (fun w' hw' => DoC_func en84 rfl) (fun w' hw' => call_read (X_word_w x175 _ e179 _ _ _ (Hd.fresh0 w'))) ?_
        have H := H177
        obtain ⟨x180, e181, hF⟩ := letO_some hF
        refine Mx.XL_pure rfl rfl rfl (fun w' hw' => Do_conv u3 u23 rfl e181) ?_
        obtain ⟨x182, e183, hF⟩ := bindO_some hF
        refine Mx.XL_pure rfl rfl rfl (fun w' hw' => Do_idxA (X := p0) u25 sz23 rfl rfl e183) ?_
        obtain ⟨x184, e185, hF⟩ := letO_some hF
        refine Mx.XL_exU oS rfl rfl (fun w' hw' => Lx_storeA (e := (Fl.int .u16)) (X := p0) (a := x180) (j := p1) (H.sees hw') 0 rfl sz23 rfl (v := .int .u16 x180) rfl rfl (Arr.at_lt e183).1 (Arr.at_lt e183).2 e185) ?_
        rintro w' w186 hw' H
        refine ⟨H.only, ?_⟩
        refine Mx.XL_nil fun w187 hS => ?_
        have H := H.sees hS
        have H := H156.rejoin H
        have hR := Option.some.inj hF
        subst hR
        refine (blockQ_n (thenQ_n (And.intro ?_ ?_)))
        · repeat' (first | with_reducible exact Fr_refl | refine Fr_upd rfl ?_ | refine Fr_over rfl rfl ?_)
        · exact ⟨(), Sl_nil, H.pick [0, 1] (by decide)⟩
      · have hF := iteB_f c155 hF
        refine WP_seq_k fun K188 hK188 => ?_
        refine WP_region ?_
        refine RL_do rfl rfl (Do_move (v := .int .i64 p1) rfl) ?_
        obtain ⟨x189, e190, hF⟩ := letO_some hF
        refine RL_do rfl rfl (Do_as (Do_eql (a := p1) (b := 61) rfl rfl) (congrArg Value.bool e190)) ?_
        refine RL_do rfl rfl (Do_assign (v := .bool x189) rfl) ?_
        refine (RL_nil (thenQ_n (hK188 _ _ ?_)))
        refine WP_ifb (b := x189) rfl (fun c191 => ?_) (fun c191 => ?_)
        · have hF := iteB_t c191 hF
          refine WP_region ?_
          refine RL_do rfl rfl (Do_loadF (e := (Fl.arr 64 (Fl.int .u16))) (a := p0) agg25 rfl sz25 (Blk.cells (H.item (i := 0) rfl))) ?_
          have H192 := H
          obtain ⟨x193, e194, hF⟩ := bindO_some hF
          refine RL_call rfl rfl (DoC_func en102 rfl) (X_sum_w p0 _ e194 _ _ _ (H.enter [] [] (by decide) rfl)) ?_
          rintro _ w195 ⟨rfl, G196⟩
          have H := H192.step (G196.only : Only [] _ _)
          refine ⟨_, rfl, ?_⟩
          have H197 := H
          obtain ⟨x198, e199, hF⟩ := bindO_some hF
          refine RL_call rfl rfl (DoC_func en84 rfl) (X_word_w x193 _ e199 _ _ _ (H.enter [] [] (by decide) rfl)) ?_
          rintro _ w200 ⟨rfl, G201⟩
          have H := H197.step (G201.only : Only [] _ _)
          refine ⟨_, rfl, ?_⟩
          obtain ⟨x202, e203, hF⟩ := letO_some hF
          refine RL_do rfl rfl (Do_conv u3 u23 rfl e203) ?_
          obtain ⟨x204, e205, hF⟩ := bindO_some hF
          refine RL_do rfl rfl (Do_idxA (X := p0) u25 sz23 rfl rfl e205) ?_
          obtain ⟨x206, e207, hF⟩ := letO_some hF
          refine RL_exU rfl (Lx_storeA (e := (Fl.int .u16)) (X := p0) (a := x202) (j := 61) H 0 rfl sz23 rfl (v := .int .u16 x202) rfl rfl (Arr.at_lt e205).1 (Arr.at_lt e205).2 e207) ?_
          rintro w208 H
          have hR := Option.some.inj hF
          subst hR
          refine (RL_nil (blockQ_n (thenQ_n (And.intro ?_ ?_))))
          · repeat' (first | with_reducible exact Fr_refl | refine Fr_upd rfl ?_ | refine Fr_over rfl rfl ?_)
          · exact ⟨(), Sl_nil, H.pick [0, 1] (by decide)⟩
        · have hF := iteB_f c191 hF
          refine WP_seq_k fun K209 hK209 => ?_
          refine WP_region ?_
          refine RL_do rfl rfl (Do_move (v := .int .i64 p1) rfl) ?_
          obtain ⟨x210, e211, hF⟩ := letO_some hF
          refine RL_do rfl rfl (Do_as (Do_eql (a := p1) (b := 62) rfl rfl) (congrArg Value.bool e211)) ?_
          refine RL_do rfl rfl (Do_assign (v := .bool x210) rfl) ?_
          refine (RL_nil (thenQ_n (hK209 _ _ ?_)))
          refine WP_ifb (b := x210) rfl (fun c212 => ?_) (fun c212 => ?_)
          · have hF := iteB_t c212 hF
            refine WP_region ?_
            refine RL_do rfl rfl (Do_loadF (e := (Fl.arr 64 (Fl.int .u16))) (a := p0) agg25 rfl sz25 (Blk.cells (H.item (i := 0) rfl))) ?_
            have H213 := H
            obtain ⟨x214, e215, hF⟩ := bindO_some hF
            refine RL_call rfl rfl (DoC_func en103 rfl) (X_check_w p0 _ e215 _ _ _ (H.enter [] [] (by decide) rfl)) ?_
            rintro _ w216 ⟨rfl, G217⟩
            have H := H213.step (G217.only : Only [] _ _)
            refine ⟨_, rfl, ?_⟩
            obtain ⟨x218, e219, hF⟩ := bindO_some hF
            refine RL_do rfl rfl (Do_quo' (j := x214) (q := 2048) rfl rfl e219) ?_
            have H220 := H
            obtain ⟨x221, e222, hF⟩ := bindO_some hF
            refine RL_call rfl rfl (DoC_func en84 rfl) (X_word_w x218 _ e222 _ _ _ (H.enter [] [] (by decide) rfl)) ?_
            rintro _ w223 ⟨rfl, G224⟩
            have H := H220.step (G224.only : Only [] _ _)
            refine ⟨_, rfl, ?_⟩
            obtain ⟨x225, e226, hF⟩ := letO_some hF
            refine RL_do rfl rfl (Do_conv u3 u23 rfl e226) ?_
            obtain ⟨x227, e228, hF⟩ := bindO_some hF
            refine RL_do rfl rfl (Do_idxA (X := p0) u25 sz23 rfl rfl e228) ?_
            obtain ⟨x229, e230, hF⟩ := letO_some hF
            refine RL_exU rfl (Lx_storeA (e := (Fl.int .u16)) (X := p0) (a := x225) (j := 62) H 0 rfl sz23 rfl (v := .int .u16 x225) rfl rfl (Arr.at_lt e228).1 (Arr.at_lt e228).2 e230) ?_
            rintro w231 H
            have hR := Option.some.inj hF
            subst hR
            refine (RL_nil (blockQ_n (thenQ_n (And.intro ?_ ?_))))
            · repeat' (first | with_reducible exact Fr_refl | refine Fr_upd rfl ?_ | refine Fr_over rfl rfl ?_)
            · exact ⟨(), Sl_nil, H.pick [0, 1] (by decide)⟩
          · have hF := iteB_f c212 hF
            refine WP_region ?_
            refine RL_do rfl rfl (Do_loadF (e := (Fl.arr 64 (Fl.int .u16))) (a := p0) agg25 rfl sz25 (Blk.cells (H.item (i := 0) rfl))) ?_
            have H232 := H
            obtain ⟨x233, e234, hF⟩ := bindO_some hF
            refine RL_call rfl rfl (DoC_func en103 rfl) (X_check_w p0 _ e234 _ _ _ (H.enter [] [] (by decide) rfl)) ?_
            rintro _ w235 ⟨rfl, G236⟩
            have H := H232.step (G236.only : Only [] _ _)
            refine ⟨_, rfl, ?_⟩
            obtain ⟨x237, e238, hF⟩ := bindO_some hF
            refine RL_do rfl rfl (Do_rem' (j := x233) (q := 2048) rfl rfl e238) ?_
            have H239 := H
            obtain ⟨x240, e241, hF⟩ := bindO_some hF
            refine RL_call rfl rfl (DoC_func en84 rfl) (X_word_w x237 _ e241 _ _ _ (H.enter [] [] (by decide) rfl)) ?_
            rintro _ w242 ⟨rfl, G243⟩
            have H := H239.step (G243.only : Only [] _ _)
            refine ⟨_, rfl, ?_⟩
            obtain ⟨x244, e245, hF⟩ := letO_some hF
            refine RL_do rfl rfl (Do_conv u3 u23 rfl e245) ?_
            obtain ⟨x246, e247, hF⟩ := bindO_some hF
            refine RL_do rfl rfl (Do_idxA (X := p0) u25 sz23 rfl rfl e247) ?_
            obtain ⟨x248, e249, hF⟩ := letO_some hF
            refine RL_exU rfl (Lx_storeA (e := (Fl.int .u16)) (X := p0) (a := x244) (j := 63) H 0 rfl sz23 rfl (v := .int .u16 x244) rfl rfl (Arr.at_lt e247).1 (Arr.at_lt e247).2 e249) ?_
            rintro w250 H
            have hR := Option.some.inj hF
            subst hR
            refine (RL_nil (blockQ_n (thenQ_n (And.intro ?_ ?_))))
            · repeat' (first | with_reducible exact Fr_refl | refine Fr_upd rfl ?_ | refine Fr_over rfl rfl ?_)
            · exact ⟨(), Sl_nil, H.pick [0, 1] (by decide)⟩
  · rintro _ ρ w129 H
    have hF := hK130
    refine WP_seq_k fun K251 hK251 => ?_
    refine WP_region ?_
    refine RL_do rfl rfl (Do_loadF (e := (Fl.arr 64 (Fl.int .u16))) (a := g128) agg25 rfl sz25 (Blk.cells (H.item (i := 0) rfl))) ?_
    refine RL_exU rfl (Lx_storeW (e := (Fl.arr 64 (Fl.int .u16))) (a := (Arr.rep 64 0 : Arr 64 Int)) (a' := g128) H 1 rfl sz25 rfl rfl) ?_
    rintro w252 H
    refine (RL_nil (thenQ_n (hK251 _ _ ?_)))
    have hR := Option.some.inj hF
    subst hR
    refine (WP_ret (postc  rfl rfl (run_loadVar_agg agg25 sz25 (Fl.len _ _) (Blk.cells (H.item (i := 1) rfl))) ?_))
    exact ⟨rfl, H.pick [] (by decide)⟩
end Go.Proofs.YtafgmocdnjdmoaaDoor.L
