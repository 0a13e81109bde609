/- Walks: what each function computes, for every argument; no condition but those that stand in the statements. -/
import Derived.Test.YtafgmocdnjdmoaaDoorAV0
namespace Go.Proofs.YtafgmocdnjdmoaaDoor.L
open Go.RowKit Go.OB Go.Lf
/- orangebox/frame.Mend -/
set_option maxHeartbeats 4000000 in
theorem F_frame_Mend_w (p0 : Arr 64 Int) (r : (Arr 64 Int) × (List Int) × Bool) (hF : F_frame_Mend p0 = some r) (O S : List Nat) (w : World) (H : Hd O w w S [.fz (.at 0 0 ((Fl.arr 4 (Fl.int .u16)).f G_frame_syncs))]) :
    Calls Tryd.prog 44 ([.agg ((Fl.arr 64 (Fl.int .u16)).f p0).toArray] : List Value).toArray w fun e w' => ∃ u2, e = .returned (.tuple #[.agg ((Fl.arr 64 (Fl.int .u16)).f r.1).toArray, u2, .bool r.2.2]) ∧ Hd O w w' S [.own (Rp.int .i64) u2 3 r.2.1] := by
  unfold F_frame_Mend at hF
  refine calls_of_WP 32 Tryd.func44 rfl rfl rfl ?_
  refine WP_seq_k fun K3 hK3 => ?_
  refine WP_region ?_
  refine RL_ex rfl rfl (Lx_box (cs := (Fl.arr 64 (Fl.int .u16)).f p0) rfl H) ?_
  rintro _ w6 ⟨b4, rfl, H⟩
  refine RL_ex rfl rfl (Lx_alloc zero25 H) ?_
  rintro _ w9 ⟨b7, rfl, H⟩
  refine RL_do rfl rfl (Do_assign (v := .slice none 0 0) rfl) ?_
  refine RL_do rfl rfl (Do_assign (v := .bool false) rfl) ?_
  refine (RL_nil (thenQ_n (hK3 _ _ ?_)))
  refine WP_seq_k fun K20 hK20 => ?_
  refine WP_seq_k fun K21 hK21 => ?_
  refine WP_region ?_
  have H22 := H
  have H := H.freezeB (i := 1) rfl
  have H := H.fz (.pt (Rp.fl (Fl.arr 64 (Fl.int .u16))) (some ⟨b4, 0, none⟩) (some p0)) ⟨_, _, _, rfl, (H.item (i := 1) rfl).1, (H.item (i := 1) rfl).2.1, rfl, (H.item (i := 1) rfl).2.2⟩
  obtain ⟨x24, e25, hF⟩ := bindO_some hF
  refine RL_call rfl rfl (DoC_func en96 rfl) (F_frame_sound_w (some p0) (some ⟨b4, 0, none⟩) _ e25 _ _ _ (H.enter [] [3, 0] (by decide) rfl)) ?_
  rintro _ w26 ⟨rfl, G27⟩
  have H := H22.step (G27.only : Only [] _ _)
  refine ⟨_, rfl, ?_⟩
  refine (RL_nil (thenQ_n (hK21 _ _ ?_)))
  refine WP_ifb (b := x24) rfl (fun c28 => ?_) (fun c28 => ?_)
  · have hF := iteB_t c28 hF
    refine WP_seq_k fun K29 hK29 => ?_
    refine WP_region ?_
    refine RL_do rfl rfl (Do_loadF (e := (Fl.arr 64 (Fl.int .u16))) (a := p0) agg25 rfl sz25 (Blk.cells (H.item (i := 1) rfl))) ?_
    refine RL_exU rfl (Lx_storeW (e := (Fl.arr 64 (Fl.int .u16))) (a := (Arr.rep 64 0 : Arr 64 Int)) (a' := p0) H 2 rfl sz25 rfl rfl) ?_
    rintro w30 H
    refine RL_do rfl rfl (Do_assign (v := .slice none 0 0) rfl) ?_
    refine RL_do rfl rfl (Do_assign (v := .bool true) rfl) ?_
    refine (RL_nil (thenQ_n (hK29 _ _ ?_)))
    have H := own_nil H (Rp.int .i64) 3
    have hR := Option.some.inj hF
    subst hR
    refine (WP_ret (thenQ_r (postc2 (v1 := .slice none 0 0) (v2 := .bool true) rfl rfl (run_loadVar_agg agg25 sz25 (Fl.len _ _) (Blk.cells (H.item (i := 2) rfl))) rfl rfl ?_)))
    exact ⟨.slice none 0 0, rfl, H.pick [3] (by decide)⟩
  · have hF := iteB_f c28 hF
    refine (WP_skip (thenQ_n (hK20 _ _ ?_)))
    refine WP_seq_k fun K42 hK42 => ?_
    refine WP_seq_k fun K43 hK43 => ?_
    refine WP_region ?_
    have H44 := H
    have H := H.freezeB (i := 1) rfl
    have H := H.fz (.pt (Rp.fl (Fl.arr 64 (Fl.int .u16))) (some ⟨b4, 0, none⟩) (some p0)) ⟨_, _, _, rfl, (H.item (i := 1) rfl).1, (H.item (i := 1) rfl).2.1, rfl, (H.item (i := 1) rfl).2.2⟩
    obtain ⟨x46, e47, hF⟩ := bindO_some hF
    refine RL_call rfl rfl (DoC_func en78 rfl) (F_frame_wide_w (some p0) (some ⟨b4, 0, none⟩) _ e47 _ _ _ (H.enter [] [3] (by decide) rfl)) ?_
    rintro _ w48 ⟨rfl, G49⟩
    have H := H44.step (G49.only : Only [] _ _)
    refine ⟨_, rfl, ?_⟩
    refine (RL_nil (thenQ_n (hK43 _ _ ?_)))
    refine WP_ifb (b := x46) rfl (fun c50 => ?_) (fun c50 => ?_)
    · have hF := iteB_t c50 hF
      refine WP_seq_k fun K51 hK51 => ?_
      refine WP_region ?_
      refine RL_do rfl rfl (Do_build (cs := (Fl.arr 64 (Fl.int .u16)).f (Arr.rep 64 0 : Arr 64 Int)) bz25) ?_
      refine RL_exU rfl (Lx_storeW (e := (Fl.arr 64 (Fl.int .u16))) (a := (Arr.rep 64 0 : Arr 64 Int)) (a' := (Arr.rep 64 0 : Arr 64 Int)) H 2 rfl sz25 rfl rfl) ?_
      rintro w52 H
      refine RL_do rfl rfl (Do_assign (v := .slice none 0 0) rfl) ?_
      refine RL_do rfl rfl (Do_assign (v := .bool false) rfl) ?_
      refine (RL_nil (thenQ_n (hK51 _ _ ?_)))
      have H := own_nil H (Rp.int .i64) 3
      have hR := Option.some.inj hF
      subst hR
      refine (WP_ret (thenQ_r (postc2 (v1 := .slice none 0 0) (v2 := .bool false) rfl rfl (run_loadVar_agg agg25 sz25 (Fl.len _ _) (Blk.cells (H.item (i := 2) rfl))) rfl rfl ?_)))
      exact ⟨.slice none 0 0, rfl, H.pick [3] (by decide)⟩
    · have hF := iteB_f c50 hF
      refine (WP_skip (thenQ_n (hK42 _ _ ?_)))
      refine WP_seq_k fun K54 hK54 => ?_
      refine WP_region ?_
      refine RL_ex rfl rfl (Lx_alloc zero25 H) ?_
      rintro _ w57 ⟨b55, rfl, H⟩
      refine (RL_nil (thenQ_n (hK54 _ _ ?_)))
      refine WP_seq_k fun K58 hK58 => ?_
      refine WP_region ?_
      refine RL_do rfl rfl (Do_assign (v := .slice none 0 0) rfl) ?_
      refine (RL_nil (thenQ_n (hK58 _ _ ?_)))
      obtain ⟨j168, hF, hK167⟩ := bindO_some hF
      refine WP_seqS [6, 7, 8, 13, 14, 15, 16, 17, 18, 19, 20, 21, 22, 23, 24, 25] (fun (g : Value) => [(6, g)]) (fun g wl => Hd O w wl S [.own (Rp.int .i64) g 3 j168.1, .fz (.at 0 0 ((Fl.arr 4 (Fl.int .u16)).f G_frame_syncs)), .blk b7 ((Fl.arr 64 (Fl.int .u16)).f (Arr.rep 64 0 : Arr 64 Int)) 25, .blk b55 ((Fl.arr 64 (Fl.int .u16)).f j168.2) 25]) ?_ ?_
      · skip
        refine WP_seq_k fun K169 hK169 => ?_
        refine WP_region ?_
        refine RL_do rfl rfl (Do_move (v := .int .i64 0) rfl) ?_
        refine (RL_nil (thenQ_n (hK169 _ _ ?_)))
        refine WP_block ?_
        have H := own_nil H (Rp.int .i64) 3
        unfold F_frame_Mend_L1 at hF
        obtain ⟨B271, n272, eB273, hF⟩ := loopO_some hF
        refine WP_loopS [6, 7, 8, 13, 14, 15, 16, 17, 18, 19, 20, 21, 22, 23, 24, 25] (fun (g : Nat × (List Int) × Int × (Arr 64 Int) × Value) => [(6, g.2.2.2.2), (13, .int .i64 g.2.2.1)]) (fun g wl => Hd O w wl S [.own (Rp.int .i64) g.2.2.2.2 3 g.2.1, .fz (.at 0 0 ((Fl.arr 4 (Fl.int .u16)).f G_frame_syncs)), .blk b4 ((Fl.arr 64 (Fl.int .u16)).f p0) 25, .blk b7 ((Fl.arr 64 (Fl.int .u16)).f (Arr.rep 64 0 : Arr 64 Int)) 25, .blk b55 ((Fl.arr 64 (Fl.int .u16)).f g.2.2.2.1) 25] ∧ loopN B271 g.1 (g.2.1, g.2.2.1, g.2.2.2.1) = some j168) (fun g => g.1) (n272, [], 0, (Arr.rep 64 0 : Arr 64 Int), .slice none 0 0) (Sl_cons rfl (Sl_cons rfl Sl_nil)) ⟨H.pick [4, 0, 1, 2, 3] (by decide), hF⟩ ?_
        clear H hF
        rintro ⟨n272, g266, g268, g269, v267⟩ ρ w275 ⟨H, hF⟩
        obtain ⟨n276, rfl, hF⟩ := loopN_pos hF
        have hF := loop_body eB273 hF
        refine WP_seq_k fun K277 hK277 => ?_
        refine WP_region ?_
        obtain ⟨x278, e279, hF⟩ := letO_some hF
        refine RL_do rfl rfl (Do_as (Do_lss (a := g268) (b := 64) rfl rfl) (congrArg Value.bool e279)) ?_
        refine (RL_nil (thenQ_n (hK277 _ _ ?_)))
        refine WP_seq_k fun K281 hK281 => ?_
        refine WP_ifb (b := x278) rfl (fun c282 => ?_) (fun c282 => ?_)
        · have hF := iteB_t c282 hF
          refine (WP_skip (thenQ_n (hK281 _ _ ?_)))
          obtain ⟨j318, hF, hK317⟩ := bindO_some hF
          refine WP_seqS [6, 7, 8, 15, 16, 17, 18, 19, 20, 21, 22, 23, 24] (fun (g : Value) => [(6, g)]) (fun g wl => Hd O w wl S [.own (Rp.int .i64) g 3 j318.1, .fz (.at 0 0 ((Fl.arr 4 (Fl.int .u16)).f G_frame_syncs)), .blk b4 ((Fl.arr 64 (Fl.int .u16)).f p0) 25, .blk b7 ((Fl.arr 64 (Fl.int .u16)).f (Arr.rep 64 0 : Arr 64 Int)) 25, .blk b55 ((Fl.arr 64 (Fl.int .u16)).f j318.2) 25]) ?_ ?_
          · skip
            refine WP_block ?_
            refine WP_seq_k fun K319 hK319 => ?_
            refine WP_region ?_
            refine RL_do rfl rfl (Do_move (v := .int .i64 g268) rfl) ?_
            refine RL_do rfl rfl (Do_assign (v := .int .i64 g268) rfl) ?_
            refine (RL_nil (thenQ_n (hK319 _ _ ?_)))
            refine WP_seq_k fun K320 hK320 => ?_
            refine WP_region ?_
            refine RL_do rfl rfl (Do_loadF (e := (Fl.arr 64 (Fl.int .u16))) (a := p0) agg25 rfl sz25 (Blk.cells (H.item (i := 2) rfl))) ?_
            refine RL_do rfl rfl (Do_move (v := .int .i64 g268) rfl) ?_
            have H321 := H
            obtain ⟨x322, e323, hF⟩ := bindO_some hF
            refine RL_call rfl rfl (DoC_func en97 rfl) (F_frame_replaced_w p0 g268 _ e323 _ _ _ (H.enter [] [1] (by decide) rfl)) ?_
            rintro _ w324 ⟨rfl, G325⟩
            have H := H321.step (G325.only : Only [] _ _)
            refine ⟨_, rfl, ?_⟩
            refine RL_ex rfl rfl (Lx_alloc zero25 H) ?_
            rintro _ w328 ⟨b326, rfl, H⟩
            refine RL_exU rfl (Lx_storeW (e := (Fl.arr 64 (Fl.int .u16))) (a := (Arr.rep 64 0 : Arr 64 Int)) (a' := x322) H 5 rfl sz25 rfl rfl) ?_
            rintro w329 H
            refine (RL_nil (thenQ_n (hK320 _ _ ?_)))
            refine WP_seq_k fun K330 hK330 => ?_
            refine WP_region ?_
            have H331 := H
            have H := H.freezeB (i := 5) rfl
            have H := H.fz (.pt (Rp.fl (Fl.arr 64 (Fl.int .u16))) (some ⟨b326, 0, none⟩) (some x322)) ⟨_, _, _, rfl, (H.item (i := 5) rfl).1, (H.item (i := 5) rfl).2.1, rfl, (H.item (i := 5) rfl).2.2⟩
            obtain ⟨x333, e334, hF⟩ := bindO_some hF
            refine RL_call rfl rfl (DoC_func en96 rfl) (F_frame_sound_w (some x322) (some ⟨b326, 0, none⟩) _ e334 _ _ _ (H.enter [] [6, 1] (by decide) rfl)) ?_
            rintro _ w335 ⟨rfl, G336⟩
            have H := H331.step (G336.only : Only [] _ _)
            refine ⟨_, rfl, ?_⟩
            refine (RL_nil (thenQ_n (hK330 _ _ ?_)))
            refine WP_ifb (b := x333) rfl (fun c337 => ?_) (fun c337 => ?_)
            · have hF := iteB_t c337 hF
              refine WP_seq_k fun K338 hK338 => ?_
              refine WP_region ?_
              refine RL_do rfl rfl (Do_loadF (e := (Fl.arr 64 (Fl.int .u16))) (a := x322) agg25 rfl sz25 (Blk.cells (H.item (i := 5) rfl))) ?_
              refine RL_exU rfl (Lx_storeW (e := (Fl.arr 64 (Fl.int .u16))) (a := g269) (a' := x322) H 4 rfl sz25 rfl rfl) ?_
              rintro w339 H
              refine (RL_nil (thenQ_n (hK338 _ _ ?_)))
              refine WP_region ?_
              refine RL_do rfl rfl (Do_move (v := v267) rfl) ?_
              refine RL_do rfl rfl (Do_move (v := .int .i64 g268) rfl) ?_
              obtain ⟨x340, e341, hF⟩ := letO_some hF
              subst e341
              refine RL_ex rfl rfl (Lx_bs (r := (Rp.int .i64)) (xl := [g268]) (cs := [.int .i64 g268]) u46 el3 (by decide) (by decide) rfl (fillB_parts (vs := [.int .i64 g268]) (by decide) rfl rfl ⟨rfl, trivial⟩ rfl) H ⟨[.int .i64 g268], [], rfl, rfl, rfl⟩) ?_
              rintro v343 w344 H
              obtain ⟨x345, e346, hF⟩ := bindO_some hF
              refine RL_ex rfl rfl (Lx_app H (i := 0) rfl u46 el3 rfl rfl (Sr.of_own (H.item (i := 6) rfl)) e346) ?_
              rintro v347 w348 H
              refine RL_do rfl rfl (Do_assign (v := v347) rfl) ?_
              have hR := Option.some.inj hF
              subst hR
              refine (RL_nil (blockQ_n (thenQ_n (And.intro ?_ ?_))))
              · repeat' (first | with_reducible exact Fr_refl | refine Fr_upd rfl ?_ | refine Fr_over rfl rfl ?_)
              · exact ⟨v347, (Sl_cons rfl Sl_nil), H.pick [0, 1, 2, 3, 4] (by decide)⟩
            · have hF := iteB_f c337 hF
              have hR := Option.some.inj hF
              subst hR
              refine (WP_skip (blockQ_n (thenQ_n (And.intro ?_ ?_))))
              · repeat' (first | with_reducible exact Fr_refl | refine Fr_upd rfl ?_ | refine Fr_over rfl rfl ?_)
              · exact ⟨v267, (Sl_cons rfl Sl_nil), H.pick [0, 1, 2, 3, 4] (by decide)⟩
          · rintro v314 ρ w316 H
            have hF := hK317
            obtain ⟨g313, g315⟩ := j318
            refine WP_region ?_
            obtain ⟨x349, e350, hF⟩ := letO_some hF
            refine RL_do rfl rfl (Do_add (a := g268) (b := 1) rfl rfl e350) ?_
            refine RL_do rfl rfl (Do_move (v := .int .i64 x349) rfl) ?_
            refine (RL_nil (thenQ_n (And.intro ?_ ?_)))
            · repeat' (first | with_reducible exact Fr_refl | refine Fr_upd rfl ?_ | refine Fr_over rfl rfl ?_)
            · exact ⟨(n276, g313, x349, g315, v314), (Sl_cons rfl (Sl_cons rfl Sl_nil)), ⟨H.pick [0, 1, 2, 3, 4] (by decide), hF⟩, Nat.lt_succ_self _⟩
        · have hF := iteB_f c282 hF
          have hR := Option.some.inj hF
          subst hR
          refine (WP_exit (thenQ_x (thenQ_x (blockQ_eq (thenQ_n (And.intro ?_ ?_))))))
          · repeat' (first | with_reducible exact Fr_refl | refine Fr_upd rfl ?_ | refine Fr_over rfl rfl ?_)
          · exact ⟨v267, (Sl_cons rfl Sl_nil), H.pick [0, 1, 3, 4] (by decide)⟩
      · rintro v164 ρ w166 H
        have hF := hK167
        obtain ⟨g163, g165⟩ := j168
        refine WP_seq_k fun K362 hK362 => ?_
        refine WP_seq_k fun K363 hK363 => ?_
        refine WP_region ?_
        refine RL_do rfl rfl (Do_move (v := v164) rfl) ?_
        obtain ⟨x364, e365, hF⟩ := letO_some hF
        obtain ⟨a366, c367, q368⟩ := Sr.len (Sr.of_own (H.item (i := 0) rfl))
        refine RL_do rfl rfl (Do_as (Do_len u46 q368) (congrArg (Value.int .i64) e365)) ?_
        obtain ⟨x369, e370, hF⟩ := letO_some hF
        refine RL_do rfl rfl (Do_as (Do_neq (a := x364) (b := 1) rfl rfl) (congrArg Value.bool e370)) ?_
        refine (RL_nil (thenQ_n (hK363 _ _ ?_)))
        refine WP_ifb (b := x369) rfl (fun c371 => ?_) (fun c371 => ?_)
        · have hF := iteB_t c371 hF
          refine WP_seq_k fun K372 hK372 => ?_
          refine WP_region ?_
          refine RL_do rfl rfl (Do_build (cs := (Fl.arr 64 (Fl.int .u16)).f (Arr.rep 64 0 : Arr 64 Int)) bz25) ?_
          refine RL_exU rfl (Lx_storeW (e := (Fl.arr 64 (Fl.int .u16))) (a := (Arr.rep 64 0 : Arr 64 Int)) (a' := (Arr.rep 64 0 : Arr 64 Int)) H 2 rfl sz25 rfl rfl) ?_
          rintro w373 H
          refine RL_do rfl rfl (Do_assign (v := .slice none 0 0) rfl) ?_
          refine RL_do rfl rfl (Do_assign (v := .bool false) rfl) ?_
          refine (RL_nil (thenQ_n (hK372 _ _ ?_)))
          have H := own_nil H (Rp.int .i64) 3
          have hR := Option.some.inj hF
          subst hR
          refine (WP_ret (thenQ_r (postc2 (v1 := .slice none 0 0) (v2 := .bool false) rfl rfl (run_loadVar_agg agg25 sz25 (Fl.len _ _) (Blk.cells (H.item (i := 2) rfl))) rfl rfl ?_)))
          exact ⟨.slice none 0 0, rfl, H.pick [4] (by decide)⟩
        · have hF := iteB_f c371 hF
          refine (WP_skip (thenQ_n (hK362 _ _ ?_)))
          refine WP_seq_k fun K375 hK375 => ?_
          refine WP_region ?_
          refine RL_do rfl rfl (Do_loadF (e := (Fl.arr 64 (Fl.int .u16))) (a := g165) agg25 rfl sz25 (Blk.cells (H.item (i := 3) rfl))) ?_
          refine RL_do rfl rfl (Do_move (v := v164) rfl) ?_
          refine RL_exU rfl (Lx_storeW (e := (Fl.arr 64 (Fl.int .u16))) (a := (Arr.rep 64 0 : Arr 64 Int)) (a' := g165) H 2 rfl sz25 rfl rfl) ?_
          rintro w376 H
          refine RL_do rfl rfl (Do_assign (v := v164) rfl) ?_
          refine RL_do rfl rfl (Do_assign (v := .bool true) rfl) ?_
          refine (RL_nil (thenQ_n (hK375 _ _ ?_)))
          have hR := Option.some.inj hF
          subst hR
          refine (WP_ret (postc2 (v1 := v164) (v2 := .bool true) rfl rfl (run_loadVar_agg agg25 sz25 (Fl.len _ _) (Blk.cells (H.item (i := 2) rfl))) rfl rfl ?_))
          exact ⟨v164, rfl, H.pick [0] (by decide)⟩
end Go.Proofs.YtafgmocdnjdmoaaDoor.L
namespace Go.Proofs.YtafgmocdnjdmoaaDoor.L
open Go.RowKit Go.OB Go.Lf
/- orangebox/orangeboxlaw1.FrameSpoiltWordIsMended -/
set_option maxHeartbeats 4000000 in
theorem F_law1_FrameSpoiltWordIsMended_w (p0 : Int) (p1 : List Int) (p2 : Int) (p3 : Int) (v1 : Value) (r : Bool) (hF : F_law1_FrameSpoiltWordIsMended p0 p1 p2 p3 = some r) (O S : List Nat) (w : World) (H : Hd O w w S [.fz (.sl (Rp.int .i64) v1 p1), .fz (.at 0 0 ((Fl.arr 4 (Fl.int .u16)).f G_frame_syncs))]) :
    Calls Tryd.prog 11 ([.int .i64 p0, v1, .int .i64 p2, .int .i64 p3] : List Value).toArray w fun e w' => e = .returned (.bool r) ∧ Hd O w w' S [] := by
  unfold F_law1_FrameSpoiltWordIsMended at hF
  refine calls_of_WP 102 Tryd.func11 rfl rfl rfl ?_
  refine WP_seq_k fun K4 hK4 => ?_
  refine WP_region ?_
  refine RL_do rfl rfl (Do_assign (v := .bool false) rfl) ?_
  refine (RL_nil (thenQ_n (hK4 _ _ ?_)))
  refine WP_seq_k fun K5 hK5 => ?_
  refine WP_region ?_
  refine RL_do rfl rfl (Do_move (v := .int .i64 p0) rfl) ?_
  refine RL_do rfl rfl (Do_move (v := v1) rfl) ?_
  have H6 := H
  obtain ⟨⟨x7, x8⟩, e9, hF⟩ := bindO_some hF
  refine RL_call rfl rfl (DoC_func en32 rfl) (X_New_w p0 p1 v1 _ e9 _ _ _ (H.enter [] [0, 1] (by decide) rfl)) ?_
  rintro _ w10 ⟨rfl, G11⟩
  have H := H6.step (G11.only : Only [] _ _)
  refine ⟨_, rfl, ?_⟩
  refine RL_do rfl rfl (Do_move (v := .tuple #[.agg ((Fl.arr 64 (Fl.int .u16)).f x7).toArray, .int .i64 x8]) rfl) ?_
  refine RL_do rfl rfl (Do_extract (v := .agg ((Fl.arr 64 (Fl.int .u16)).f x7).toArray) rfl rfl) ?_
  refine RL_do rfl rfl (Do_extract (v := .int .i64 x8) rfl rfl) ?_
  refine RL_ex rfl rfl (Lx_alloc zero25 H) ?_
  rintro _ w14 ⟨b12, rfl, H⟩
  refine RL_exU rfl (Lx_storeW (e := (Fl.arr 64 (Fl.int .u16))) (a := (Arr.rep 64 0 : Arr 64 Int)) (a' := x7) H 2 rfl sz25 rfl rfl) ?_
  rintro w15 H
  refine RL_do rfl rfl (Do_assign (v := .int .i64 x8) rfl) ?_
  refine (RL_nil (thenQ_n (hK5 _ _ ?_)))
  refine WP_seq_k fun K40 hK40 => ?_
  obtain ⟨g55, hF, hK57⟩ := bindO_some hF
  refine WP_seqS [21, 22, 23, 24, 25, 26, 27, 28, 29, 30, 31, 32, 33, 34, 35, 36, 37, 38] (fun (g : Unit) => [(38, .bool g55)]) (fun g wl => Hd O w wl S [.fz (.at 0 0 ((Fl.arr 4 (Fl.int .u16)).f G_frame_syncs)), .blk b12 ((Fl.arr 64 (Fl.int .u16)).f x7) 25]) ?_ ?_
  · skip
    refine WP_region ?_
    refine RL_do rfl rfl (Do_move (v := .int .i64 x8) rfl) ?_
    obtain ⟨x58, e59, hF⟩ := letO_some hF
    refine RL_do rfl rfl (Do_as (Do_neq (a := x8) (b := 0) rfl rfl) (congrArg Value.bool e59)) ?_
    refine RL_splitb (b := x58) rfl rfl rfl (fun c60 => ?_) (fun c60 => ?_)
    · have hF := iteB_t c60 hF
      refine RL_off rfl rfl ?_
      refine RL_off rfl rfl ?_
      refine RL_do rfl rfl (Do_pick_t (v := .bool true) rfl rfl) ?_
      refine RL_do rfl rfl (Do_move (v := .bool true) rfl) ?_
      refine RL_off rfl rfl ?_
      refine RL_off rfl rfl ?_
      refine RL_do rfl rfl (Do_pick_t (v := .bool true) rfl rfl) ?_
      refine RL_do rfl rfl (Do_move (v := .bool true) rfl) ?_
      refine RL_off rfl rfl ?_
      refine RL_off rfl rfl ?_
      refine RL_do rfl rfl (Do_pick_t (v := .bool true) rfl rfl) ?_
      refine RL_do rfl rfl (Do_move (v := .bool true) rfl) ?_
      refine RL_off rfl rfl ?_
      refine RL_off rfl rfl ?_
      refine RL_do rfl rfl (Do_pick_t (v := .bool true) rfl rfl) ?_
      have hR := Option.some.inj hF
      subst hR
      refine (RL_nil (thenQ_n (And.intro ?_ ?_)))
      · repeat' (first | with_reducible exact Fr_refl | refine Fr_upd rfl ?_ | refine Fr_over rfl rfl ?_)
      · exact ⟨(), (Sl_cons rfl Sl_nil), H.pick [1, 2] (by decide)⟩
    · have hF := iteB_f c60 hF
      refine RL_do rfl rfl (Do_move (v := .int .i64 p2) rfl) ?_
      obtain ⟨x61, e62, hF⟩ := letO_some hF
      refine RL_do rfl rfl (Do_as (Do_lss (a := p2) (b := 0) rfl rfl) (congrArg Value.bool e62)) ?_
      refine RL_do rfl rfl (Do_pick_f (v := .bool x61) rfl rfl) ?_
      refine RL_splitb (b := x61) rfl rfl rfl (fun c63 => ?_) (fun c63 => ?_)
      · have hF := iteB_t c63 hF
        refine RL_off rfl rfl ?_
        refine RL_off rfl rfl ?_
        refine RL_do rfl rfl (Do_pick_t (v := .bool true) rfl rfl) ?_
        refine RL_do rfl rfl (Do_move (v := .bool true) rfl) ?_
        refine RL_off rfl rfl ?_
        refine RL_off rfl rfl ?_
        refine RL_do rfl rfl (Do_pick_t (v := .bool true) rfl rfl) ?_
        refine RL_do rfl rfl (Do_move (v := .bool true) rfl) ?_
        refine RL_off rfl rfl ?_
        refine RL_off rfl rfl ?_
        refine RL_do rfl rfl (Do_pick_t (v := .bool true) rfl rfl) ?_
        have hR := Option.some.inj hF
        subst hR
        refine (RL_nil (thenQ_n (And.intro ?_ ?_)))
        · repeat' (first | with_reducible exact Fr_refl | refine Fr_upd rfl ?_ | refine Fr_over rfl rfl ?_)
        · exact ⟨(), (Sl_cons rfl Sl_nil), H.pick [1, 2] (by decide)⟩
      · have hF := iteB_f c63 hF
        refine RL_do rfl rfl (Do_move (v := .int .i64 p2) rfl) ?_
        obtain ⟨x64, e65, hF⟩ := letO_some hF
        refine RL_do rfl rfl (Do_as (Do_gtr (a := p2) (b := 63) rfl rfl) (congrArg Value.bool e65)) ?_
        refine RL_do rfl rfl (Do_pick_f (v := .bool x64) rfl rfl) ?_
        refine RL_splitb (b := x64) rfl rfl rfl (fun c66 => ?_) (fun c66 => ?_)
        · have hF := iteB_t c66 hF
          refine RL_off rfl rfl ?_
          refine RL_off rfl rfl ?_
          refine RL_do rfl rfl (Do_pick_t (v := .bool true) rfl rfl) ?_
          refine RL_do rfl rfl (Do_move (v := .bool true) rfl) ?_
          refine RL_off rfl rfl ?_
          refine RL_off rfl rfl ?_
          refine RL_do rfl rfl (Do_pick_t (v := .bool true) rfl rfl) ?_
          have hR := Option.some.inj hF
          subst hR
          refine (RL_nil (thenQ_n (And.intro ?_ ?_)))
          · repeat' (first | with_reducible exact Fr_refl | refine Fr_upd rfl ?_ | refine Fr_over rfl rfl ?_)
          · exact ⟨(), (Sl_cons rfl Sl_nil), H.pick [1, 2] (by decide)⟩
        · have hF := iteB_f c66 hF
          refine RL_do rfl rfl (Do_move (v := .int .i64 p3) rfl) ?_
          obtain ⟨x67, e68, hF⟩ := letO_some hF
          refine RL_do rfl rfl (Do_as (Do_lss (a := p3) (b := 0) rfl rfl) (congrArg Value.bool e68)) ?_
          refine RL_do rfl rfl (Do_pick_f (v := .bool x67) rfl rfl) ?_
          refine RL_splitb (b := x67) rfl rfl rfl (fun c69 => ?_) (fun c69 => ?_)
          · have hF := iteB_t c69 hF
            refine RL_off rfl rfl ?_
            refine RL_off rfl rfl ?_
            refine RL_do rfl rfl (Do_pick_t (v := .bool true) rfl rfl) ?_
            have hR := Option.some.inj hF
            subst hR
            refine (RL_nil (thenQ_n (And.intro ?_ ?_)))
            · repeat' (first | with_reducible exact Fr_refl | refine Fr_upd rfl ?_ | refine Fr_over rfl rfl ?_)
            · exact ⟨(), (Sl_cons rfl Sl_nil), H.pick [1, 2] (by decide)⟩
          · have hF := iteB_f c69 hF
            refine RL_do rfl rfl (Do_move (v := .int .i64 p3) rfl) ?_
            obtain ⟨x70, e71, hF⟩ := letO_some hF
            refine RL_do rfl rfl (Do_as (Do_gtr (a := p3) (b := 4095) rfl rfl) (congrArg Value.bool e71)) ?_
            refine RL_do rfl rfl (Do_pick_f (v := .bool x70) rfl rfl) ?_
            have hR := Option.some.inj hF
            subst hR
            refine (RL_nil (thenQ_n (And.intro ?_ ?_)))
            · repeat' (first | with_reducible exact Fr_refl | refine Fr_upd rfl ?_ | refine Fr_over rfl rfl ?_)
            · exact ⟨(), (Sl_cons rfl Sl_nil), H.pick [1, 2] (by decide)⟩
  · rintro _ ρ w56 H
    have hF := hK57
    refine WP_ifb (b := g55) rfl (fun c72 => ?_) (fun c72 => ?_)
    · have hF := iteB_t c72 hF
      refine WP_seq_k fun K73 hK73 => ?_
      refine WP_region ?_
      have H74 := H
      obtain ⟨x75, e76, hF⟩ := bindO_some hF
      refine RL_call rfl rfl (DoC_func en21 rfl) (X_framed_w _ e76 _ _ _ (H.enter [] [0] (by decide) rfl)) ?_
      rintro _ w77 ⟨rfl, G78⟩
      have H := H74.step (G78.only : Only [] _ _)
      refine ⟨_, rfl, ?_⟩
      refine RL_do rfl rfl (Do_assign (v := .bool x75) rfl) ?_
      refine (RL_nil (thenQ_n (hK73 _ _ ?_)))
      have hR := Option.some.inj hF
      subst hR
      refine (WP_ret (thenQ_r (post1 (v1 := .bool x75) rfl rfl ?_)))
      exact ⟨rfl, H.pick [] (by decide)⟩
    · have hF := iteB_f c72 hF
      refine (WP_skip (thenQ_n (hK40 _ _ ?_)))
      refine WP_seq_k fun K79 hK79 => ?_
      refine WP_region ?_
      refine RL_do rfl rfl (Do_loadF (e := (Fl.arr 64 (Fl.int .u16))) (a := x7) agg25 rfl sz25 (Blk.cells (H.item (i := 1) rfl))) ?_
      refine RL_ex rfl rfl (Lx_alloc zero25 H) ?_
      rintro _ w82 ⟨b80, rfl, H⟩
      refine RL_exU rfl (Lx_storeW (e := (Fl.arr 64 (Fl.int .u16))) (a := (Arr.rep 64 0 : Arr 64 Int)) (a' := x7) H 2 rfl sz25 rfl rfl) ?_
      rintro w83 H
      refine (RL_nil (thenQ_n (hK79 _ _ ?_)))
      refine WP_seq_k fun K84 hK84 => ?_
      refine WP_region ?_
      refine RL_do rfl rfl (Do_move (v := .int .i64 p2) rfl) ?_
      refine RL_do rfl rfl (Do_move (v := .int .i64 p3) rfl) ?_
      obtain ⟨x85, e86, hF⟩ := letO_some hF
      refine RL_do rfl rfl (Do_conv u3 u23 rfl e86) ?_
      obtain ⟨x87, e88, hF⟩ := bindO_some hF
      refine RL_do rfl rfl (Do_idxA (X := x7) u25 sz23 rfl rfl e88) ?_
      obtain ⟨x89, e90, hF⟩ := letO_some hF
      refine RL_exU rfl (Lx_storeA (e := (Fl.int .u16)) (X := x7) (a := x85) (j := p2) H 2 rfl sz23 rfl (v := .int .u16 x85) rfl rfl (Arr.at_lt e88).1 (Arr.at_lt e88).2 e90) ?_
      rintro w91 H
      refine (RL_nil (thenQ_n (hK84 _ _ ?_)))
      refine WP_seq_k fun K92 hK92 => ?_
      refine WP_region ?_
      refine RL_do rfl rfl (Do_loadF (e := (Fl.arr 64 (Fl.int .u16))) (a := x89) agg25 rfl sz25 (Blk.cells (H.item (i := 2) rfl))) ?_
      obtain ⟨⟨x93, x94, x95⟩, e96, hF⟩ := bindO_some hF
      refine RL_call rfl rfl (DoC_func en44 rfl) (F_frame_Mend_w x89 _ e96 _ _ _ (H.enter [] [0] (by decide) rfl)) ?_
      rintro _ w99 ⟨v97, rfl, G100⟩
      have H := H.back1 [0] rfl G100
      refine ⟨_, rfl, ?_⟩
      refine RL_do rfl rfl (Do_move (v := .tuple #[.agg ((Fl.arr 64 (Fl.int .u16)).f x93).toArray, v97, .bool x95]) rfl) ?_
      refine RL_do rfl rfl (Do_extract (v := .agg ((Fl.arr 64 (Fl.int .u16)).f x93).toArray) rfl rfl) ?_
      refine RL_do rfl rfl (Do_extract (v := v97) rfl rfl) ?_
      refine RL_do rfl rfl (Do_extract (v := .bool x95) rfl rfl) ?_
      refine RL_ex rfl rfl (Lx_alloc zero25 H) ?_
      rintro _ w103 ⟨b101, rfl, H⟩
      refine RL_exU rfl (Lx_storeW (e := (Fl.arr 64 (Fl.int .u16))) (a := (Arr.rep 64 0 : Arr 64 Int)) (a' := x93) H 4 rfl sz25 rfl rfl) ?_
      rintro w104 H
      refine RL_do rfl rfl (Do_assign (v := v97) rfl) ?_
      refine RL_do rfl rfl (Do_assign (v := .bool x95) rfl) ?_
      refine (RL_nil (thenQ_n (hK92 _ _ ?_)))
      refine WP_seq_k fun K131 hK131 => ?_
      refine WP_seq_k fun K132 hK132 => ?_
      refine WP_region ?_
      refine RL_do rfl rfl (Do_move (v := .bool x95) rfl) ?_
      obtain ⟨x133, e134, hF⟩ := letO_some hF
      refine RL_do rfl rfl (Do_as (Do_not (p := x95) rfl) (congrArg Value.bool e134)) ?_
      refine (RL_nil (thenQ_n (hK132 _ _ ?_)))
      refine WP_ifb (b := x133) rfl (fun c135 => ?_) (fun c135 => ?_)
      · have hF := iteB_t c135 hF
        obtain ⟨g155, hF, hK157⟩ := bindO_some hF
        refine WP_seqS [8, 53, 54, 55, 56, 57, 58, 59, 60, 61, 62, 63, 64, 65, 66, 67, 68] (fun (g : Unit) => [(8, .bool g155)]) (fun g wl => Hd O w wl S [.fz (.at 0 0 ((Fl.arr 4 (Fl.int .u16)).f G_frame_syncs))]) ?_ ?_
        · skip
          refine WP_region ?_
          refine RL_do rfl rfl (Do_loadF (e := (Fl.arr 64 (Fl.int .u16))) (a := x93) agg25 rfl sz25 (Blk.cells (H.item (i := 4) rfl))) ?_
          refine RL_do rfl rfl (Do_build (cs := (Fl.arr 64 (Fl.int .u16)).f (Arr.rep 64 0 : Arr 64 Int)) bz25) ?_
          obtain ⟨x158, e159, hF⟩ := letO_some hF
          refine RL_do rfl rfl (Do_as (Do_eqlF (e := (Fl.arr 64 (Fl.int .u16))) (a := x93) (b := (Arr.rep 64 0 : Arr 64 Int)) (by kernel_rfl) eqf25 (by decide) agg25 sz25 rfl rfl) (congrArg Value.bool e159)) ?_
          refine RL_splitb (b := x158) rfl rfl rfl (fun c160 => ?_) (fun c160 => ?_)
          · have hF := iteB_t c160 hF
            refine RL_do rfl rfl (Do_move (v := v97) rfl) ?_
            obtain ⟨x161, e162, hF⟩ := letO_some hF
            obtain ⟨a163, c164, q165⟩ := Sr.len (Sr.of_own (H.item (i := 3) rfl))
            refine RL_do rfl rfl (Do_as (Do_len u46 q165) (congrArg (Value.int .i64) e162)) ?_
            obtain ⟨x166, e167, hF⟩ := letO_some hF
            refine RL_do rfl rfl (Do_as (Do_eql (a := x161) (b := 0) rfl rfl) (congrArg Value.bool e167)) ?_
            refine RL_do rfl rfl (Do_pick_t (v := .bool x166) rfl rfl) ?_
            refine RL_splitb (b := x166) rfl rfl rfl (fun c168 => ?_) (fun c168 => ?_)
            · have hF := iteB_t c168 hF
              refine RL_do rfl rfl (Do_loadF (e := (Fl.arr 64 (Fl.int .u16))) (a := x89) agg25 rfl sz25 (Blk.cells (H.item (i := 2) rfl))) ?_
              refine RL_do rfl rfl (Do_loadF (e := (Fl.arr 64 (Fl.int .u16))) (a := x7) agg25 rfl sz25 (Blk.cells (H.item (i := 1) rfl))) ?_
              obtain ⟨x169, e170, hF⟩ := letO_some hF
              refine RL_do rfl rfl (Do_as (Do_neqF (e := (Fl.arr 64 (Fl.int .u16))) (a := x89) (b := x7) (by kernel_rfl) eqf25 (by decide) agg25 sz25 rfl rfl) (congrArg Value.bool e170)) ?_
              refine RL_do rfl rfl (Do_pick_t (v := .bool x169) rfl rfl) ?_
              refine RL_splitb (b := x169) rfl rfl rfl (fun c171 => ?_) (fun c171 => ?_)
              · have hF := iteB_t c171 hF
                have H172 := H
                obtain ⟨x173, e174, hF⟩ := bindO_some hF
                refine RL_call rfl rfl (DoC_func en21 rfl) (X_framed_w _ e174 _ _ _ (H.enter [] [0] (by decide) rfl)) ?_
                rintro _ w175 ⟨rfl, G176⟩
                have H := H172.step (G176.only : Only [] _ _)
                refine ⟨_, rfl, ?_⟩
                refine RL_do rfl rfl (Do_pick_t (v := .bool x173) rfl rfl) ?_
                refine RL_do rfl rfl (Do_assign (v := .bool x173) rfl) ?_
                have hR := Option.some.inj hF
                subst hR
                refine (RL_nil (thenQ_n (And.intro ?_ ?_)))
                · repeat' (first | with_reducible exact Fr_refl | refine Fr_upd rfl ?_ | refine Fr_over rfl rfl ?_)
                · exact ⟨(), (Sl_cons rfl Sl_nil), H.pick [0] (by decide)⟩
              · have hF := iteB_f c171 hF
                refine RL_off rfl rfl ?_
                refine RL_do rfl rfl (Do_pick_f (v := .bool false) rfl rfl) ?_
                refine RL_do rfl rfl (Do_assign (v := .bool false) rfl) ?_
                have hR := Option.some.inj hF
                subst hR
                refine (RL_nil (thenQ_n (And.intro ?_ ?_)))
                · repeat' (first | with_reducible exact Fr_refl | refine Fr_upd rfl ?_ | refine Fr_over rfl rfl ?_)
                · exact ⟨(), (Sl_cons rfl Sl_nil), H.pick [0] (by decide)⟩
            · have hF := iteB_f c168 hF
              refine RL_off rfl rfl ?_
              refine RL_off rfl rfl ?_
              refine RL_off rfl rfl ?_
              refine RL_do rfl rfl (Do_pick_f (v := .bool false) rfl rfl) ?_
              refine RL_do rfl rfl (Do_move (v := .bool false) rfl) ?_
              refine RL_off rfl rfl ?_
              refine RL_do rfl rfl (Do_pick_f (v := .bool false) rfl rfl) ?_
              refine RL_do rfl rfl (Do_assign (v := .bool false) rfl) ?_
              have hR := Option.some.inj hF
              subst hR
              refine (RL_nil (thenQ_n (And.intro ?_ ?_)))
              · repeat' (first | with_reducible exact Fr_refl | refine Fr_upd rfl ?_ | refine Fr_over rfl rfl ?_)
              · exact ⟨(), (Sl_cons rfl Sl_nil), H.pick [0] (by decide)⟩
          · have hF := iteB_f c160 hF
            refine RL_off rfl rfl ?_
            refine RL_off rfl rfl ?_
            refine RL_off rfl rfl ?_
            refine RL_do rfl rfl (Do_pick_f (v := .bool false) rfl rfl) ?_
            refine RL_do rfl rfl (Do_move (v := .bool false) rfl) ?_
            refine RL_off rfl rfl ?_
            refine RL_off rfl rfl ?_
            refine RL_off rfl rfl ?_
            refine RL_do rfl rfl (Do_pick_f (v := .bool false) rfl rfl) ?_
            refine RL_do rfl rfl (Do_move (v := .bool false) rfl) ?_
            refine RL_off rfl rfl ?_
            refine RL_do rfl rfl (Do_pick_f (v := .bool false) rfl rfl) ?_
            refine RL_do rfl rfl (Do_assign (v := .bool false) rfl) ?_
            have hR := Option.some.inj hF
            subst hR
            refine (RL_nil (thenQ_n (And.intro ?_ ?_)))
            · repeat' (first | with_reducible exact Fr_refl | refine Fr_upd rfl ?_ | refine Fr_over rfl rfl ?_)
            · exact ⟨(), (Sl_cons rfl Sl_nil), H.pick [0] (by decide)⟩
        · rintro _ ρ w156 H
          have hF := hK157
          have hR := Option.some.inj hF
          subst hR
          refine (WP_ret (thenQ_r (post1 (v1 := .bool g155) rfl rfl ?_)))
          exact ⟨rfl, H.pick [] (by decide)⟩
      · have hF := iteB_f c135 hF
        refine (WP_skip (thenQ_n (hK131 _ _ ?_)))
        obtain ⟨g256, hF, hK258⟩ := bindO_some hF
        refine WP_seqS [8, 69, 70, 71, 72, 73, 74, 75, 76, 77, 78, 79, 80, 81, 82, 83, 84, 85, 86, 87, 88, 89, 90, 91, 92, 93, 94, 95, 96, 97, 98, 99, 100, 101] (fun (g : Unit) => [(8, .bool g256)]) (fun g wl => Hd O w wl S [.fz (.at 0 0 ((Fl.arr 4 (Fl.int .u16)).f G_frame_syncs))]) ?_ ?_
        · skip
          refine WP_region ?_
          refine RL_do rfl rfl (Do_loadF (e := (Fl.arr 64 (Fl.int .u16))) (a := x93) agg25 rfl sz25 (Blk.cells (H.item (i := 4) rfl))) ?_
          refine RL_do rfl rfl (Do_loadF (e := (Fl.arr 64 (Fl.int .u16))) (a := x7) agg25 rfl sz25 (Blk.cells (H.item (i := 1) rfl))) ?_
          obtain ⟨x259, e260, hF⟩ := letO_some hF
          refine RL_do rfl rfl (Do_as (Do_eqlF (e := (Fl.arr 64 (Fl.int .u16))) (a := x93) (b := x7) (by kernel_rfl) eqf25 (by decide) agg25 sz25 rfl rfl) (congrArg Value.bool e260)) ?_
          refine RL_splitb (b := x259) rfl rfl rfl (fun c261 => ?_) (fun c261 => ?_)
          · have hF := iteB_t c261 hF
            refine RL_do rfl rfl (Do_loadF (e := (Fl.arr 64 (Fl.int .u16))) (a := x89) agg25 rfl sz25 (Blk.cells (H.item (i := 2) rfl))) ?_
            refine RL_do rfl rfl (Do_loadF (e := (Fl.arr 64 (Fl.int .u16))) (a := x7) agg25 rfl sz25 (Blk.cells (H.item (i := 1) rfl))) ?_
            obtain ⟨x262, e263, hF⟩ := letO_some hF
            refine RL_do rfl rfl (Do_as (Do_eqlF (e := (Fl.arr 64 (Fl.int .u16))) (a := x89) (b := x7) (by kernel_rfl) eqf25 (by decide) agg25 sz25 rfl rfl) (congrArg Value.bool e263)) ?_
            refine RL_splitb (b := x262) rfl rfl rfl (fun c264 => ?_) (fun c264 => ?_)
            · have hF := iteB_t c264 hF
              refine RL_do rfl rfl (Do_move (v := v97) rfl) ?_
              obtain ⟨x265, e266, hF⟩ := letO_some hF
              obtain ⟨a267, c268, q269⟩ := Sr.len (Sr.of_own (H.item (i := 3) rfl))
              refine RL_do rfl rfl (Do_as (Do_len u46 q269) (congrArg (Value.int .i64) e266)) ?_
              obtain ⟨x270, e271, hF⟩ := letO_some hF
              refine RL_do rfl rfl (Do_as (Do_eql (a := x265) (b := 0) rfl rfl) (congrArg Value.bool e271)) ?_
              refine RL_do rfl rfl (Do_pick_t (v := .bool x270) rfl rfl) ?_
              refine RL_splitb (b := x270) rfl rfl rfl (fun c272 => ?_) (fun c272 => ?_)
              · have hF := iteB_t c272 hF
                refine RL_off rfl rfl ?_
                refine RL_off rfl rfl ?_
                refine RL_off rfl rfl ?_
                refine RL_off rfl rfl ?_
                refine RL_off rfl rfl ?_
                refine RL_off rfl rfl ?_
                refine RL_off rfl rfl ?_
                refine RL_off rfl rfl ?_
                refine RL_off rfl rfl ?_
                refine RL_off rfl rfl ?_
                refine RL_off rfl rfl ?_
                refine RL_off rfl rfl ?_
                refine RL_off rfl rfl ?_
                refine RL_off rfl rfl ?_
                refine RL_off rfl rfl ?_
                refine RL_do rfl rfl (Do_pick_t (v := .bool true) rfl rfl) ?_
                refine RL_do rfl rfl (Do_pick_t (v := .bool true) rfl rfl) ?_
                refine RL_do rfl rfl (Do_move (v := .bool true) rfl) ?_
                have H273 := H
                obtain ⟨x274, e275, hF⟩ := bindO_some hF
                refine RL_call rfl rfl (DoC_func en21 rfl) (X_framed_w _ e275 _ _ _ (H.enter [] [0] (by decide) rfl)) ?_
                rintro _ w276 ⟨rfl, G277⟩
                have H := H273.step (G277.only : Only [] _ _)
                refine ⟨_, rfl, ?_⟩
                refine RL_do rfl rfl (Do_pick_t (v := .bool x274) rfl rfl) ?_
                refine RL_do rfl rfl (Do_assign (v := .bool x274) rfl) ?_
                have hR := Option.some.inj hF
                subst hR
                refine (RL_nil (thenQ_n (And.intro ?_ ?_)))
                · repeat' (first | with_reducible exact Fr_refl | refine Fr_upd rfl ?_ | refine Fr_over rfl rfl ?_)
                · exact ⟨(), (Sl_cons rfl Sl_nil), H.pick [0] (by decide)⟩
              · have hF := iteB_f c272 hF
                refine RL_do rfl rfl (Do_loadF (e := (Fl.arr 64 (Fl.int .u16))) (a := x89) agg25 rfl sz25 (Blk.cells (H.item (i := 2) rfl))) ?_
                refine RL_do rfl rfl (Do_loadF (e := (Fl.arr 64 (Fl.int .u16))) (a := x7) agg25 rfl sz25 (Blk.cells (H.item (i := 1) rfl))) ?_
                obtain ⟨x278, e279, hF⟩ := letO_some hF
                refine RL_do rfl rfl (Do_as (Do_neqF (e := (Fl.arr 64 (Fl.int .u16))) (a := x89) (b := x7) (by kernel_rfl) eqf25 (by decide) agg25 sz25 rfl rfl) (congrArg Value.bool e279)) ?_
                refine RL_splitb (b := x278) rfl rfl rfl (fun c280 => ?_) (fun c280 => ?_)
                · have hF := iteB_t c280 hF
                  refine RL_do rfl rfl (Do_move (v := v97) rfl) ?_
                  obtain ⟨x281, e282, hF⟩ := letO_some hF
                  obtain ⟨a283, c284, q285⟩ := Sr.len (Sr.of_own (H.item (i := 3) rfl))
                  refine RL_do rfl rfl (Do_as (Do_len u46 q285) (congrArg (Value.int .i64) e282)) ?_
                  obtain ⟨x286, e287, hF⟩ := letO_some hF
                  refine RL_do rfl rfl (Do_as (Do_eql (a := x281) (b := 1) rfl rfl) (congrArg Value.bool e287)) ?_
                  refine RL_do rfl rfl (Do_pick_t (v := .bool x286) rfl rfl) ?_
                  refine RL_splitb (b := x286) rfl rfl rfl (fun c288 => ?_) (fun c288 => ?_)
                  · have hF := iteB_t c288 hF
                    refine RL_do rfl rfl (Do_move (v := v97) rfl) ?_
                    obtain ⟨x289, e290, hF⟩ := bindO_some hF
                    obtain ⟨b291, c293, cs294, q295, h298, h299⟩ := own_at (H.item (i := 3) rfl) e290
                    obtain rfl : cs294 = [.int .i64 x289] := h298
                    refine RL_do rfl rfl (Do_idx u46 sz3 q295 rfl (at_some e290).1 (at_some e290).2.1 rfl rfl) ?_
                    refine RL_do rfl rfl (Do_load one3 rfl (Cells.get h299 (i := 0) rfl)) ?_
                    refine RL_do rfl rfl (Do_move (v := .int .i64 p2) rfl) ?_
                    obtain ⟨x300, e301, hF⟩ := letO_some hF
                    refine RL_do rfl rfl (Do_as (Do_eql (a := x289) (b := p2) rfl rfl) (congrArg Value.bool e301)) ?_
                    refine RL_do rfl rfl (Do_pick_t (v := .bool x300) rfl rfl) ?_
                    refine RL_do rfl rfl (Do_pick_f (v := .bool x300) rfl rfl) ?_
                    refine RL_do rfl rfl (Do_pick_t (v := .bool x300) rfl rfl) ?_
                    refine RL_splitb (b := x300) rfl rfl rfl (fun c302 => ?_) (fun c302 => ?_)
                    · have hF := iteB_t c302 hF
                      have H303 := H
                      obtain ⟨x304, e305, hF⟩ := bindO_some hF
                      refine RL_call rfl rfl (DoC_func en21 rfl) (X_framed_w _ e305 _ _ _ (H.enter [] [0] (by decide) rfl)) ?_
                      rintro _ w306 ⟨rfl, G307⟩
                      have H := H303.step (G307.only : Only [] _ _)
                      refine ⟨_, rfl, ?_⟩
                      refine RL_do rfl rfl (Do_pick_t (v := .bool x304) rfl rfl) ?_
                      refine RL_do rfl rfl (Do_assign (v := .bool x304) rfl) ?_
                      have hR := Option.some.inj hF
                      subst hR
                      refine (RL_nil (thenQ_n (And.intro ?_ ?_)))
                      · repeat' (first | with_reducible exact Fr_refl | refine Fr_upd rfl ?_ | refine Fr_over rfl rfl ?_)
                      · exact ⟨(), (Sl_cons rfl Sl_nil), H.pick [0] (by decide)⟩
                    · have hF := iteB_f c302 hF
                      refine RL_off rfl rfl ?_
                      refine RL_do rfl rfl (Do_pick_f (v := .bool false) rfl rfl) ?_
                      refine RL_do rfl rfl (Do_assign (v := .bool false) rfl) ?_
                      have hR := Option.some.inj hF
                      subst hR
                      refine (RL_nil (thenQ_n (And.intro ?_ ?_)))
                      · repeat' (first | with_reducible exact Fr_refl | refine Fr_upd rfl ?_ | refine Fr_over rfl rfl ?_)
                      · exact ⟨(), (Sl_cons rfl Sl_nil), H.pick [0] (by decide)⟩
                  · have hF := iteB_f c288 hF
                    refine RL_off rfl rfl ?_
                    refine RL_off rfl rfl ?_
                    refine RL_off rfl rfl ?_
                    refine RL_off rfl rfl ?_
                    refine RL_off rfl rfl ?_
                    refine RL_do rfl rfl (Do_pick_f (v := .bool false) rfl rfl) ?_
                    refine RL_do rfl rfl (Do_pick_f (v := .bool false) rfl rfl) ?_
                    refine RL_do rfl rfl (Do_pick_t (v := .bool false) rfl rfl) ?_
                    refine RL_do rfl rfl (Do_move (v := .bool false) rfl) ?_
                    refine RL_off rfl rfl ?_
                    refine RL_do rfl rfl (Do_pick_f (v := .bool false) rfl rfl) ?_
                    refine RL_do rfl rfl (Do_assign (v := .bool false) rfl) ?_
                    have hR := Option.some.inj hF
                    subst hR
                    refine (RL_nil (thenQ_n (And.intro ?_ ?_)))
                    · repeat' (first | with_reducible exact Fr_refl | refine Fr_upd rfl ?_ | refine Fr_over rfl rfl ?_)
                    · exact ⟨(), (Sl_cons rfl Sl_nil), H.pick [0] (by decide)⟩
                · have hF := iteB_f c280 hF
                  refine RL_off rfl rfl ?_
                  refine RL_off rfl rfl ?_
                  refine RL_off rfl rfl ?_
                  refine RL_do rfl rfl (Do_pick_f (v := .bool false) rfl rfl) ?_
                  refine RL_do rfl rfl (Do_move (v := .bool false) rfl) ?_
                  refine RL_off rfl rfl ?_
                  refine RL_off rfl rfl ?_
                  refine RL_off rfl rfl ?_
                  refine RL_off rfl rfl ?_
                  refine RL_off rfl rfl ?_
                  refine RL_do rfl rfl (Do_pick_f (v := .bool false) rfl rfl) ?_
                  refine RL_do rfl rfl (Do_pick_f (v := .bool false) rfl rfl) ?_
                  refine RL_do rfl rfl (Do_pick_t (v := .bool false) rfl rfl) ?_
                  refine RL_do rfl rfl (Do_move (v := .bool false) rfl) ?_
                  refine RL_off rfl rfl ?_
                  refine RL_do rfl rfl (Do_pick_f (v := .bool false) rfl rfl) ?_
                  refine RL_do rfl rfl (Do_assign (v := .bool false) rfl) ?_
                  have hR := Option.some.inj hF
                  subst hR
                  refine (RL_nil (thenQ_n (And.intro ?_ ?_)))
                  · repeat' (first | with_reducible exact Fr_refl | refine Fr_upd rfl ?_ | refine Fr_over rfl rfl ?_)
                  · exact ⟨(), (Sl_cons rfl Sl_nil), H.pick [0] (by decide)⟩
            · have hF := iteB_f c264 hF
              refine RL_off rfl rfl ?_
              refine RL_off rfl rfl ?_
              refine RL_off rfl rfl ?_
              refine RL_do rfl rfl (Do_pick_f (v := .bool false) rfl rfl) ?_
              refine RL_do rfl rfl (Do_move (v := .bool false) rfl) ?_
              refine RL_do rfl rfl (Do_loadF (e := (Fl.arr 64 (Fl.int .u16))) (a := x89) agg25 rfl sz25 (Blk.cells (H.item (i := 2) rfl))) ?_
              refine RL_do rfl rfl (Do_loadF (e := (Fl.arr 64 (Fl.int .u16))) (a := x7) agg25 rfl sz25 (Blk.cells (H.item (i := 1) rfl))) ?_
              obtain ⟨x308, e309, hF⟩ := letO_some hF
              refine RL_do rfl rfl (Do_as (Do_neqF (e := (Fl.arr 64 (Fl.int .u16))) (a := x89) (b := x7) (by kernel_rfl) eqf25 (by decide) agg25 sz25 rfl rfl) (congrArg Value.bool e309)) ?_
              refine RL_splitb (b := x308) rfl rfl rfl (fun c310 => ?_) (fun c310 => ?_)
              · have hF := iteB_t c310 hF
                refine RL_do rfl rfl (Do_move (v := v97) rfl) ?_
                obtain ⟨x311, e312, hF⟩ := letO_some hF
                obtain ⟨a313, c314, q315⟩ := Sr.len (Sr.of_own (H.item (i := 3) rfl))
                refine RL_do rfl rfl (Do_as (Do_len u46 q315) (congrArg (Value.int .i64) e312)) ?_
                obtain ⟨x316, e317, hF⟩ := letO_some hF
                refine RL_do rfl rfl (Do_as (Do_eql (a := x311) (b := 1) rfl rfl) (congrArg Value.bool e317)) ?_
                refine RL_do rfl rfl (Do_pick_t (v := .bool x316) rfl rfl) ?_
                refine RL_splitb (b := x316) rfl rfl rfl (fun c318 => ?_) (fun c318 => ?_)
                · have hF := iteB_t c318 hF
                  refine RL_do rfl rfl (Do_move (v := v97) rfl) ?_
                  obtain ⟨x319, e320, hF⟩ := bindO_some hF
                  obtain ⟨b321, c323, cs324, q325, h328, h329⟩ := own_at (H.item (i := 3) rfl) e320
                  obtain rfl : cs324 = [.int .i64 x319] := h328
                  refine RL_do rfl rfl (Do_idx u46 sz3 q325 rfl (at_some e320).1 (at_some e320).2.1 rfl rfl) ?_
                  refine RL_do rfl rfl (Do_load one3 rfl (Cells.get h329 (i := 0) rfl)) ?_
                  refine RL_do rfl rfl (Do_move (v := .int .i64 p2) rfl) ?_
                  obtain ⟨x330, e331, hF⟩ := letO_some hF
                  refine RL_do rfl rfl (Do_as (Do_eql (a := x319) (b := p2) rfl rfl) (congrArg Value.bool e331)) ?_
                  refine RL_do rfl rfl (Do_pick_t (v := .bool x330) rfl rfl) ?_
                  refine RL_do rfl rfl (Do_pick_f (v := .bool x330) rfl rfl) ?_
                  refine RL_do rfl rfl (Do_pick_t (v := .bool x330) rfl rfl) ?_
                  refine RL_splitb (b := x330) rfl rfl rfl (fun c332 => ?_) (fun c332 => ?_)
                  · have hF := iteB_t c332 hF
                    have H333 := H
                    obtain ⟨x334, e335, hF⟩ := bindO_some hF
                    refine RL_call rfl rfl (DoC_func en21 rfl) (X_framed_w _ e335 _ _ _ (H.enter [] [0] (by decide) rfl)) ?_
                    rintro _ w336 ⟨rfl, G337⟩
                    have H := H333.step (G337.only : Only [] _ _)
                    refine ⟨_, rfl, ?_⟩
                    refine RL_do rfl rfl (Do_pick_t (v := .bool x334) rfl rfl) ?_
                    refine RL_do rfl rfl (Do_assign (v := .bool x334) rfl) ?_
                    have hR := Option.some.inj hF
                    subst hR
                    refine (RL_nil (thenQ_n (And.intro ?_ ?_)))
                    · repeat' (first | with_reducible exact Fr_refl | refine Fr_upd rfl ?_ | refine Fr_over rfl rfl ?_)
                    · exact ⟨(), (Sl_cons rfl Sl_nil), H.pick [0] (by decide)⟩
                  · have hF := iteB_f c332 hF
                    refine RL_off rfl rfl ?_
                    refine RL_do rfl rfl (Do_pick_f (v := .bool false) rfl rfl) ?_
                    refine RL_do rfl rfl (Do_assign (v := .bool false) rfl) ?_
                    have hR := Option.some.inj hF
                    subst hR
                    refine (RL_nil (thenQ_n (And.intro ?_ ?_)))
                    · repeat' (first | with_reducible exact Fr_refl | refine Fr_upd rfl ?_ | refine Fr_over rfl rfl ?_)
                    · exact ⟨(), (Sl_cons rfl Sl_nil), H.pick [0] (by decide)⟩
                · have hF := iteB_f c318 hF
                  refine RL_off rfl rfl ?_
                  refine RL_off rfl rfl ?_
                  refine RL_off rfl rfl ?_
                  refine RL_off rfl rfl ?_
                  refine RL_off rfl rfl ?_
                  refine RL_do rfl rfl (Do_pick_f (v := .bool false) rfl rfl) ?_
                  refine RL_do rfl rfl (Do_pick_f (v := .bool false) rfl rfl) ?_
                  refine RL_do rfl rfl (Do_pick_t (v := .bool false) rfl rfl) ?_
                  refine RL_do rfl rfl (Do_move (v := .bool false) rfl) ?_
                  refine RL_off rfl rfl ?_
                  refine RL_do rfl rfl (Do_pick_f (v := .bool false) rfl rfl) ?_
                  refine RL_do rfl rfl (Do_assign (v := .bool false) rfl) ?_
                  have hR := Option.some.inj hF
                  subst hR
                  refine (RL_nil (thenQ_n (And.intro ?_ ?_)))
                  · repeat' (first | with_reducible exact Fr_refl | refine Fr_upd rfl ?_ | refine Fr_over rfl rfl ?_)
                  · exact ⟨(), (Sl_cons rfl Sl_nil), H.pick [0] (by decide)⟩
              · have hF := iteB_f c310 hF
                refine RL_off rfl rfl ?_
                refine RL_off rfl rfl ?_
                refine RL_off rfl rfl ?_
                refine RL_do rfl rfl (Do_pick_f (v := .bool false) rfl rfl) ?_
                refine RL_do rfl rfl (Do_move (v := .bool false) rfl) ?_
                refine RL_off rfl rfl ?_
                refine RL_off rfl rfl ?_
                refine RL_off rfl rfl ?_
                refine RL_off rfl rfl ?_
                refine RL_off rfl rfl ?_
                refine RL_do rfl rfl (Do_pick_f (v := .bool false) rfl rfl) ?_
                refine RL_do rfl rfl (Do_pick_f (v := .bool false) rfl rfl) ?_
                refine RL_do rfl rfl (Do_pick_t (v := .bool false) rfl rfl) ?_
                refine RL_do rfl rfl (Do_move (v := .bool false) rfl) ?_
                refine RL_off rfl rfl ?_
                refine RL_do rfl rfl (Do_pick_f (v := .bool false) rfl rfl) ?_
                refine RL_do rfl rfl (Do_assign (v := .bool false) rfl) ?_
                have hR := Option.some.inj hF
                subst hR
                refine (RL_nil (thenQ_n (And.intro ?_ ?_)))
                · repeat' (first | with_reducible exact Fr_refl | refine Fr_upd rfl ?_ | refine Fr_over rfl rfl ?_)
                · exact ⟨(), (Sl_cons rfl Sl_nil), H.pick [0] (by decide)⟩
          · have hF := iteB_f c261 hF
            refine RL_off rfl rfl ?_
            refine RL_off rfl rfl ?_
            refine RL_off rfl rfl ?_
            refine RL_off rfl rfl ?_
            refine RL_off rfl rfl ?_
            refine RL_off rfl rfl ?_
            refine RL_off rfl rfl ?_
            refine RL_off rfl rfl ?_
            refine RL_off rfl rfl ?_
            refine RL_off rfl rfl ?_
            refine RL_off rfl rfl ?_
            refine RL_off rfl rfl ?_
            refine RL_off rfl rfl ?_
            refine RL_off rfl rfl ?_
            refine RL_off rfl rfl ?_
            refine RL_off rfl rfl ?_
            refine RL_off rfl rfl ?_
            refine RL_off rfl rfl ?_
            refine RL_off rfl rfl ?_
            refine RL_off rfl rfl ?_
            refine RL_off rfl rfl ?_
            refine RL_off rfl rfl ?_
            refine RL_off rfl rfl ?_
            refine RL_off rfl rfl ?_
            refine RL_off rfl rfl ?_
            refine RL_do rfl rfl (Do_pick_f (v := .bool false) rfl rfl) ?_
            refine RL_do rfl rfl (Do_move (v := .bool false) rfl) ?_
            refine RL_off rfl rfl ?_
            refine RL_do rfl rfl (Do_pick_f (v := .bool false) rfl rfl) ?_
            refine RL_do rfl rfl (Do_assign (v := .bool false) rfl) ?_
            have hR := Option.some.inj hF
            subst hR
            refine (RL_nil (thenQ_n (And.intro ?_ ?_)))
            · repeat' (first | with_reducible exact Fr_refl | refine Fr_upd rfl ?_ | refine Fr_over rfl rfl ?_)
            · exact ⟨(), (Sl_cons rfl Sl_nil), H.pick [0] (by decide)⟩
        · rintro _ ρ w257 H
          have hF := hK258
          have hR := Option.some.inj hF
          subst hR
          refine (WP_ret (post1 (v1 := .bool g256) rfl rfl ?_))
          exact ⟨rfl, H.pick [] (by decide)⟩
end Go.Proofs.YtafgmocdnjdmoaaDoor.L
