/- Walks: what each function computes, for every argument; no condition but those that stand in the statements. -/
import Derived.Test.YtafgmocdnjdmoaaDoorAV0
import Derived.Test.YtafgmocdnjdmoaaDoorAV1
namespace Go.Proofs.YtafgmocdnjdmoaaDoor.L
open Go.RowKit Go.OB Go.Lf
/- orangebox/orangeboxref1.Mend -/
set_option maxHeartbeats 4000000 in
theorem F_ref1_Mend_w (p0 : Arr 64 Int) (r : (Arr 64 Int) × (List Int) × Bool) (hF : F_ref1_Mend p0 = some r) (O S : List Nat) (w : World) (H : Hd O w w S []) :
    Calls Tryd.prog 59 ([.agg ((Fl.arr 64 (Fl.int .u16)).f p0).toArray] : List Value).toArray w fun e w' => ∃ u1, e = .returned (.tuple #[.agg ((Fl.arr 64 (Fl.int .u16)).f r.1).toArray, u1, .bool r.2.2]) ∧ Hd O w w' S [.own (Rp.int .i64) u1 3 r.2.1] := by
  unfold F_ref1_Mend at hF
  refine calls_of_WP 36 Tryd.func59 rfl rfl rfl ?_
  refine WP_seq_k fun K2 hK2 => ?_
  refine WP_region ?_
  refine RL_ex rfl rfl (Lx_box (cs := (Fl.arr 64 (Fl.int .u16)).f p0) rfl H) ?_
  rintro _ w5 ⟨b3, rfl, H⟩
  refine RL_ex rfl rfl (Lx_alloc zero25 H) ?_
  rintro _ w8 ⟨b6, rfl, H⟩
  refine RL_do rfl rfl (Do_assign (v := .slice none 0 0) rfl) ?_
  refine RL_do rfl rfl (Do_assign (v := .bool false) rfl) ?_
  refine (RL_nil (thenQ_n (hK2 _ _ ?_)))
  refine WP_seq_k fun K18 hK18 => ?_
  refine WP_seq_k fun K19 hK19 => ?_
  refine WP_region ?_
  refine RL_do rfl rfl (Do_loadF (e := (Fl.arr 64 (Fl.int .u16))) (a := p0) agg25 rfl sz25 (Blk.cells (H.item (i := 0) rfl))) ?_
  have H20 := H
  obtain ⟨x21, e22, hF⟩ := bindO_some hF
  refine RL_call rfl rfl (DoC_func en74 rfl) (F_ref1_Wide_w p0 _ e22 _ _ _ (H.enter [] [] (by decide) rfl)) ?_
  rintro _ w23 ⟨rfl, G24⟩
  have H := H20.step (G24.only : Only [] _ _)
  refine ⟨_, rfl, ?_⟩
  refine (RL_nil (thenQ_n (hK19 _ _ ?_)))
  refine WP_ifb (b := x21) rfl (fun c25 => ?_) (fun c25 => ?_)
  · have hF := iteB_t c25 hF
    refine WP_seq_k fun K26 hK26 => ?_
    refine WP_region ?_
    refine RL_do rfl rfl (Do_build (cs := (Fl.arr 64 (Fl.int .u16)).f (Arr.rep 64 0 : Arr 64 Int)) bz25) ?_
    refine RL_exU rfl (Lx_storeW (e := (Fl.arr 64 (Fl.int .u16))) (a := (Arr.rep 64 0 : Arr 64 Int)) (a' := (Arr.rep 64 0 : Arr 64 Int)) H 1 rfl sz25 rfl rfl) ?_
    rintro w27 H
    refine RL_do rfl rfl (Do_assign (v := .slice none 0 0) rfl) ?_
    refine RL_do rfl rfl (Do_assign (v := .bool false) rfl) ?_
    refine (RL_nil (thenQ_n (hK26 _ _ ?_)))
    have H := own_nil H (Rp.int .i64) 3
    have hR := Option.some.inj hF
    subst hR
    refine (WP_ret (thenQ_r (postc2 (v1 := .slice none 0 0) (v2 := .bool false) rfl rfl (run_loadVar_agg agg25 sz25 (Fl.len _ _) (Blk.cells (H.item (i := 1) rfl))) rfl rfl ?_)))
    exact ⟨.slice none 0 0, rfl, H.pick [2] (by decide)⟩
  · have hF := iteB_f c25 hF
    refine (WP_skip (thenQ_n (hK18 _ _ ?_)))
    refine WP_seq_k fun K38 hK38 => ?_
    refine WP_seq_k fun K39 hK39 => ?_
    refine WP_region ?_
    refine RL_do rfl rfl (Do_loadF (e := (Fl.arr 64 (Fl.int .u16))) (a := p0) agg25 rfl sz25 (Blk.cells (H.item (i := 0) rfl))) ?_
    have H40 := H
    obtain ⟨x41, e42, hF⟩ := bindO_some hF
    refine RL_call rfl rfl (DoC_func en104 rfl) (F_ref1_Sound_w p0 _ e42 _ _ _ (H.enter [] [] (by decide) rfl)) ?_
    rintro _ w43 ⟨rfl, G44⟩
    have H := H40.step (G44.only : Only [] _ _)
    refine ⟨_, rfl, ?_⟩
    refine (RL_nil (thenQ_n (hK39 _ _ ?_)))
    refine WP_ifb (b := x41) rfl (fun c45 => ?_) (fun c45 => ?_)
    · have hF := iteB_t c45 hF
      refine WP_seq_k fun K46 hK46 => ?_
      refine WP_region ?_
      refine RL_do rfl rfl (Do_loadF (e := (Fl.arr 64 (Fl.int .u16))) (a := p0) agg25 rfl sz25 (Blk.cells (H.item (i := 0) rfl))) ?_
      refine RL_exU rfl (Lx_storeW (e := (Fl.arr 64 (Fl.int .u16))) (a := (Arr.rep 64 0 : Arr 64 Int)) (a' := p0) H 1 rfl sz25 rfl rfl) ?_
      rintro w47 H
      refine RL_do rfl rfl (Do_assign (v := .slice none 0 0) rfl) ?_
      refine RL_do rfl rfl (Do_assign (v := .bool true) rfl) ?_
      refine (RL_nil (thenQ_n (hK46 _ _ ?_)))
      have H := own_nil H (Rp.int .i64) 3
      have hR := Option.some.inj hF
      subst hR
      refine (WP_ret (thenQ_r (postc2 (v1 := .slice none 0 0) (v2 := .bool true) rfl rfl (run_loadVar_agg agg25 sz25 (Fl.len _ _) (Blk.cells (H.item (i := 1) rfl))) rfl rfl ?_)))
      exact ⟨.slice none 0 0, rfl, H.pick [2] (by decide)⟩
    · have hF := iteB_f c45 hF
      refine (WP_skip (thenQ_n (hK38 _ _ ?_)))
      refine WP_seq_k fun K49 hK49 => ?_
      refine WP_region ?_
      refine RL_do rfl rfl (Do_assign (v := .slice none 0 0) rfl) ?_
      refine (RL_nil (thenQ_n (hK49 _ _ ?_)))
      refine WP_seq_k fun K50 hK50 => ?_
      refine WP_region ?_
      refine RL_do rfl rfl (Do_build (cs := (Fl.arr 64 (Fl.int .u16)).f (Arr.rep 64 0 : Arr 64 Int)) bz25) ?_
      refine RL_ex rfl rfl (Lx_alloc zero25 H) ?_
      rintro _ w53 ⟨b51, rfl, H⟩
      refine RL_exU rfl (Lx_storeW (e := (Fl.arr 64 (Fl.int .u16))) (a := (Arr.rep 64 0 : Arr 64 Int)) (a' := (Arr.rep 64 0 : Arr 64 Int)) H 2 rfl sz25 rfl rfl) ?_
      rintro w54 H
      refine (RL_nil (thenQ_n (hK50 _ _ ?_)))
      obtain ⟨j168, hF, hK167⟩ := bindO_some hF
      refine WP_seqS [5, 7, 8, 16, 17, 18, 19, 20, 21, 22, 23, 24, 25, 26, 27, 28, 29] (fun (g : Value) => [(5, g)]) (fun g wl => Hd O w wl S [.own (Rp.int .i64) g 3 j168.1, .blk b6 ((Fl.arr 64 (Fl.int .u16)).f (Arr.rep 64 0 : Arr 64 Int)) 25, .blk b51 ((Fl.arr 64 (Fl.int .u16)).f j168.2) 25]) ?_ ?_
      · skip
        refine WP_seq_k fun K169 hK169 => ?_
        refine WP_region ?_
        refine RL_do rfl rfl (Do_move (v := .int .i64 0) rfl) ?_
        refine (RL_nil (thenQ_n (hK169 _ _ ?_)))
        refine WP_block ?_
        have H := own_nil H (Rp.int .i64) 3
        unfold F_ref1_Mend_L1 at hF
        obtain ⟨B275, n276, eB277, hF⟩ := loopO_some hF
        refine WP_loopS [5, 7, 8, 16, 17, 18, 19, 20, 21, 22, 23, 24, 25, 26, 27, 28, 29] (fun (g : Nat × (List Int) × Int × (Arr 64 Int) × Value) => [(5, g.2.2.2.2), (16, .int .i64 g.2.2.1)]) (fun g wl => Hd O w wl S [.own (Rp.int .i64) g.2.2.2.2 3 g.2.1, .blk b3 ((Fl.arr 64 (Fl.int .u16)).f p0) 25, .blk b6 ((Fl.arr 64 (Fl.int .u16)).f (Arr.rep 64 0 : Arr 64 Int)) 25, .blk b51 ((Fl.arr 64 (Fl.int .u16)).f g.2.2.2.1) 25] ∧ loopN B275 g.1 (g.2.1, g.2.2.1, g.2.2.2.1) = some j168) (fun g => g.1) (n276, [], 0, (Arr.rep 64 0 : Arr 64 Int), .slice none 0 0) (Sl_cons rfl (Sl_cons rfl Sl_nil)) ⟨H.pick [3, 0, 1, 2] (by decide), hF⟩ ?_
        clear H hF
        rintro ⟨n276, g270, g272, g273, v271⟩ ρ w279 ⟨H, hF⟩
        obtain ⟨n280, rfl, hF⟩ := loopN_pos hF
        have hF := loop_body eB277 hF
        refine WP_seq_k fun K281 hK281 => ?_
        refine WP_region ?_
        obtain ⟨x282, e283, hF⟩ := letO_some hF
        refine RL_do rfl rfl (Do_as (Do_lss (a := g272) (b := 64) rfl rfl) (congrArg Value.bool e283)) ?_
        refine (RL_nil (thenQ_n (hK281 _ _ ?_)))
        refine WP_seq_k fun K285 hK285 => ?_
        refine WP_ifb (b := x282) rfl (fun c286 => ?_) (fun c286 => ?_)
        · have hF := iteB_t c286 hF
          refine (WP_skip (thenQ_n (hK285 _ _ ?_)))
          obtain ⟨j324, hF, hK323⟩ := bindO_some hF
          refine WP_seqS [5, 7, 8, 18, 19, 20, 21, 22, 23, 24, 25, 26, 27, 28] (fun (g : Value) => [(5, g)]) (fun g wl => Hd O w wl S [.own (Rp.int .i64) g 3 j324.1, .blk b3 ((Fl.arr 64 (Fl.int .u16)).f p0) 25, .blk b6 ((Fl.arr 64 (Fl.int .u16)).f (Arr.rep 64 0 : Arr 64 Int)) 25, .blk b51 ((Fl.arr 64 (Fl.int .u16)).f j324.2) 25]) ?_ ?_
          · skip
            refine WP_block ?_
            refine WP_seq_k fun K325 hK325 => ?_
            refine WP_region ?_
            refine RL_do rfl rfl (Do_move (v := .int .i64 g272) rfl) ?_
            refine RL_do rfl rfl (Do_assign (v := .int .i64 g272) rfl) ?_
            refine (RL_nil (thenQ_n (hK325 _ _ ?_)))
            refine WP_seq_k fun K326 hK326 => ?_
            refine WP_region ?_
            refine RL_do rfl rfl (Do_loadF (e := (Fl.arr 64 (Fl.int .u16))) (a := p0) agg25 rfl sz25 (Blk.cells (H.item (i := 1) rfl))) ?_
            refine RL_do rfl rfl (Do_move (v := .int .i64 g272) rfl) ?_
            have H327 := H
            obtain ⟨x328, e329, hF⟩ := bindO_some hF
            refine RL_call rfl rfl (DoC_func en105 rfl) (F_ref1_PutWord_w p0 g272 _ e329 _ _ _ (H.enter [] [] (by decide) rfl)) ?_
            rintro _ w330 ⟨rfl, G331⟩
            have H := H327.step (G331.only : Only [] _ _)
            refine ⟨_, rfl, ?_⟩
            refine RL_ex rfl rfl (Lx_alloc zero25 H) ?_
            rintro _ w334 ⟨b332, rfl, H⟩
            refine RL_exU rfl (Lx_storeW (e := (Fl.arr 64 (Fl.int .u16))) (a := (Arr.rep 64 0 : Arr 64 Int)) (a' := x328) H 4 rfl sz25 rfl rfl) ?_
            rintro w335 H
            refine (RL_nil (thenQ_n (hK326 _ _ ?_)))
            refine WP_seq_k fun K336 hK336 => ?_
            refine WP_region ?_
            refine RL_do rfl rfl (Do_loadF (e := (Fl.arr 64 (Fl.int .u16))) (a := x328) agg25 rfl sz25 (Blk.cells (H.item (i := 4) rfl))) ?_
            have H337 := H
            obtain ⟨x338, e339, hF⟩ := bindO_some hF
            refine RL_call rfl rfl (DoC_func en104 rfl) (F_ref1_Sound_w x328 _ e339 _ _ _ (H.enter [] [] (by decide) rfl)) ?_
            rintro _ w340 ⟨rfl, G341⟩
            have H := H337.step (G341.only : Only [] _ _)
            refine ⟨_, rfl, ?_⟩
            refine (RL_nil (thenQ_n (hK336 _ _ ?_)))
            refine WP_ifb (b := x338) rfl (fun c342 => ?_) (fun c342 => ?_)
            · have hF := iteB_t c342 hF
              have H := H.freezeB (i := 4) rfl
              have H343 := H
              have H := H.rebase
              have H344 := H
              have h345 := H.firm (i := 4) rfl
              refine WP_mix H [0, 1, 4, 2, 3, 5, 6] [.pure, .pure, .new, .eff, .pure, .pure, .eff] mixed (by kernel_rfl) (by kernel_rfl) (by kernel_rfl) (by decide) ?_
              refine Mx.XL_pure rfl rfl rfl (fun w' hw' => Do_move (v := v271) rfl) ?_
              refine Mx.XL_pure rfl rfl rfl (fun w' hw' => Do_move (v := .int .i64 g272) rfl) ?_
              refine Mx.XL_pure rfl rfl rfl (fun w' hw' => Do_loadF (e := (Fl.arr 64 (Fl.int .u16))) (a := x328) agg25 rfl sz25 (h345 w' hw').2.2) ?_
              obtain ⟨x346, e347, hF⟩ := letO_some hF
              subst e347
              refine Mx.XL_exN oS rfl rfl rfl (fun w' hw' => Ls_of (Lx_bs (r := (Rp.int .i64)) (xl := [g272]) (cs := [.int .i64 g272]) u46 el3 (by decide) (by decide) rfl (fillB_parts (vs := [.int .i64 g272]) (by decide) rfl rfl ⟨rfl, trivial⟩ rfl) (H.sees hw') ⟨[.int .i64 g272], [], rfl, rfl, rfl⟩) (Ys_bs (cs := [.int .i64 g272]) u46 el3 (by decide) (by decide) (fillB_parts (vs := [.int .i64 g272]) (by decide) rfl rfl ⟨rfl, trivial⟩ rfl))) ?_
              rintro w' v349 w350 hw' H
              obtain ⟨x351, e352, hF⟩ := bindO_some hF
              refine Mx.XL_ex oS rfl rfl rfl (fun w' hw' => Lx_app (H.sees hw') (i := 0) rfl u46 el3 rfl rfl (Sr.of_own ((H.sees hw').item (i := 5) rfl)) e352) ?_
              rintro w' v353 w354 hw' H
              refine ⟨H.only, ?_⟩
              refine Mx.XL_pure rfl rfl rfl (fun w' hw' => Do_assign (v := v353) rfl) ?_
              refine Mx.XL_exU oS rfl rfl (fun w' hw' => Lx_storeW (e := (Fl.arr 64 (Fl.int .u16))) (a := g273) (a' := x328) (H.sees hw') 3 rfl sz25 rfl rfl) ?_
              rintro w' w355 hw' H
              refine ⟨H.only, ?_⟩
              refine Mx.XL_nil fun w356 hS => ?_
              have H := H.sees hS
              have H := H343.rejoin H
              have hR := Option.some.inj hF
              subst hR
              refine (blockQ_n (thenQ_n (And.intro ?_ ?_)))
              · repeat' (first | with_reducible exact Fr_refl | refine Fr_upd rfl ?_ | refine Fr_over rfl rfl ?_)
              · exact ⟨v353, (Sl_cons rfl Sl_nil), H.pick [0, 1, 2, 3] (by decide)⟩
            · have hF := iteB_f c342 hF
              have hR := Option.some.inj hF
              subst hR
              refine (WP_skip (blockQ_n (thenQ_n (And.intro ?_ ?_))))
              · repeat' (first | with_reducible exact Fr_refl | refine Fr_upd rfl ?_ | refine Fr_over rfl rfl ?_)
              · exact ⟨v271, (Sl_cons rfl Sl_nil), H.pick [0, 1, 2, 3] (by decide)⟩
          · rintro v320 ρ w322 H
            have hF := hK323
            obtain ⟨g319, g321⟩ := j324
            refine WP_region ?_
            obtain ⟨x357, e358, hF⟩ := letO_some hF
            refine RL_do rfl rfl (Do_add (a := g272) (b := 1) rfl rfl e358) ?_
            refine RL_do rfl rfl (Do_move (v := .int .i64 x357) rfl) ?_
            refine (RL_nil (thenQ_n (And.intro ?_ ?_)))
            · repeat' (first | with_reducible exact Fr_refl | refine Fr_upd rfl ?_ | refine Fr_over rfl rfl ?_)
            · exact ⟨(n280, g319, x357, g321, v320), (Sl_cons rfl (Sl_cons rfl Sl_nil)), ⟨H.pick [0, 1, 2, 3] (by decide), hF⟩, Nat.lt_succ_self _⟩
        · have hF := iteB_f c286 hF
          have hR := Option.some.inj hF
          subst hR
          refine (WP_exit (thenQ_x (thenQ_x (blockQ_eq (thenQ_n (And.intro ?_ ?_))))))
          · repeat' (first | with_reducible exact Fr_refl | refine Fr_upd rfl ?_ | refine Fr_over rfl rfl ?_)
          · exact ⟨v271, (Sl_cons rfl Sl_nil), H.pick [0, 2, 3] (by decide)⟩
      · rintro v164 ρ w166 H
        have hF := hK167
        obtain ⟨g163, g165⟩ := j168
        refine WP_seq_k fun K370 hK370 => ?_
        refine WP_seq_k fun K371 hK371 => ?_
        refine WP_region ?_
        refine RL_do rfl rfl (Do_move (v := v164) rfl) ?_
        obtain ⟨x372, e373, hF⟩ := letO_some hF
        obtain ⟨a374, c375, q376⟩ := Sr.len (Sr.of_own (H.item (i := 0) rfl))
        refine RL_do rfl rfl (Do_as (Do_len u46 q376) (congrArg (Value.int .i64) e373)) ?_
        obtain ⟨x377, e378, hF⟩ := letO_some hF
        refine RL_do rfl rfl (Do_as (Do_neq (a := x372) (b := 1) rfl rfl) (congrArg Value.bool e378)) ?_
        refine (RL_nil (thenQ_n (hK371 _ _ ?_)))
        refine WP_ifb (b := x377) rfl (fun c379 => ?_) (fun c379 => ?_)
        · have hF := iteB_t c379 hF
          refine WP_seq_k fun K380 hK380 => ?_
          refine WP_region ?_
          refine RL_do rfl rfl (Do_build (cs := (Fl.arr 64 (Fl.int .u16)).f (Arr.rep 64 0 : Arr 64 Int)) bz25) ?_
          refine RL_exU rfl (Lx_storeW (e := (Fl.arr 64 (Fl.int .u16))) (a := (Arr.rep 64 0 : Arr 64 Int)) (a' := (Arr.rep 64 0 : Arr 64 Int)) H 1 rfl sz25 rfl rfl) ?_
          rintro w381 H
          refine RL_do rfl rfl (Do_assign (v := .slice none 0 0) rfl) ?_
          refine RL_do rfl rfl (Do_assign (v := .bool false) rfl) ?_
          refine (RL_nil (thenQ_n (hK380 _ _ ?_)))
          have H := own_nil H (Rp.int .i64) 3
          have hR := Option.some.inj hF
          subst hR
          refine (WP_ret (thenQ_r (postc2 (v1 := .slice none 0 0) (v2 := .bool false) rfl rfl (run_loadVar_agg agg25 sz25 (Fl.len _ _) (Blk.cells (H.item (i := 1) rfl))) rfl rfl ?_)))
          exact ⟨.slice none 0 0, rfl, H.pick [3] (by decide)⟩
        · have hF := iteB_f c379 hF
          refine (WP_skip (thenQ_n (hK370 _ _ ?_)))
          refine WP_seq_k fun K383 hK383 => ?_
          refine WP_region ?_
          refine RL_do rfl rfl (Do_loadF (e := (Fl.arr 64 (Fl.int .u16))) (a := g165) agg25 rfl sz25 (Blk.cells (H.item (i := 2) rfl))) ?_
          refine RL_do rfl rfl (Do_move (v := v164) rfl) ?_
          refine RL_exU rfl (Lx_storeW (e := (Fl.arr 64 (Fl.int .u16))) (a := (Arr.rep 64 0 : Arr 64 Int)) (a' := g165) H 1 rfl sz25 rfl rfl) ?_
          rintro w384 H
          refine RL_do rfl rfl (Do_assign (v := v164) rfl) ?_
          refine RL_do rfl rfl (Do_assign (v := .bool true) rfl) ?_
          refine (RL_nil (thenQ_n (hK383 _ _ ?_)))
          have hR := Option.some.inj hF
          subst hR
          refine (WP_ret (postc2 (v1 := v164) (v2 := .bool true) rfl rfl (run_loadVar_agg agg25 sz25 (Fl.len _ _) (Blk.cells (H.item (i := 1) rfl))) rfl rfl ?_))
          exact ⟨v164, rfl, H.pick [0] (by decide)⟩
end Go.Proofs.YtafgmocdnjdmoaaDoor.L
namespace Go.Proofs.YtafgmocdnjdmoaaDoor.L
open Go.RowKit Go.OB Go.Lf
/- orangebox/orangeboxlaw1.FrameMendMatchesSpec -/
set_option maxHeartbeats 4000000 in
theorem F_law1_FrameMendMatchesSpec_w (p0 : Arr 64 Int) (r : Bool) (hF : F_law1_FrameMendMatchesSpec p0 = some r) (O S : List Nat) (w : World) (H : Hd O w w S [.fz (.at 0 0 ((Fl.arr 4 (Fl.int .u16)).f G_frame_syncs))]) :
    Calls Tryd.prog 14 ([.agg ((Fl.arr 64 (Fl.int .u16)).f p0).toArray] : List Value).toArray w fun e w' => e = .returned (.bool r) ∧ Hd O w w' S [] := by
  unfold F_law1_FrameMendMatchesSpec at hF
  refine calls_of_WP 37 Tryd.func14 rfl rfl rfl ?_
  refine WP_seq_k fun K2 hK2 => ?_
  refine WP_region ?_
  refine RL_ex rfl rfl (Lx_box (cs := (Fl.arr 64 (Fl.int .u16)).f p0) rfl H) ?_
  rintro _ w5 ⟨b3, rfl, H⟩
  refine RL_do rfl rfl (Do_assign (v := .bool false) rfl) ?_
  refine (RL_nil (thenQ_n (hK2 _ _ ?_)))
  refine WP_seq_k fun K6 hK6 => ?_
  refine WP_region ?_
  refine RL_do rfl rfl (Do_loadF (e := (Fl.arr 64 (Fl.int .u16))) (a := p0) agg25 rfl sz25 (Blk.cells (H.item (i := 1) rfl))) ?_
  obtain ⟨⟨x7, x8, x9⟩, e10, hF⟩ := bindO_some hF
  refine RL_call rfl rfl (DoC_func en44 rfl) (F_frame_Mend_w p0 _ e10 _ _ _ (H.enter [] [0] (by decide) rfl)) ?_
  rintro _ w13 ⟨v11, rfl, G14⟩
  have H := H.back1 [0] rfl G14
  refine ⟨_, rfl, ?_⟩
  refine RL_do rfl rfl (Do_move (v := .tuple #[.agg ((Fl.arr 64 (Fl.int .u16)).f x7).toArray, v11, .bool x9]) rfl) ?_
  refine RL_do rfl rfl (Do_extract (v := .agg ((Fl.arr 64 (Fl.int .u16)).f x7).toArray) rfl rfl) ?_
  refine RL_do rfl rfl (Do_extract (v := v11) rfl rfl) ?_
  refine RL_do rfl rfl (Do_extract (v := .bool x9) rfl rfl) ?_
  refine RL_ex rfl rfl (Lx_alloc zero25 H) ?_
  rintro _ w17 ⟨b15, rfl, H⟩
  refine RL_exU rfl (Lx_storeW (e := (Fl.arr 64 (Fl.int .u16))) (a := (Arr.rep 64 0 : Arr 64 Int)) (a' := x7) H 3 rfl sz25 rfl rfl) ?_
  rintro w18 H
  refine RL_do rfl rfl (Do_assign (v := v11) rfl) ?_
  refine RL_do rfl rfl (Do_assign (v := .bool x9) rfl) ?_
  refine (RL_nil (thenQ_n (hK6 _ _ ?_)))
  refine WP_seq_k fun K19 hK19 => ?_
  refine WP_region ?_
  refine RL_do rfl rfl (Do_loadF (e := (Fl.arr 64 (Fl.int .u16))) (a := p0) agg25 rfl sz25 (Blk.cells (H.item (i := 1) rfl))) ?_
  obtain ⟨⟨x20, x21, x22⟩, e23, hF⟩ := bindO_some hF
  refine RL_call rfl rfl (DoC_func en59 rfl) (F_ref1_Mend_w p0 _ e23 _ _ _ (H.enter [] [] (by decide) rfl)) ?_
  rintro _ w26 ⟨v24, rfl, G27⟩
  have H := H.back1 [] rfl G27
  refine ⟨_, rfl, ?_⟩
  refine RL_do rfl rfl (Do_move (v := .tuple #[.agg ((Fl.arr 64 (Fl.int .u16)).f x20).toArray, v24, .bool x22]) rfl) ?_
  refine RL_do rfl rfl (Do_extract (v := .agg ((Fl.arr 64 (Fl.int .u16)).f x20).toArray) rfl rfl) ?_
  refine RL_do rfl rfl (Do_extract (v := v24) rfl rfl) ?_
  refine RL_do rfl rfl (Do_extract (v := .bool x22) rfl rfl) ?_
  refine RL_ex rfl rfl (Lx_alloc zero25 H) ?_
  rintro _ w30 ⟨b28, rfl, H⟩
  refine RL_exU rfl (Lx_storeW (e := (Fl.arr 64 (Fl.int .u16))) (a := (Arr.rep 64 0 : Arr 64 Int)) (a' := x20) H 5 rfl sz25 rfl rfl) ?_
  rintro w31 H
  refine RL_do rfl rfl (Do_assign (v := v24) rfl) ?_
  refine RL_do rfl rfl (Do_assign (v := .bool x22) rfl) ?_
  refine (RL_nil (thenQ_n (hK19 _ _ ?_)))
  obtain ⟨g49, hF, hK51⟩ := bindO_some hF
  refine WP_seqS [2, 21, 22, 23, 24, 25, 26, 27, 28, 29, 30, 31, 32, 33, 34, 35, 36] (fun (g : Unit) => [(2, .bool g49)]) (fun g wl => Hd O w wl S [.fz (.at 0 0 ((Fl.arr 4 (Fl.int .u16)).f G_frame_syncs))]) ?_ ?_
  · skip
    refine WP_region ?_
    refine RL_do rfl rfl (Do_loadF (e := (Fl.arr 64 (Fl.int .u16))) (a := x7) agg25 rfl sz25 (Blk.cells (H.item (i := 3) rfl))) ?_
    refine RL_do rfl rfl (Do_loadF (e := (Fl.arr 64 (Fl.int .u16))) (a := x20) agg25 rfl sz25 (Blk.cells (H.item (i := 5) rfl))) ?_
    obtain ⟨x52, e53, hF⟩ := letO_some hF
    refine RL_do rfl rfl (Do_as (Do_eqlF (e := (Fl.arr 64 (Fl.int .u16))) (a := x7) (b := x20) (by kernel_rfl) eqf25 (by decide) agg25 sz25 rfl rfl) (congrArg Value.bool e53)) ?_
    refine RL_splitb (b := x52) rfl rfl rfl (fun c54 => ?_) (fun c54 => ?_)
    · have hF := iteB_t c54 hF
      refine RL_do rfl rfl (Do_move (v := v11) rfl) ?_
      refine RL_do rfl rfl (Do_move (v := v24) rfl) ?_
      have H55 := H
      have H := H.freeze (i := 2) rfl
      have H := H.freeze (i := 4) rfl
      obtain ⟨x56, e57, hF⟩ := bindO_some hF
      refine RL_call rfl rfl (DoC_func en49 rfl) (F_slices_Equal___int_int__w x8 x21 v11 v24 _ e57 _ _ _ (H.enter [] [2, 4] (by decide) rfl)) ?_
      rintro _ w58 ⟨rfl, G59⟩
      have H := H55.step (G59.only : Only [] _ _)
      refine ⟨_, rfl, ?_⟩
      refine RL_do rfl rfl (Do_pick_t (v := .bool x56) rfl rfl) ?_
      refine RL_splitb (b := x56) rfl rfl rfl (fun c60 => ?_) (fun c60 => ?_)
      · have hF := iteB_t c60 hF
        refine RL_do rfl rfl (Do_move (v := .bool x9) rfl) ?_
        refine RL_do rfl rfl (Do_move (v := .bool x22) rfl) ?_
        obtain ⟨x61, e62, hF⟩ := letO_some hF
        refine RL_do rfl rfl (Do_as (Do_eqlb (p := x9) (q := x22) u4 rfl rfl) (congrArg Value.bool e62)) ?_
        refine RL_do rfl rfl (Do_pick_t (v := .bool x61) rfl rfl) ?_
        refine RL_splitb (b := x61) rfl rfl rfl (fun c63 => ?_) (fun c63 => ?_)
        · have hF := iteB_t c63 hF
          have H64 := H
          obtain ⟨x65, e66, hF⟩ := bindO_some hF
          refine RL_call rfl rfl (DoC_func en21 rfl) (X_framed_w _ e66 _ _ _ (H.enter [] [0] (by decide) rfl)) ?_
          rintro _ w67 ⟨rfl, G68⟩
          have H := H64.step (G68.only : Only [] _ _)
          refine ⟨_, rfl, ?_⟩
          refine RL_do rfl rfl (Do_pick_t (v := .bool x65) rfl rfl) ?_
          refine RL_do rfl rfl (Do_assign (v := .bool x65) rfl) ?_
          have hR := Option.some.inj hF
          subst hR
          refine (RL_nil (thenQ_n (And.intro ?_ ?_)))
          · repeat' (first | with_reducible exact Fr_refl | refine Fr_upd rfl ?_ | refine Fr_over rfl rfl ?_)
          · exact ⟨(), (Sl_cons rfl Sl_nil), H.pick [0] (by decide)⟩
        · have hF := iteB_f c63 hF
          refine RL_off rfl rfl ?_
          refine RL_do rfl rfl (Do_pick_f (v := .bool false) rfl rfl) ?_
          refine RL_do rfl rfl (Do_assign (v := .bool false) rfl) ?_
          have hR := Option.some.inj hF
          subst hR
          refine (RL_nil (thenQ_n (And.intro ?_ ?_)))
          · repeat' (first | with_reducible exact Fr_refl | refine Fr_upd rfl ?_ | refine Fr_over rfl rfl ?_)
          · exact ⟨(), (Sl_cons rfl Sl_nil), H.pick [0] (by decide)⟩
      · have hF := iteB_f c60 hF
        refine RL_off rfl rfl ?_
        refine RL_off rfl rfl ?_
        refine RL_off rfl rfl ?_
        refine RL_do rfl rfl (Do_pick_f (v := .bool false) rfl rfl) ?_
        refine RL_do rfl rfl (Do_move (v := .bool false) rfl) ?_
        refine RL_off rfl rfl ?_
        refine RL_do rfl rfl (Do_pick_f (v := .bool false) rfl rfl) ?_
        refine RL_do rfl rfl (Do_assign (v := .bool false) rfl) ?_
        have hR := Option.some.inj hF
        subst hR
        refine (RL_nil (thenQ_n (And.intro ?_ ?_)))
        · repeat' (first | with_reducible exact Fr_refl | refine Fr_upd rfl ?_ | refine Fr_over rfl rfl ?_)
        · exact ⟨(), (Sl_cons rfl Sl_nil), H.pick [0] (by decide)⟩
    · have hF := iteB_f c54 hF
      refine RL_off rfl rfl ?_
      refine RL_off rfl rfl ?_
      refine RL_off rfl rfl ?_
      refine RL_do rfl rfl (Do_pick_f (v := .bool false) rfl rfl) ?_
      refine RL_do rfl rfl (Do_move (v := .bool false) rfl) ?_
      refine RL_off rfl rfl ?_
      refine RL_off rfl rfl ?_
      refine RL_off rfl rfl ?_
      refine RL_do rfl rfl (Do_pick_f (v := .bool false) rfl rfl) ?_
      refine RL_do rfl rfl (Do_move (v := .bool false) rfl) ?_
      refine RL_off rfl rfl ?_
      refine RL_do rfl rfl (Do_pick_f (v := .bool false) rfl rfl) ?_
      refine RL_do rfl rfl (Do_assign (v := .bool false) rfl) ?_
      have hR := Option.some.inj hF
      subst hR
      refine (RL_nil (thenQ_n (And.intro ?_ ?_)))
      · repeat' (first | with_reducible exact Fr_refl | refine Fr_upd rfl ?_ | refine Fr_over rfl rfl ?_)
      · exact ⟨(), (Sl_cons rfl Sl_nil), H.pick [0] (by decide)⟩
  · rintro _ ρ w50 H
    have hF := hK51
    have hR := Option.some.inj hF
    subst hR
    refine (WP_ret (post1 (v1 := .bool g49) rfl rfl ?_))
    exact ⟨rfl, H.pick [] (by decide)⟩
end Go.Proofs.YtafgmocdnjdmoaaDoor.L
