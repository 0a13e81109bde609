/- Walks: what each function computes, for every argument; no condition but those that stand in the statements. -/
import Derived.Test.YtafgmocdnjdmoaaDoorAV0
namespace Go.Proofs.YtafgmocdnjdmoaaDoor.L
open Go.RowKit Go.OB Go.Lf
/- orangebox/orangeboxlaw1.FrameFromBytesMatchesSpec -/
set_option maxHeartbeats 4000000 in
theorem F_law1_FrameFromBytesMatchesSpec_w (p0 : List Int) (p1 : Int) (p2 : List Int) (p3 : Int) (v1 : Value) (v3 : Value) (r : Bool) (hF : F_law1_FrameFromBytesMatchesSpec p0 p1 p2 p3 = some r) (O S : List Nat) (w : World) (H : Hd O w w S [.fz (.sl (Rp.int .u8) v1 p0), .fz (.sl (Rp.int .u8) v3 p2), .fz (.at 0 0 ((Fl.arr 4 (Fl.int .u16)).f G_frame_syncs))]) :
    Calls Tryd.prog 15 ([v1, .int .i64 p1, v3, .int .i64 p3] : List Value).toArray w fun e w' => e = .returned (.bool r) ∧ Hd O w w' S [] := by
  unfold F_law1_FrameFromBytesMatchesSpec at hF
  refine calls_of_WP 157 Tryd.func15 rfl rfl rfl ?_
  refine WP_seq_k fun K6 hK6 => ?_
  refine WP_region ?_
  refine RL_do rfl rfl (Do_assign (v := .bool false) rfl) ?_
  refine (RL_nil (thenQ_n (hK6 _ _ ?_)))
  refine WP_seq_k fun K7 hK7 => ?_
  refine WP_region ?_
  refine RL_do rfl rfl (Do_move (v := v1) rfl) ?_
  obtain ⟨x8, e9, hF⟩ := bindO_some hF
  refine RL_call rfl rfl (DoC_func en60 rfl) (F_slices_Clone___byte_byte__w p0 v1 _ e9 _ _ _ (H.enter [] [0] (by decide) rfl)) ?_
  rintro _ w12 ⟨v10, rfl, G13⟩
  have H := H.back1 [0] rfl G13
  refine ⟨_, rfl, ?_⟩
  refine RL_do rfl rfl (Do_assign (v := v10) rfl) ?_
  refine (RL_nil (thenQ_n (hK7 _ _ ?_)))
  refine WP_seq_k fun K14 hK14 => ?_
  refine WP_region ?_
  refine RL_do rfl rfl (Do_move (v := v1) rfl) ?_
  have H15 := H
  obtain ⟨⟨x16, x17⟩, e18, hF⟩ := bindO_some hF
  refine RL_call rfl rfl (DoC_func en37 rfl) (F_frame_FromBytes_w p0 v1 _ e18 _ _ _ (H.enter [] [0] (by decide) rfl)) ?_
  rintro _ w19 ⟨rfl, G20⟩
  have H := H15.step (G20.only : Only [] _ _)
  refine ⟨_, rfl, ?_⟩
  refine RL_do rfl rfl (Do_move (v := .tuple #[.agg ((Fl.arr 64 (Fl.int .u16)).f x16).toArray, .int .i64 x17]) rfl) ?_
  refine RL_do rfl rfl (Do_extract (v := .agg ((Fl.arr 64 (Fl.int .u16)).f x16).toArray) rfl rfl) ?_
  refine RL_do rfl rfl (Do_extract (v := .int .i64 x17) rfl rfl) ?_
  refine RL_ex rfl rfl (Lx_alloc zero25 H) ?_
  rintro _ w23 ⟨b21, rfl, H⟩
  refine RL_exU rfl (Lx_storeW (e := (Fl.arr 64 (Fl.int .u16))) (a := (Arr.rep 64 0 : Arr 64 Int)) (a' := x16) H 4 rfl sz25 rfl rfl) ?_
  rintro w24 H
  refine RL_do rfl rfl (Do_assign (v := .int .i64 x17) rfl) ?_
  refine (RL_nil (thenQ_n (hK14 _ _ ?_)))
  refine WP_seq_k fun K25 hK25 => ?_
  refine WP_region ?_
  refine RL_do rfl rfl (Do_move (v := v1) rfl) ?_
  have H26 := H
  obtain ⟨⟨x27, x28⟩, e29, hF⟩ := bindO_some hF
  refine RL_call rfl rfl (DoC_func en61 rfl) (F_ref1_FromBytes_w p0 v1 _ e29 _ _ _ (H.enter [] [0] (by decide) rfl)) ?_
  rintro _ w30 ⟨rfl, G31⟩
  have H := H26.step (G31.only : Only [] _ _)
  refine ⟨_, rfl, ?_⟩
  refine RL_do rfl rfl (Do_move (v := .tuple #[.agg ((Fl.arr 64 (Fl.int .u16)).f x27).toArray, .int .i64 x28]) rfl) ?_
  refine RL_do rfl rfl (Do_extract (v := .agg ((Fl.arr 64 (Fl.int .u16)).f x27).toArray) rfl rfl) ?_
  refine RL_do rfl rfl (Do_extract (v := .int .i64 x28) rfl rfl) ?_
  refine RL_ex rfl rfl (Lx_alloc zero25 H) ?_
  rintro _ w34 ⟨b32, rfl, H⟩
  refine RL_exU rfl (Lx_storeW (e := (Fl.arr 64 (Fl.int .u16))) (a := (Arr.rep 64 0 : Arr 64 Int)) (a' := x27) H 5 rfl sz25 rfl rfl) ?_
  rintro w35 H
  refine RL_do rfl rfl (Do_assign (v := .int .i64 x28) rfl) ?_
  refine (RL_nil (thenQ_n (hK25 _ _ ?_)))
  refine WP_seq_k fun K46 hK46 => ?_
  obtain ⟨g52, hF, hK54⟩ := bindO_some hF
  refine WP_seqS [36, 37, 38, 39, 40, 41, 42, 43] (fun (g : Unit) => [(43, .bool g52)]) (fun g wl => Hd O w wl S [.fz (.sl (Rp.int .u8) v1 p0), .fz (.sl (Rp.int .u8) v3 p2), .fz (.at 0 0 ((Fl.arr 4 (Fl.int .u16)).f G_frame_syncs)), .own (Rp.int .u8) v10 5 x8, .blk b21 ((Fl.arr 64 (Fl.int .u16)).f x16) 25, .blk b32 ((Fl.arr 64 (Fl.int .u16)).f x27) 25]) ?_ ?_
  · skip
    refine WP_region ?_
    refine RL_do rfl rfl (Do_loadF (e := (Fl.arr 64 (Fl.int .u16))) (a := x16) agg25 rfl sz25 (Blk.cells (H.item (i := 4) rfl))) ?_
    refine RL_do rfl rfl (Do_loadF (e := (Fl.arr 64 (Fl.int .u16))) (a := x27) agg25 rfl sz25 (Blk.cells (H.item (i := 5) rfl))) ?_
    obtain ⟨x55, e56, hF⟩ := letO_some hF
    refine RL_do rfl rfl (Do_as (Do_neqF (e := (Fl.arr 64 (Fl.int .u16))) (a := x16) (b := x27) (by kernel_rfl) eqf25 (by decide) agg25 sz25 rfl rfl) (congrArg Value.bool e56)) ?_
    refine RL_splitb (b := x55) rfl rfl rfl (fun c57 => ?_) (fun c57 => ?_)
    · have hF := iteB_t c57 hF
      refine RL_off rfl rfl ?_
      refine RL_off rfl rfl ?_
      refine RL_off rfl rfl ?_
      refine RL_do rfl rfl (Do_pick_t (v := .bool true) rfl rfl) ?_
      have hR := Option.some.inj hF
      subst hR
      refine (RL_nil (thenQ_n (And.intro ?_ ?_)))
      · repeat' (first | with_reducible exact Fr_refl | refine Fr_upd rfl ?_ | refine Fr_over rfl rfl ?_)
      · exact ⟨(), (Sl_cons rfl Sl_nil), H.pick [0, 1, 2, 3, 4, 5] (by decide)⟩
    · have hF := iteB_f c57 hF
      refine RL_do rfl rfl (Do_move (v := .int .i64 x17) rfl) ?_
      refine RL_do rfl rfl (Do_move (v := .int .i64 x28) rfl) ?_
      obtain ⟨x58, e59, hF⟩ := letO_some hF
      refine RL_do rfl rfl (Do_as (Do_neq (a := x17) (b := x28) rfl rfl) (congrArg Value.bool e59)) ?_
      refine RL_do rfl rfl (Do_pick_f (v := .bool x58) rfl rfl) ?_
      have hR := Option.some.inj hF
      subst hR
      refine (RL_nil (thenQ_n (And.intro ?_ ?_)))
      · repeat' (first | with_reducible exact Fr_refl | refine Fr_upd rfl ?_ | refine Fr_over rfl rfl ?_)
      · exact ⟨(), (Sl_cons rfl Sl_nil), H.pick [0, 1, 2, 3, 4, 5] (by decide)⟩
  · rintro _ ρ w53 H
    have hF := hK54
    refine WP_ifb (b := g52) rfl (fun c60 => ?_) (fun c60 => ?_)
    · have hF := iteB_t c60 hF
      refine WP_seq_k fun K61 hK61 => ?_
      refine WP_region ?_
      refine RL_do rfl rfl (Do_assign (v := .bool false) rfl) ?_
      refine (RL_nil (thenQ_n (hK61 _ _ ?_)))
      have hR := Option.some.inj hF
      subst hR
      refine (WP_ret (thenQ_r (post1 (v1 := .bool false) rfl rfl ?_)))
      exact ⟨rfl, H.pick [] (by decide)⟩
    · have hF := iteB_f c60 hF
      refine (WP_skip (thenQ_n (hK46 _ _ ?_)))
      refine WP_seq_k fun K62 hK62 => ?_
      refine WP_region ?_
      refine RL_do rfl rfl (Do_move (v := v1) rfl) ?_
      refine RL_do rfl rfl (Do_move (v := .int .i64 p1) rfl) ?_
      have H63 := H
      obtain ⟨⟨x64, x65⟩, e66, hF⟩ := bindO_some hF
      refine RL_call rfl rfl (DoC_func en62 rfl) (F_frame_Get_w p0 p1 v1 _ e66 _ _ _ (H.enter [] [0] (by decide) rfl)) ?_
      rintro _ w67 ⟨rfl, G68⟩
      have H := H63.step (G68.only : Only [] _ _)
      refine ⟨_, rfl, ?_⟩
      refine RL_do rfl rfl (Do_move (v := .tuple #[.agg ((Fl.arr 64 (Fl.int .u16)).f x64).toArray, .int .i64 x65]) rfl) ?_
      refine RL_do rfl rfl (Do_extract (v := .agg ((Fl.arr 64 (Fl.int .u16)).f x64).toArray) rfl rfl) ?_
      refine RL_do rfl rfl (Do_extract (v := .int .i64 x65) rfl rfl) ?_
      refine RL_exU rfl (Lx_storeW (e := (Fl.arr 64 (Fl.int .u16))) (a := x16) (a' := x64) H 4 rfl sz25 rfl rfl) ?_
      rintro w69 H
      refine RL_do rfl rfl (Do_assign (v := .int .i64 x65) rfl) ?_
      refine (RL_nil (thenQ_n (hK62 _ _ ?_)))
      refine WP_seq_k fun K70 hK70 => ?_
      refine WP_region ?_
      refine RL_do rfl rfl (Do_move (v := v1) rfl) ?_
      refine RL_do rfl rfl (Do_move (v := .int .i64 p1) rfl) ?_
      have H71 := H
      obtain ⟨⟨x72, x73⟩, e74, hF⟩ := bindO_some hF
      refine RL_call rfl rfl (DoC_func en63 rfl) (F_ref1_Get_w p0 p1 v1 _ e74 _ _ _ (H.enter [] [0] (by decide) rfl)) ?_
      rintro _ w75 ⟨rfl, G76⟩
      have H := H71.step (G76.only : Only [] _ _)
      refine ⟨_, rfl, ?_⟩
      refine RL_do rfl rfl (Do_move (v := .tuple #[.agg ((Fl.arr 64 (Fl.int .u16)).f x72).toArray, .int .i64 x73]) rfl) ?_
      refine RL_do rfl rfl (Do_extract (v := .agg ((Fl.arr 64 (Fl.int .u16)).f x72).toArray) rfl rfl) ?_
      refine RL_do rfl rfl (Do_extract (v := .int .i64 x73) rfl rfl) ?_
      refine RL_exU rfl (Lx_storeW (e := (Fl.arr 64 (Fl.int .u16))) (a := x27) (a' := x72) H 5 rfl sz25 rfl rfl) ?_
      rintro w77 H
      refine RL_do rfl rfl (Do_assign (v := .int .i64 x73) rfl) ?_
      refine (RL_nil (thenQ_n (hK70 _ _ ?_)))
      refine WP_seq_k fun K88 hK88 => ?_
      obtain ⟨g94, hF, hK96⟩ := bindO_some hF
      refine WP_seqS [56, 57, 58, 59, 60, 61, 62, 63] (fun (g : Unit) => [(63, .bool g94)]) (fun g wl => Hd O w wl S [.fz (.sl (Rp.int .u8) v1 p0), .fz (.sl (Rp.int .u8) v3 p2), .fz (.at 0 0 ((Fl.arr 4 (Fl.int .u16)).f G_frame_syncs)), .own (Rp.int .u8) v10 5 x8]) ?_ ?_
      · skip
        refine WP_region ?_
        refine RL_do rfl rfl (Do_loadF (e := (Fl.arr 64 (Fl.int .u16))) (a := x64) agg25 rfl sz25 (Blk.cells (H.item (i := 4) rfl))) ?_
        refine RL_do rfl rfl (Do_loadF (e := (Fl.arr 64 (Fl.int .u16))) (a := x72) agg25 rfl sz25 (Blk.cells (H.item (i := 5) rfl))) ?_
        obtain ⟨x97, e98, hF⟩ := letO_some hF
        refine RL_do rfl rfl (Do_as (Do_neqF (e := (Fl.arr 64 (Fl.int .u16))) (a := x64) (b := x72) (by kernel_rfl) eqf25 (by decide) agg25 sz25 rfl rfl) (congrArg Value.bool e98)) ?_
        refine RL_splitb (b := x97) rfl rfl rfl (fun c99 => ?_) (fun c99 => ?_)
        · have hF := iteB_t c99 hF
          refine RL_off rfl rfl ?_
          refine RL_off rfl rfl ?_
          refine RL_off rfl rfl ?_
          refine RL_do rfl rfl (Do_pick_t (v := .bool true) rfl rfl) ?_
          have hR := Option.some.inj hF
          subst hR
          refine (RL_nil (thenQ_n (And.intro ?_ ?_)))
          · repeat' (first | with_reducible exact Fr_refl | refine Fr_upd rfl ?_ | refine Fr_over rfl rfl ?_)
          · exact ⟨(), (Sl_cons rfl Sl_nil), H.pick [0, 1, 2, 3] (by decide)⟩
        · have hF := iteB_f c99 hF
          refine RL_do rfl rfl (Do_move (v := .int .i64 x65) rfl) ?_
          refine RL_do rfl rfl (Do_move (v := .int .i64 x73) rfl) ?_
          obtain ⟨x100, e101, hF⟩ := letO_some hF
          refine RL_do rfl rfl (Do_as (Do_neq (a := x65) (b := x73) rfl rfl) (congrArg Value.bool e101)) ?_
          refine RL_do rfl rfl (Do_pick_f (v := .bool x100) rfl rfl) ?_
          have hR := Option.some.inj hF
          subst hR
          refine (RL_nil (thenQ_n (And.intro ?_ ?_)))
          · repeat' (first | with_reducible exact Fr_refl | refine Fr_upd rfl ?_ | refine Fr_over rfl rfl ?_)
          · exact ⟨(), (Sl_cons rfl Sl_nil), H.pick [0, 1, 2, 3] (by decide)⟩
      · rintro _ ρ w95 H
        have hF := hK96
        refine WP_ifb (b := g94) rfl (fun c102 => ?_) (fun c102 => ?_)
        · have hF := iteB_t c102 hF
          refine WP_seq_k fun K103 hK103 => ?_
          refine WP_region ?_
          refine RL_do rfl rfl (Do_assign (v := .bool false) rfl) ?_
          refine (RL_nil (thenQ_n (hK103 _ _ ?_)))
          have hR := Option.some.inj hF
          subst hR
          refine (WP_ret (thenQ_r (post1 (v1 := .bool false) rfl rfl ?_)))
          exact ⟨rfl, H.pick [] (by decide)⟩
        · have hF := iteB_f c102 hF
          refine (WP_skip (thenQ_n (hK88 _ _ ?_)))
          refine WP_seq_k fun K104 hK104 => ?_
          refine WP_region ?_
          refine RL_do rfl rfl (Do_move (v := v1) rfl) ?_
          refine RL_do rfl rfl (Do_move (v := .int .i64 p1) rfl) ?_
          refine RL_do rfl rfl (Do_move (v := .int .i64 p3) rfl) ?_
          have H105 := H
          obtain ⟨⟨x106, x107⟩, e108, hF⟩ := bindO_some hF
          refine RL_call rfl rfl (DoC_func en64 rfl) (F_frame_WordAt_w p0 p1 p3 v1 _ e108 _ _ _ (H.enter [] [0] (by decide) rfl)) ?_
          rintro _ w109 ⟨rfl, G110⟩
          have H := H105.step (G110.only : Only [] _ _)
          refine ⟨_, rfl, ?_⟩
          refine RL_do rfl rfl (Do_move (v := .tuple #[.int .i64 x106, .int .i64 x107]) rfl) ?_
          refine RL_do rfl rfl (Do_extract (v := .int .i64 x106) rfl rfl) ?_
          refine RL_do rfl rfl (Do_extract (v := .int .i64 x107) rfl rfl) ?_
          refine RL_do rfl rfl (Do_assign (v := .int .i64 x106) rfl) ?_
          refine RL_do rfl rfl (Do_assign (v := .int .i64 x107) rfl) ?_
          refine (RL_nil (thenQ_n (hK104 _ _ ?_)))
          refine WP_seq_k fun K111 hK111 => ?_
          refine WP_region ?_
          refine RL_do rfl rfl (Do_move (v := v1) rfl) ?_
          refine RL_do rfl rfl (Do_move (v := .int .i64 p1) rfl) ?_
          refine RL_do rfl rfl (Do_move (v := .int .i64 p3) rfl) ?_
          have H112 := H
          obtain ⟨⟨x113, x114⟩, e115, hF⟩ := bindO_some hF
          refine RL_call rfl rfl (DoC_func en65 rfl) (F_ref1_WordAt_w p0 p1 p3 v1 _ e115 _ _ _ (H.enter [] [0] (by decide) rfl)) ?_
          rintro _ w116 ⟨rfl, G117⟩
          have H := H112.step (G117.only : Only [] _ _)
          refine ⟨_, rfl, ?_⟩
          refine RL_do rfl rfl (Do_move (v := .tuple #[.int .i64 x113, .int .i64 x114]) rfl) ?_
          refine RL_do rfl rfl (Do_extract (v := .int .i64 x113) rfl rfl) ?_
          refine RL_do rfl rfl (Do_extract (v := .int .i64 x114) rfl rfl) ?_
          refine RL_do rfl rfl (Do_assign (v := .int .i64 x113) rfl) ?_
          refine RL_do rfl rfl (Do_assign (v := .int .i64 x114) rfl) ?_
          refine (RL_nil (thenQ_n (hK111 _ _ ?_)))
          refine WP_seq_k fun K128 hK128 => ?_
          obtain ⟨g134, hF, hK136⟩ := bindO_some hF
          refine WP_seqS [78, 79, 80, 81, 82, 83, 84, 85] (fun (g : Unit) => [(85, .bool g134)]) (fun g wl => Hd O w wl S [.fz (.sl (Rp.int .u8) v1 p0), .fz (.sl (Rp.int .u8) v3 p2), .fz (.at 0 0 ((Fl.arr 4 (Fl.int .u16)).f G_frame_syncs)), .own (Rp.int .u8) v10 5 x8]) ?_ ?_
          · skip
            refine WP_region ?_
            refine RL_do rfl rfl (Do_move (v := .int .i64 x106) rfl) ?_
            refine RL_do rfl rfl (Do_move (v := .int .i64 x113) rfl) ?_
            obtain ⟨x137, e138, hF⟩ := letO_some hF
            refine RL_do rfl rfl (Do_as (Do_neq (a := x106) (b := x113) rfl rfl) (congrArg Value.bool e138)) ?_
            refine RL_splitb (b := x137) rfl rfl rfl (fun c139 => ?_) (fun c139 => ?_)
            · have hF := iteB_t c139 hF
              refine RL_off rfl rfl ?_
              refine RL_off rfl rfl ?_
              refine RL_off rfl rfl ?_
              refine RL_do rfl rfl (Do_pick_t (v := .bool true) rfl rfl) ?_
              have hR := Option.some.inj hF
              subst hR
              refine (RL_nil (thenQ_n (And.intro ?_ ?_)))
              · repeat' (first | with_reducible exact Fr_refl | refine Fr_upd rfl ?_ | refine Fr_over rfl rfl ?_)
              · exact ⟨(), (Sl_cons rfl Sl_nil), H.pick [0, 1, 2, 3] (by decide)⟩
            · have hF := iteB_f c139 hF
              refine RL_do rfl rfl (Do_move (v := .int .i64 x107) rfl) ?_
              refine RL_do rfl rfl (Do_move (v := .int .i64 x114) rfl) ?_
              obtain ⟨x140, e141, hF⟩ := letO_some hF
              refine RL_do rfl rfl (Do_as (Do_neq (a := x107) (b := x114) rfl rfl) (congrArg Value.bool e141)) ?_
              refine RL_do rfl rfl (Do_pick_f (v := .bool x140) rfl rfl) ?_
              have hR := Option.some.inj hF
              subst hR
              refine (RL_nil (thenQ_n (And.intro ?_ ?_)))
              · repeat' (first | with_reducible exact Fr_refl | refine Fr_upd rfl ?_ | refine Fr_over rfl rfl ?_)
              · exact ⟨(), (Sl_cons rfl Sl_nil), H.pick [0, 1, 2, 3] (by decide)⟩
          · rintro _ ρ w135 H
            have hF := hK136
            refine WP_ifb (b := g134) rfl (fun c142 => ?_) (fun c142 => ?_)
            · have hF := iteB_t c142 hF
              refine WP_seq_k fun K143 hK143 => ?_
              refine WP_region ?_
              refine RL_do rfl rfl (Do_assign (v := .bool false) rfl) ?_
              refine (RL_nil (thenQ_n (hK143 _ _ ?_)))
              have hR := Option.some.inj hF
              subst hR
              refine (WP_ret (thenQ_r (post1 (v1 := .bool false) rfl rfl ?_)))
              exact ⟨rfl, H.pick [] (by decide)⟩
            · have hF := iteB_f c142 hF
              refine (WP_skip (thenQ_n (hK128 _ _ ?_)))
              refine WP_seq_k fun K144 hK144 => ?_
              refine WP_region ?_
              refine RL_do rfl rfl (Do_move (v := v1) rfl) ?_
              refine RL_do rfl rfl (Do_move (v := .int .i64 p1) rfl) ?_
              refine RL_do rfl rfl (Do_move (v := v3) rfl) ?_
              refine RL_do rfl rfl (Do_move (v := .int .i64 p3) rfl) ?_
              have H145 := H
              obtain ⟨⟨x146, x147⟩, e148, hF⟩ := bindO_some hF
              refine RL_call rfl rfl (DoC_func en66 rfl) (F_frame_Same_w p0 p1 p2 p3 v1 v3 _ e148 _ _ _ (H.enter [] [0, 1] (by decide) rfl)) ?_
              rintro _ w149 ⟨rfl, G150⟩
              have H := H145.step (G150.only : Only [] _ _)
              refine ⟨_, rfl, ?_⟩
              refine RL_do rfl rfl (Do_move (v := .tuple #[.bool x146, .int .i64 x147]) rfl) ?_
              refine RL_do rfl rfl (Do_extract (v := .bool x146) rfl rfl) ?_
              refine RL_do rfl rfl (Do_extract (v := .int .i64 x147) rfl rfl) ?_
              refine RL_do rfl rfl (Do_assign (v := .bool x146) rfl) ?_
              refine RL_do rfl rfl (Do_assign (v := .int .i64 x147) rfl) ?_
              refine (RL_nil (thenQ_n (hK144 _ _ ?_)))
              refine WP_seq_k fun K151 hK151 => ?_
              refine WP_region ?_
              refine RL_do rfl rfl (Do_move (v := v1) rfl) ?_
              refine RL_do rfl rfl (Do_move (v := .int .i64 p1) rfl) ?_
              refine RL_do rfl rfl (Do_move (v := v3) rfl) ?_
              refine RL_do rfl rfl (Do_move (v := .int .i64 p3) rfl) ?_
              have H152 := H
              obtain ⟨⟨x153, x154⟩, e155, hF⟩ := bindO_some hF
              refine RL_call rfl rfl (DoC_func en67 rfl) (F_ref1_Same_w p0 p1 p2 p3 v1 v3 _ e155 _ _ _ (H.enter [] [0, 1] (by decide) rfl)) ?_
              rintro _ w156 ⟨rfl, G157⟩
              have H := H152.step (G157.only : Only [] _ _)
              refine ⟨_, rfl, ?_⟩
              refine RL_do rfl rfl (Do_move (v := .tuple #[.bool x153, .int .i64 x154]) rfl) ?_
              refine RL_do rfl rfl (Do_extract (v := .bool x153) rfl rfl) ?_
              refine RL_do rfl rfl (Do_extract (v := .int .i64 x154) rfl rfl) ?_
              refine RL_do rfl rfl (Do_assign (v := .bool x153) rfl) ?_
              refine RL_do rfl rfl (Do_assign (v := .int .i64 x154) rfl) ?_
              refine (RL_nil (thenQ_n (hK151 _ _ ?_)))
              refine WP_seq_k fun K168 hK168 => ?_
              obtain ⟨g174, hF, hK176⟩ := bindO_some hF
              refine WP_seqS [102, 103, 104, 105, 106, 107, 108, 109] (fun (g : Unit) => [(109, .bool g174)]) (fun g wl => Hd O w wl S [.fz (.sl (Rp.int .u8) v1 p0), .fz (.at 0 0 ((Fl.arr 4 (Fl.int .u16)).f G_frame_syncs)), .own (Rp.int .u8) v10 5 x8]) ?_ ?_
              · skip
                refine WP_region ?_
                refine RL_do rfl rfl (Do_move (v := .bool x146) rfl) ?_
                refine RL_do rfl rfl (Do_move (v := .bool x153) rfl) ?_
                obtain ⟨x177, e178, hF⟩ := letO_some hF
                refine RL_do rfl rfl (Do_as (Do_neqb (p := x146) (q := x153) u4 rfl rfl) (congrArg Value.bool e178)) ?_
                refine RL_splitb (b := x177) rfl rfl rfl (fun c179 => ?_) (fun c179 => ?_)
                · have hF := iteB_t c179 hF
                  refine RL_off rfl rfl ?_
                  refine RL_off rfl rfl ?_
                  refine RL_off rfl rfl ?_
                  refine RL_do rfl rfl (Do_pick_t (v := .bool true) rfl rfl) ?_
                  have hR := Option.some.inj hF
                  subst hR
                  refine (RL_nil (thenQ_n (And.intro ?_ ?_)))
                  · repeat' (first | with_reducible exact Fr_refl | refine Fr_upd rfl ?_ | refine Fr_over rfl rfl ?_)
                  · exact ⟨(), (Sl_cons rfl Sl_nil), H.pick [0, 2, 3] (by decide)⟩
                · have hF := iteB_f c179 hF
                  refine RL_do rfl rfl (Do_move (v := .int .i64 x147) rfl) ?_
                  refine RL_do rfl rfl (Do_move (v := .int .i64 x154) rfl) ?_
                  obtain ⟨x180, e181, hF⟩ := letO_some hF
                  refine RL_do rfl rfl (Do_as (Do_neq (a := x147) (b := x154) rfl rfl) (congrArg Value.bool e181)) ?_
                  refine RL_do rfl rfl (Do_pick_f (v := .bool x180) rfl rfl) ?_
                  have hR := Option.some.inj hF
                  subst hR
                  refine (RL_nil (thenQ_n (And.intro ?_ ?_)))
                  · repeat' (first | with_reducible exact Fr_refl | refine Fr_upd rfl ?_ | refine Fr_over rfl rfl ?_)
                  · exact ⟨(), (Sl_cons rfl Sl_nil), H.pick [0, 2, 3] (by decide)⟩
              · rintro _ ρ w175 H
                have hF := hK176
                refine WP_ifb (b := g174) rfl (fun c182 => ?_) (fun c182 => ?_)
                · have hF := iteB_t c182 hF
                  refine WP_seq_k fun K183 hK183 => ?_
                  refine WP_region ?_
                  refine RL_do rfl rfl (Do_assign (v := .bool false) rfl) ?_
                  refine (RL_nil (thenQ_n (hK183 _ _ ?_)))
                  have hR := Option.some.inj hF
                  subst hR
                  refine (WP_ret (thenQ_r (post1 (v1 := .bool false) rfl rfl ?_)))
                  exact ⟨rfl, H.pick [] (by decide)⟩
                · have hF := iteB_f c182 hF
                  refine (WP_skip (thenQ_n (hK168 _ _ ?_)))
                  refine WP_seq_k fun K184 hK184 => ?_
                  refine WP_region ?_
                  refine RL_do rfl rfl (Do_move (v := v1) rfl) ?_
                  obtain ⟨⟨x185, x186⟩, e187, hF⟩ := bindO_some hF
                  refine RL_call rfl rfl (DoC_func en68 rfl) (F_frame_Frames_w p0 v1 _ e187 _ _ _ (H.enter [] [0] (by decide) rfl)) ?_
                  rintro _ w190 ⟨v188, rfl, G191⟩
                  have H := H.back1 [0] rfl G191
                  refine ⟨_, rfl, ?_⟩
                  refine RL_do rfl rfl (Do_move (v := .tuple #[v188, .int .i64 x186]) rfl) ?_
                  refine RL_do rfl rfl (Do_extract (v := v188) rfl rfl) ?_
                  refine RL_do rfl rfl (Do_extract (v := .int .i64 x186) rfl rfl) ?_
                  refine RL_do rfl rfl (Do_assign (v := v188) rfl) ?_
                  refine RL_do rfl rfl (Do_assign (v := .int .i64 x186) rfl) ?_
                  refine (RL_nil (thenQ_n (hK184 _ _ ?_)))
                  refine WP_seq_k fun K192 hK192 => ?_
                  refine WP_region ?_
                  refine RL_do rfl rfl (Do_move (v := v1) rfl) ?_
                  obtain ⟨⟨x193, x194⟩, e195, hF⟩ := bindO_some hF
                  refine RL_call rfl rfl (DoC_func en69 rfl) (F_ref1_Frames_w p0 v1 _ e195 _ _ _ (H.enter [] [0] (by decide) rfl)) ?_
                  rintro _ w198 ⟨v196, rfl, G199⟩
                  have H := H.back1 [0] rfl G199
                  refine ⟨_, rfl, ?_⟩
                  refine RL_do rfl rfl (Do_move (v := .tuple #[v196, .int .i64 x194]) rfl) ?_
                  refine RL_do rfl rfl (Do_extract (v := v196) rfl rfl) ?_
                  refine RL_do rfl rfl (Do_extract (v := .int .i64 x194) rfl rfl) ?_
                  refine RL_do rfl rfl (Do_assign (v := v196) rfl) ?_
                  refine RL_do rfl rfl (Do_assign (v := .int .i64 x194) rfl) ?_
                  refine (RL_nil (thenQ_n (hK192 _ _ ?_)))
                  refine WP_seq_k fun K215 hK215 => ?_
                  obtain ⟨g226, hF, hK228⟩ := bindO_some hF
                  refine WP_seqS [120, 121, 122, 123, 124, 125, 126, 127, 128] (fun (g : Unit) => [(128, .bool g226)]) (fun g wl => Hd O w wl S [.fz (.sl (Rp.int .u8) v1 p0), .fz (.at 0 0 ((Fl.arr 4 (Fl.int .u16)).f G_frame_syncs)), .own (Rp.int .u8) v10 5 x8]) ?_ ?_
                  · skip
                    refine WP_region ?_
                    refine RL_do rfl rfl (Do_move (v := v188) rfl) ?_
                    refine RL_do rfl rfl (Do_move (v := v196) rfl) ?_
                    have H229 := H
                    have H := H.freeze (i := 3) rfl
                    have H := H.freeze (i := 4) rfl
                    obtain ⟨x230, e231, hF⟩ := bindO_some hF
                    refine RL_call rfl rfl (DoC_func en70 rfl) (F_slices_Equal___api_Frame_api_Frame__w x185 x193 v188 v196 _ e231 _ _ _ (H.enter [] [3, 4] (by decide) rfl)) ?_
                    rintro _ w232 ⟨rfl, G233⟩
                    have H := H229.step (G233.only : Only [] _ _)
                    refine ⟨_, rfl, ?_⟩
                    obtain ⟨x234, e235, hF⟩ := letO_some hF
                    refine RL_do rfl rfl (Do_as (Do_not (p := x230) rfl) (congrArg Value.bool e235)) ?_
                    refine RL_splitb (b := x234) rfl rfl rfl (fun c236 => ?_) (fun c236 => ?_)
                    · have hF := iteB_t c236 hF
                      refine RL_off rfl rfl ?_
                      refine RL_off rfl rfl ?_
                      refine RL_off rfl rfl ?_
                      refine RL_do rfl rfl (Do_pick_t (v := .bool true) rfl rfl) ?_
                      have hR := Option.some.inj hF
                      subst hR
                      refine (RL_nil (thenQ_n (And.intro ?_ ?_)))
                      · repeat' (first | with_reducible exact Fr_refl | refine Fr_upd rfl ?_ | refine Fr_over rfl rfl ?_)
                      · exact ⟨(), (Sl_cons rfl Sl_nil), H.pick [0, 1, 2] (by decide)⟩
                    · have hF := iteB_f c236 hF
                      refine RL_do rfl rfl (Do_move (v := .int .i64 x186) rfl) ?_
                      refine RL_do rfl rfl (Do_move (v := .int .i64 x194) rfl) ?_
                      obtain ⟨x237, e238, hF⟩ := letO_some hF
                      refine RL_do rfl rfl (Do_as (Do_neq (a := x186) (b := x194) rfl rfl) (congrArg Value.bool e238)) ?_
                      refine RL_do rfl rfl (Do_pick_f (v := .bool x237) rfl rfl) ?_
                      have hR := Option.some.inj hF
                      subst hR
                      refine (RL_nil (thenQ_n (And.intro ?_ ?_)))
                      · repeat' (first | with_reducible exact Fr_refl | refine Fr_upd rfl ?_ | refine Fr_over rfl rfl ?_)
                      · exact ⟨(), (Sl_cons rfl Sl_nil), H.pick [0, 1, 2] (by decide)⟩
                  · rintro _ ρ w227 H
                    have hF := hK228
                    refine WP_ifb (b := g226) rfl (fun c239 => ?_) (fun c239 => ?_)
                    · have hF := iteB_t c239 hF
                      refine WP_seq_k fun K240 hK240 => ?_
                      refine WP_region ?_
                      refine RL_do rfl rfl (Do_assign (v := .bool false) rfl) ?_
                      refine (RL_nil (thenQ_n (hK240 _ _ ?_)))
                      have hR := Option.some.inj hF
                      subst hR
                      refine (WP_ret (thenQ_r (post1 (v1 := .bool false) rfl rfl ?_)))
                      exact ⟨rfl, H.pick [] (by decide)⟩
                    · have hF := iteB_f c239 hF
                      refine (WP_skip (thenQ_n (hK215 _ _ ?_)))
                      refine WP_seq_k fun K241 hK241 => ?_
                      refine WP_region ?_
                      refine RL_do rfl rfl (Do_move (v := v1) rfl) ?_
                      refine RL_do rfl rfl (Do_move (v := .int .i64 p1) rfl) ?_
                      have H242 := H
                      obtain ⟨⟨x243, x244⟩, e245, hF⟩ := bindO_some hF
                      refine RL_call rfl rfl (DoC_func en71 rfl) (F_frame_GetSecond_w p0 p1 v1 _ e245 _ _ _ (H.enter [] [0] (by decide) rfl)) ?_
                      rintro _ w246 ⟨rfl, G247⟩
                      have H := H242.step (G247.only : Only [] _ _)
                      refine ⟨_, rfl, ?_⟩
                      refine RL_do rfl rfl (Do_move (v := .tuple #[.agg ((Fl.arr 8 (Fl.arr 64 (Fl.int .u16))).f x243).toArray, .int .i64 x244]) rfl) ?_
                      refine RL_do rfl rfl (Do_extract (v := .agg ((Fl.arr 8 (Fl.arr 64 (Fl.int .u16))).f x243).toArray) rfl rfl) ?_
                      refine RL_do rfl rfl (Do_extract (v := .int .i64 x244) rfl rfl) ?_
                      refine RL_ex rfl rfl (Lx_alloc zero56 H) ?_
                      rintro _ w250 ⟨b248, rfl, H⟩
                      refine RL_exU rfl (Lx_storeW (e := (Fl.arr 8 (Fl.arr 64 (Fl.int .u16)))) (a := (Arr.rep 8 (Arr.rep 64 0 : Arr 64 Int) : Arr 8 (Arr 64 Int))) (a' := x243) H 3 rfl sz56 rfl rfl) ?_
                      rintro w251 H
                      refine RL_do rfl rfl (Do_assign (v := .int .i64 x244) rfl) ?_
                      refine (RL_nil (thenQ_n (hK241 _ _ ?_)))
                      refine WP_seq_k fun K252 hK252 => ?_
                      refine WP_region ?_
                      refine RL_do rfl rfl (Do_move (v := v1) rfl) ?_
                      refine RL_do rfl rfl (Do_move (v := .int .i64 p1) rfl) ?_
                      have H253 := H
                      obtain ⟨⟨x254, x255⟩, e256, hF⟩ := bindO_some hF
                      refine RL_call rfl rfl (DoC_func en72 rfl) (F_ref1_GetSecond_w p0 p1 v1 _ e256 _ _ _ (H.enter [] [0] (by decide) rfl)) ?_
                      rintro _ w257 ⟨rfl, G258⟩
                      have H := H253.step (G258.only : Only [] _ _)
                      refine ⟨_, rfl, ?_⟩
                      refine RL_do rfl rfl (Do_move (v := .tuple #[.agg ((Fl.arr 8 (Fl.arr 64 (Fl.int .u16))).f x254).toArray, .int .i64 x255]) rfl) ?_
                      refine RL_do rfl rfl (Do_extract (v := .agg ((Fl.arr 8 (Fl.arr 64 (Fl.int .u16))).f x254).toArray) rfl rfl) ?_
                      refine RL_do rfl rfl (Do_extract (v := .int .i64 x255) rfl rfl) ?_
                      refine RL_ex rfl rfl (Lx_alloc zero56 H) ?_
                      rintro _ w261 ⟨b259, rfl, H⟩
                      refine RL_exU rfl (Lx_storeW (e := (Fl.arr 8 (Fl.arr 64 (Fl.int .u16)))) (a := (Arr.rep 8 (Arr.rep 64 0 : Arr 64 Int) : Arr 8 (Arr 64 Int))) (a' := x254) H 4 rfl sz56 rfl rfl) ?_
                      rintro w262 H
                      refine RL_do rfl rfl (Do_assign (v := .int .i64 x255) rfl) ?_
                      refine (RL_nil (thenQ_n (hK252 _ _ ?_)))
                      obtain ⟨g280, hF, hK282⟩ := bindO_some hF
                      refine WP_seqS [8, 141, 142, 143, 144, 145, 146, 147, 148, 149, 150, 151, 152, 153, 154, 155, 156] (fun (g : Unit) => [(8, .bool g280)]) (fun g wl => Hd O w wl S [.fz (.at 0 0 ((Fl.arr 4 (Fl.int .u16)).f G_frame_syncs))]) ?_ ?_
                      · skip
                        refine WP_region ?_
                        refine RL_do rfl rfl (Do_loadF (e := (Fl.arr 8 (Fl.arr 64 (Fl.int .u16)))) (a := x243) agg56 rfl sz56 (Blk.cells (H.item (i := 3) rfl))) ?_
                        refine RL_do rfl rfl (Do_loadF (e := (Fl.arr 8 (Fl.arr 64 (Fl.int .u16)))) (a := x254) agg56 rfl sz56 (Blk.cells (H.item (i := 4) rfl))) ?_
                        obtain ⟨x283, e284, hF⟩ := letO_some hF
                        refine RL_do rfl rfl (Do_as (Do_eqlF (e := (Fl.arr 8 (Fl.arr 64 (Fl.int .u16)))) (a := x243) (b := x254) (by kernel_rfl) eqf56 (by decide) agg56 sz56 rfl rfl) (congrArg Value.bool e284)) ?_
                        refine RL_splitb (b := x283) rfl rfl rfl (fun c285 => ?_) (fun c285 => ?_)
                        · have hF := iteB_t c285 hF
                          refine RL_do rfl rfl (Do_move (v := .int .i64 x244) rfl) ?_
                          refine RL_do rfl rfl (Do_move (v := .int .i64 x255) rfl) ?_
                          obtain ⟨x286, e287, hF⟩ := letO_some hF
                          refine RL_do rfl rfl (Do_as (Do_eql (a := x244) (b := x255) rfl rfl) (congrArg Value.bool e287)) ?_
                          refine RL_do rfl rfl (Do_pick_t (v := .bool x286) rfl rfl) ?_
                          refine RL_splitb (b := x286) rfl rfl rfl (fun c288 => ?_) (fun c288 => ?_)
                          · have hF := iteB_t c288 hF
                            refine RL_do rfl rfl (Do_move (v := v1) rfl) ?_
                            refine RL_do rfl rfl (Do_move (v := v10) rfl) ?_
                            have H289 := H
                            have H := H.freeze (i := 2) rfl
                            obtain ⟨x290, e291, hF⟩ := bindO_some hF
                            refine RL_call rfl rfl (DoC_func en19 rfl) (F_bytes_Equal_w p0 x8 v1 v10 _ e291 _ _ _ (H.enter [] [0, 2] (by decide) rfl)) ?_
                            rintro _ w292 ⟨rfl, G293⟩
                            have H := H289.step (G293.only : Only [] _ _)
                            refine ⟨_, rfl, ?_⟩
                            refine RL_do rfl rfl (Do_pick_t (v := .bool x290) rfl rfl) ?_
                            refine RL_splitb (b := x290) rfl rfl rfl (fun c294 => ?_) (fun c294 => ?_)
                            · have hF := iteB_t c294 hF
                              have H295 := H
                              obtain ⟨x296, e297, hF⟩ := bindO_some hF
                              refine RL_call rfl rfl (DoC_func en21 rfl) (X_framed_w _ e297 _ _ _ (H.enter [] [1] (by decide) rfl)) ?_
                              rintro _ w298 ⟨rfl, G299⟩
                              have H := H295.step (G299.only : Only [] _ _)
                              refine ⟨_, rfl, ?_⟩
                              refine RL_do rfl rfl (Do_pick_t (v := .bool x296) rfl rfl) ?_
                              refine RL_do rfl rfl (Do_assign (v := .bool x296) rfl) ?_
                              have hR := Option.some.inj hF
                              subst hR
                              refine (RL_nil (thenQ_n (And.intro ?_ ?_)))
                              · repeat' (first | with_reducible exact Fr_refl | refine Fr_upd rfl ?_ | refine Fr_over rfl rfl ?_)
                              · exact ⟨(), (Sl_cons rfl Sl_nil), H.pick [1] (by decide)⟩
                            · have hF := iteB_f c294 hF
                              refine RL_off rfl rfl ?_
                              refine RL_do rfl rfl (Do_pick_f (v := .bool false) rfl rfl) ?_
                              refine RL_do rfl rfl (Do_assign (v := .bool false) rfl) ?_
                              have hR := Option.some.inj hF
                              subst hR
                              refine (RL_nil (thenQ_n (And.intro ?_ ?_)))
                              · repeat' (first | with_reducible exact Fr_refl | refine Fr_upd rfl ?_ | refine Fr_over rfl rfl ?_)
                              · exact ⟨(), (Sl_cons rfl Sl_nil), H.pick [1] (by decide)⟩
                          · have hF := iteB_f c288 hF
                            refine RL_off rfl rfl ?_
                            refine RL_off rfl rfl ?_
                            refine RL_off rfl rfl ?_
                            refine RL_do rfl rfl (Do_pick_f (v := .bool false) rfl rfl) ?_
                            refine RL_do rfl rfl (Do_move (v := .bool false) rfl) ?_
                            refine RL_off rfl rfl ?_
                            refine RL_do rfl rfl (Do_pick_f (v := .bool false) rfl rfl) ?_
                            refine RL_do rfl rfl (Do_assign (v := .bool false) rfl) ?_
                            have hR := Option.some.inj hF
                            subst hR
                            refine (RL_nil (thenQ_n (And.intro ?_ ?_)))
                            · repeat' (first | with_reducible exact Fr_refl | refine Fr_upd rfl ?_ | refine Fr_over rfl rfl ?_)
                            · exact ⟨(), (Sl_cons rfl Sl_nil), H.pick [1] (by decide)⟩
                        · have hF := iteB_f c285 hF
                          refine RL_off rfl rfl ?_
                          refine RL_off rfl rfl ?_
                          refine RL_off rfl rfl ?_
                          refine RL_do rfl rfl (Do_pick_f (v := .bool false) rfl rfl) ?_
                          refine RL_do rfl rfl (Do_move (v := .bool false) rfl) ?_
                          refine RL_off rfl rfl ?_
                          refine RL_off rfl rfl ?_
                          refine RL_off rfl rfl ?_
                          refine RL_do rfl rfl (Do_pick_f (v := .bool false) rfl rfl) ?_
                          refine RL_do rfl rfl (Do_move (v := .bool false) rfl) ?_
                          refine RL_off rfl rfl ?_
                          refine RL_do rfl rfl (Do_pick_f (v := .bool false) rfl rfl) ?_
                          refine RL_do rfl rfl (Do_assign (v := .bool false) rfl) ?_
                          have hR := Option.some.inj hF
                          subst hR
                          refine (RL_nil (thenQ_n (And.intro ?_ ?_)))
                          · repeat' (first | with_reducible exact Fr_refl | refine Fr_upd rfl ?_ | refine Fr_over rfl rfl ?_)
                          · exact ⟨(), (Sl_cons rfl Sl_nil), H.pick [1] (by decide)⟩
                      · rintro _ ρ w281 H
                        have hF := hK282
                        have hR := Option.some.inj hF
                        subst hR
                        refine (WP_ret (post1 (v1 := .bool g280) rfl rfl ?_))
                        exact ⟨rfl, H.pick [] (by decide)⟩
end Go.Proofs.YtafgmocdnjdmoaaDoor.L
