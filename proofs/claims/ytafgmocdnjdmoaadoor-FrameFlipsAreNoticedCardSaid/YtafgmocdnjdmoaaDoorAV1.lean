/- Walks: what each function computes, for every argument; no condition but those that stand in the statements. -/
import Derived.Test.YtafgmocdnjdmoaaDoorAV0
namespace Go.Proofs.YtafgmocdnjdmoaaDoor.L
open Go.RowKit Go.OB Go.Lf
/- orangebox/orangeboxlaw1.FrameFlipsAreNoticed -/
set_option maxHeartbeats 4000000 in
theorem F_law1_FrameFlipsAreNoticed_w (p0 : Int) (p1 : List Int) (p2 : List Int) (v1 : Value) (v3 : Value) (r : Bool) (hF : F_law1_FrameFlipsAreNoticed p0 p1 p2 = some r) (O S : List Nat) (w : World) (H : Hd O w w S [.fz (.sl (Rp.int .i64) v1 p1), .fz (.sl (Rp.int .i64) v3 p2), .fz (.at 0 0 ((Fl.arr 4 (Fl.int .u16)).f G_frame_syncs))]) :
    Calls Tryd.prog 7 ([.int .i64 p0, v1, v3] : List Value).toArray w fun e w' => e = .returned (.bool r) ∧ Hd O w w' S [] := by
  unfold F_law1_FrameFlipsAreNoticed at hF
  refine calls_of_WP 77 Tryd.func7 rfl rfl rfl ?_
  refine WP_seq_k fun K6 hK6 => ?_
  refine WP_region ?_
  refine RL_do rfl rfl (Do_assign (v := .bool false) rfl) ?_
  refine (RL_nil (thenQ_n (hK6 _ _ ?_)))
  refine WP_seq_k fun K7 hK7 => ?_
  refine WP_region ?_
  refine RL_do rfl rfl (Do_move (v := .int .i64 p0) rfl) ?_
  refine RL_do rfl rfl (Do_move (v := v1) rfl) ?_
  have H8 := H
  obtain ⟨⟨x9, x10⟩, e11, hF⟩ := bindO_some hF
  refine RL_call rfl rfl (DoC_func en32 rfl) (X_New_w p0 p1 v1 _ e11 _ _ _ (H.enter [] [0, 2] (by decide) rfl)) ?_
  rintro _ w12 ⟨rfl, G13⟩
  have H := H8.step (G13.only : Only [] _ _)
  refine ⟨_, rfl, ?_⟩
  refine RL_do rfl rfl (Do_move (v := .tuple #[.agg ((Fl.arr 64 (Fl.int .u16)).f x9).toArray, .int .i64 x10]) rfl) ?_
  refine RL_do rfl rfl (Do_extract (v := .agg ((Fl.arr 64 (Fl.int .u16)).f x9).toArray) rfl rfl) ?_
  refine RL_do rfl rfl (Do_extract (v := .int .i64 x10) rfl rfl) ?_
  refine RL_ex rfl rfl (Lx_alloc zero25 H) ?_
  rintro _ w16 ⟨b14, rfl, H⟩
  refine RL_exU rfl (Lx_storeW (e := (Fl.arr 64 (Fl.int .u16))) (a := (Arr.rep 64 0 : Arr 64 Int)) (a' := x9) H 3 rfl sz25 rfl rfl) ?_
  rintro w17 H
  refine RL_do rfl rfl (Do_assign (v := .int .i64 x10) rfl) ?_
  refine (RL_nil (thenQ_n (hK7 _ _ ?_)))
  refine WP_seq_k fun K38 hK38 => ?_
  obtain ⟨g49, hF, hK51⟩ := bindO_some hF
  refine WP_seqS [18, 19, 20, 21, 22, 23, 24] (fun (g : Unit) => [(24, .bool g49)]) (fun g wl => Hd O w wl S [.fz (.sl (Rp.int .i64) v3 p2), .fz (.at 0 0 ((Fl.arr 4 (Fl.int .u16)).f G_frame_syncs)), .blk b14 ((Fl.arr 64 (Fl.int .u16)).f x9) 25]) ?_ ?_
  · skip
    refine WP_region ?_
    refine RL_do rfl rfl (Do_move (v := .int .i64 x10) rfl) ?_
    obtain ⟨x52, e53, hF⟩ := letO_some hF
    refine RL_do rfl rfl (Do_as (Do_neq (a := x10) (b := 0) rfl rfl) (congrArg Value.bool e53)) ?_
    refine RL_splitb (b := x52) rfl rfl rfl (fun c54 => ?_) (fun c54 => ?_)
    · have hF := iteB_t c54 hF
      refine RL_off rfl rfl ?_
      refine RL_off rfl rfl ?_
      refine RL_off rfl rfl ?_
      refine RL_do rfl rfl (Do_pick_t (v := .bool true) rfl rfl) ?_
      have hR := Option.some.inj hF
      subst hR
      refine (RL_nil (thenQ_n (And.intro ?_ ?_)))
      · repeat' (first | with_reducible exact Fr_refl | refine Fr_upd rfl ?_ | refine Fr_over rfl rfl ?_)
      · exact ⟨(), (Sl_cons rfl Sl_nil), H.pick [1, 2, 3] (by decide)⟩
    · have hF := iteB_f c54 hF
      refine RL_do rfl rfl (Do_move (v := v3) rfl) ?_
      obtain ⟨x55, e56, hF⟩ := letO_some hF
      obtain ⟨a57, c58, q59⟩ := SlF.len ((H.item (i := 1) rfl))
      refine RL_do rfl rfl (Do_as (Do_len u46 q59) (congrArg (Value.int .i64) e56)) ?_
      obtain ⟨x60, e61, hF⟩ := letO_some hF
      refine RL_do rfl rfl (Do_as (Do_gtr (a := x55) (b := 3) rfl rfl) (congrArg Value.bool e61)) ?_
      refine RL_do rfl rfl (Do_pick_f (v := .bool x60) rfl rfl) ?_
      have hR := Option.some.inj hF
      subst hR
      refine (RL_nil (thenQ_n (And.intro ?_ ?_)))
      · repeat' (first | with_reducible exact Fr_refl | refine Fr_upd rfl ?_ | refine Fr_over rfl rfl ?_)
      · exact ⟨(), (Sl_cons rfl Sl_nil), H.pick [1, 2, 3] (by decide)⟩
  · rintro _ ρ w50 H
    have hF := hK51
    refine WP_ifb (b := g49) rfl (fun c62 => ?_) (fun c62 => ?_)
    · have hF := iteB_t c62 hF
      refine WP_seq_k fun K63 hK63 => ?_
      refine WP_region ?_
      have H64 := H
      obtain ⟨x65, e66, hF⟩ := bindO_some hF
      refine RL_call rfl rfl (DoC_func en21 rfl) (X_framed_w _ e66 _ _ _ (H.enter [] [1] (by decide) rfl)) ?_
      rintro _ w67 ⟨rfl, G68⟩
      have H := H64.step (G68.only : Only [] _ _)
      refine ⟨_, rfl, ?_⟩
      refine RL_do rfl rfl (Do_assign (v := .bool x65) rfl) ?_
      refine (RL_nil (thenQ_n (hK63 _ _ ?_)))
      have hR := Option.some.inj hF
      subst hR
      refine (WP_ret (thenQ_r (post1 (v1 := .bool x65) rfl rfl ?_)))
      exact ⟨rfl, H.pick [] (by decide)⟩
    · have hF := iteB_f c62 hF
      refine (WP_skip (thenQ_n (hK38 _ _ ?_)))
      refine WP_seq_k fun K69 hK69 => ?_
      refine WP_region ?_
      refine RL_do rfl rfl (Do_loadF (e := (Fl.arr 64 (Fl.int .u16))) (a := x9) agg25 rfl sz25 (Blk.cells (H.item (i := 2) rfl))) ?_
      refine RL_ex rfl rfl (Lx_alloc zero25 H) ?_
      rintro _ w72 ⟨b70, rfl, H⟩
      refine RL_exU rfl (Lx_storeW (e := (Fl.arr 64 (Fl.int .u16))) (a := (Arr.rep 64 0 : Arr 64 Int)) (a' := x9) H 3 rfl sz25 rfl rfl) ?_
      rintro w73 H
      refine (RL_nil (thenQ_n (hK69 _ _ ?_)))
      obtain ⟨k444, ek445, hF⟩ := joinO_some hF
      refine WP_seqS [6, 10, 11, 27, 28, 29, 30, 31, 32, 33, 34, 35, 36, 37, 38, 39, 40, 41, 42, 43, 44, 45, 46, 47, 48, 49, 50, 51, 52, 53, 54, 55, 56, 57] (fun (g : (Arr 64 Int)) => []) (fun g wl => Hd O w wl S [.fz (.sl (Rp.int .i64) v3 p2), .fz (.at 0 0 ((Fl.arr 4 (Fl.int .u16)).f G_frame_syncs)), .blk b14 ((Fl.arr 64 (Fl.int .u16)).f x9) 25, .blk b70 ((Fl.arr 64 (Fl.int .u16)).f g) 25] ∧ k444 g = some r) ?_ ?_
      · skip
        refine WP_seq_k fun K446 hK446 => ?_
        refine WP_region ?_
        refine RL_do rfl rfl (Do_move (v := v3) rfl) ?_
        obtain ⟨x447, e448, hF⟩ := letO_some hF
        obtain ⟨a449, c450, q451⟩ := SlF.len ((H.item (i := 0) rfl))
        refine RL_do rfl rfl (Do_as (Do_len u46 q451) (congrArg (Value.int .i64) e448)) ?_
        refine RL_do rfl rfl (Do_move (v := .int .i64 0) rfl) ?_
        refine (RL_nil (thenQ_n (hK446 _ _ ?_)))
        refine WP_block ?_
        unfold F_law1_FrameFlipsAreNoticed_L1 at hF
        obtain ⟨B810, n811, eB812, hF⟩ := loopO_some hF
        refine WP_loopS [6, 10, 11, 29, 30, 31, 32, 33, 34, 35, 36, 37, 38, 39, 40, 41, 42, 43, 44, 45, 46, 47, 48, 49, 50, 51, 52, 53, 54, 55, 56, 57] (fun (g : Nat × Int × (Arr 64 Int)) => [(29, .int .i64 g.2.1)]) (fun g wl => Hd O w wl S [.fz (.sl (Rp.int .i64) v3 p2), .fz (.at 0 0 ((Fl.arr 4 (Fl.int .u16)).f G_frame_syncs)), .blk b14 ((Fl.arr 64 (Fl.int .u16)).f x9) 25, .blk b70 ((Fl.arr 64 (Fl.int .u16)).f g.2.2) 25] ∧ loopN B810 g.1 (g.2.1, g.2.2) = some r) (fun g => g.1) (n811, 0, x9) (Sl_cons rfl Sl_nil) ⟨H.pick [0, 1, 2, 3] (by decide), hF⟩ ?_
        clear H hF
        rintro ⟨n811, g808, g809⟩ ρ w814 ⟨H, hF⟩
        obtain ⟨n815, rfl, hF⟩ := loopN_pos hF
        have hF := loop_body eB812 hF
        refine WP_seq_k fun K816 hK816 => ?_
        refine WP_region ?_
        obtain ⟨x817, e818, hF⟩ := letO_some hF
        refine RL_do rfl rfl (Do_as (Do_lss (a := g808) (b := x447) rfl rfl) (congrArg Value.bool e818)) ?_
        refine (RL_nil (thenQ_n (hK816 _ _ ?_)))
        refine WP_seq_k fun K820 hK820 => ?_
        refine WP_ifb (b := x817) rfl (fun c821 => ?_) (fun c821 => ?_)
        · have hF := iteB_t c821 hF
          refine (WP_skip (thenQ_n (hK820 _ _ ?_)))
          refine WP_seq_k fun K906 hK906 => ?_
          refine WP_block ?_
          refine WP_seq_k fun K907 hK907 => ?_
          refine WP_region ?_
          refine RL_do rfl rfl (Do_move (v := .int .i64 g808) rfl) ?_
          obtain ⟨x908, e909, hF⟩ := bindO_some hF
          obtain ⟨b910, o911, c912, cs913, q914, h917, h915, h916, h918⟩ := rd_at (H.item (i := 0) rfl) e909
          obtain rfl : cs913 = [.int .i64 x908] := h917
          have H := H.fz (.at b910 (o911 + g808.toNat * 1) _) ⟨h915, h916, h918⟩
          refine RL_do rfl rfl (Do_idx u46 sz3 q914 rfl (at_some e909).1 (at_some e909).2.1 rfl rfl) ?_
          refine RL_do rfl rfl (Do_load one3 rfl (Cells.get (H.item (i := 4) rfl).2.2 (i := 0) rfl)) ?_
          refine RL_do rfl rfl (Do_assign (v := .int .i64 g808) rfl) ?_
          refine RL_do rfl rfl (Do_assign (v := .int .i64 x908) rfl) ?_
          refine (RL_nil (thenQ_n (hK907 _ _ ?_)))
          refine WP_seq_k fun K946 hK946 => ?_
          obtain ⟨g963, hF, hK965⟩ := bindO_some hF
          refine WP_seqS [34, 35, 36, 37, 38, 39, 40, 41, 42, 43, 44, 45, 46] (fun (g : Unit) => [(46, .bool g963)]) (fun g wl => Hd O w wl S [.fz (.sl (Rp.int .i64) v3 p2), .fz (.at 0 0 ((Fl.arr 4 (Fl.int .u16)).f G_frame_syncs)), .blk b14 ((Fl.arr 64 (Fl.int .u16)).f x9) 25, .blk b70 ((Fl.arr 64 (Fl.int .u16)).f g809) 25]) ?_ ?_
          · skip
            refine WP_region ?_
            refine RL_do rfl rfl (Do_move (v := .int .i64 x908) rfl) ?_
            obtain ⟨x966, e967, hF⟩ := letO_some hF
            refine RL_do rfl rfl (Do_as (Do_lss (a := x908) (b := 0) rfl rfl) (congrArg Value.bool e967)) ?_
            refine RL_splitb (b := x966) rfl rfl rfl (fun c968 => ?_) (fun c968 => ?_)
            · have hF := iteB_t c968 hF
              refine RL_off rfl rfl ?_
              refine RL_off rfl rfl ?_
              refine RL_do rfl rfl (Do_pick_t (v := .bool true) rfl rfl) ?_
              refine RL_do rfl rfl (Do_move (v := .bool true) rfl) ?_
              refine RL_off rfl rfl ?_
              refine RL_off rfl rfl ?_
              refine RL_off rfl rfl ?_
              refine RL_off rfl rfl ?_
              refine RL_off rfl rfl ?_
              refine RL_do rfl rfl (Do_pick_t (v := .bool true) rfl rfl) ?_
              have hR := Option.some.inj hF
              subst hR
              refine (RL_nil (thenQ_n (And.intro ?_ ?_)))
              · repeat' (first | with_reducible exact Fr_refl | refine Fr_upd rfl ?_ | refine Fr_over rfl rfl ?_)
              · exact ⟨(), (Sl_cons rfl Sl_nil), H.pick [0, 1, 2, 3] (by decide)⟩
            · have hF := iteB_f c968 hF
              refine RL_do rfl rfl (Do_move (v := .int .i64 x908) rfl) ?_
              obtain ⟨x969, e970, hF⟩ := letO_some hF
              refine RL_do rfl rfl (Do_as (Do_geq (a := x908) (b := 768) rfl rfl) (congrArg Value.bool e970)) ?_
              refine RL_do rfl rfl (Do_pick_f (v := .bool x969) rfl rfl) ?_
              refine RL_splitb (b := x969) rfl rfl rfl (fun c971 => ?_) (fun c971 => ?_)
              · have hF := iteB_t c971 hF
                refine RL_off rfl rfl ?_
                refine RL_off rfl rfl ?_
                refine RL_off rfl rfl ?_
                refine RL_off rfl rfl ?_
                refine RL_off rfl rfl ?_
                refine RL_do rfl rfl (Do_pick_t (v := .bool true) rfl rfl) ?_
                have hR := Option.some.inj hF
                subst hR
                refine (RL_nil (thenQ_n (And.intro ?_ ?_)))
                · repeat' (first | with_reducible exact Fr_refl | refine Fr_upd rfl ?_ | refine Fr_over rfl rfl ?_)
                · exact ⟨(), (Sl_cons rfl Sl_nil), H.pick [0, 1, 2, 3] (by decide)⟩
              · have hF := iteB_f c971 hF
                refine RL_do rfl rfl (Do_move (v := v3) rfl) ?_
                refine RL_do rfl rfl (Do_move (v := .int .i64 g808) rfl) ?_
                obtain ⟨x972, e973, hF⟩ := bindO_some hF
                refine RL_exP rfl rfl (Lx_slice_h u46 sz3 (H.item (i := 0) rfl) rfl rfl e973) ?_
                rintro v974 h975
                have H := H.fz (.sl (Rp.int .i64) v974 x972) h975
                refine RL_do rfl rfl (Do_move (v := .int .i64 x908) rfl) ?_
                have H977 := H
                obtain ⟨x978, e979, hF⟩ := bindO_some hF
                refine RL_call rfl rfl (DoC_func en33 rfl) (F_slices_Contains___int_int__w x972 x908 v974 _ e979 _ _ _ (H.enter [] [5] (by decide) rfl)) ?_
                rintro _ w980 ⟨rfl, G981⟩
                have H := H977.step (G981.only : Only [] _ _)
                refine ⟨_, rfl, ?_⟩
                refine RL_do rfl rfl (Do_pick_f (v := .bool x978) rfl rfl) ?_
                have hR := Option.some.inj hF
                subst hR
                refine (RL_nil (thenQ_n (And.intro ?_ ?_)))
                · repeat' (first | with_reducible exact Fr_refl | refine Fr_upd rfl ?_ | refine Fr_over rfl rfl ?_)
                · exact ⟨(), (Sl_cons rfl Sl_nil), H.pick [0, 1, 2, 3] (by decide)⟩
          · rintro _ ρ w964 H
            have hF := hK965
            refine WP_ifb (b := g963) rfl (fun c982 => ?_) (fun c982 => ?_)
            · have hF := iteB_t c982 hF
              refine WP_seq_k fun K983 hK983 => ?_
              refine WP_region ?_
              have H984 := H
              obtain ⟨x985, e986, hF⟩ := bindO_some hF
              refine RL_call rfl rfl (DoC_func en21 rfl) (X_framed_w _ e986 _ _ _ (H.enter [] [1] (by decide) rfl)) ?_
              rintro _ w987 ⟨rfl, G988⟩
              have H := H984.step (G988.only : Only [] _ _)
              refine ⟨_, rfl, ?_⟩
              refine RL_do rfl rfl (Do_assign (v := .bool x985) rfl) ?_
              refine (RL_nil (thenQ_n (hK983 _ _ ?_)))
              have hR := Option.some.inj hF
              subst hR
              refine (WP_ret (thenQ_r (blockQ_r (thenQ_r (thenQ_r (blockQ_r (thenQ_r (post1 (v1 := .bool x985) rfl rfl ?_))))))))
              exact ⟨rfl, H.pick [] (by decide)⟩
            · have hF := iteB_f c982 hF
              refine (WP_skip (thenQ_n (hK946 _ _ ?_)))
              have H989 := H
              have H := H.rebase
              have H990 := H
              refine WP_mix0 H [0, 1, 2, 3, 4, 5, 6, 7, 8, 9] [.pure, .pure, .pure, .read, .pure, .pure, .pure, .pure, .pure, .eff] mixed (by kernel_rfl) (by kernel_rfl) (by kernel_rfl) rfl ?_
              refine Mx.XL_pure rfl rfl rfl (fun w' hw' => Do_move (v := .int .i64 x908) rfl) ?_
              obtain ⟨x991, e992, hF⟩ := bindO_some hF
              refine Mx.XL_pure rfl rfl rfl (fun w' hw' => Do_quo' (j := x908) (q := 12) rfl rfl e992) ?_
              obtain ⟨x993, e994, hF⟩ := bindO_some hF
              refine Mx.XL_pure rfl rfl rfl (fun w' hw' => Do_idxA (X := g809) u25 sz23 rfl rfl e994) ?_
              refine Mx.XL_read oS rfl rfl rfl (fun w' hw' => Do_load1 (v := .int .u16 x993) one23 rfl (Cells.ix (e := (Fl.int .u16)) (x := g809) (Blk.cells ((H.sees hw').item (i := 3) rfl)) e994)) ?_
              refine Mx.XL_pure rfl rfl rfl (fun w' hw' => Do_move (v := .int .i64 x908) rfl) ?_
              obtain ⟨x995, e996, hF⟩ := bindO_some hF
              refine Mx.XL_pure rfl rfl rfl (fun w' hw' => Do_rem' (j := x908) (q := 12) rfl rfl e996) ?_
              obtain ⟨x997, e998, hF⟩ := bindO_some hF
              refine Mx.XL_pure rfl rfl rfl (fun w' hw' => Do_shl' (j := 1) (q := x995) rfl rfl e998) ?_
              obtain ⟨x999, e1000, hF⟩ := letO_some hF
              refine Mx.XL_pure rfl rfl rfl (fun w' hw' => Do_xor (a := x993) (b := x997) rfl rfl e1000) ?_
              obtain ⟨x1001, e1002, hF⟩ := bindO_some hF
              refine Mx.XL_pure rfl rfl rfl (fun w' hw' => Do_idxA (X := g809) u25 sz23 rfl rfl e1002) ?_
              obtain ⟨x1003, e1004, hF⟩ := letO_some hF
              refine Mx.XL_exU oS rfl rfl (fun w' hw' => Lx_storeA (e := (Fl.int .u16)) (X := g809) (a := x999) (j := x991) (H.sees hw') 3 rfl sz23 rfl (v := .int .u16 x999) rfl rfl (Arr.at_lt e1002).1 (Arr.at_lt e1002).2 e1004) ?_
              rintro w' w1005 hw' H
              refine ⟨H.only, ?_⟩
              refine Mx.XL_nil fun w1006 hS => ?_
              have H := H.sees hS
              have H := H989.rejoin H
              refine (blockQ_n (thenQ_n (hK906 _ _ ?_)))
              refine WP_region ?_
              obtain ⟨x1007, e1008, hF⟩ := letO_some hF
              refine RL_do rfl rfl (Do_add (a := g808) (b := 1) rfl rfl e1008) ?_
              refine RL_do rfl rfl (Do_move (v := .int .i64 x1007) rfl) ?_
              refine (RL_nil (thenQ_n (And.intro ?_ ?_)))
              · repeat' (first | with_reducible exact Fr_refl | refine Fr_upd rfl ?_ | refine Fr_over rfl rfl ?_)
              · exact ⟨(n815, x1007, x1003), (Sl_cons rfl Sl_nil), ⟨H.pick [0, 1, 2, 3] (by decide), hF⟩, Nat.lt_succ_self _⟩
        · have hF := iteB_f c821 hF
          refine (WP_exit (thenQ_x (thenQ_x (blockQ_eq (thenQ_n (And.intro ?_ ?_))))))
          · repeat' (first | with_reducible exact Fr_refl | refine Fr_upd rfl ?_ | refine Fr_over rfl rfl ?_)
          · exact ⟨g809, Sl_nil, ⟨H.pick [0, 1, 2, 3] (by decide), hF⟩⟩
      · rintro g442 ρ w443 ⟨H, hF⟩
        have hF := join_body ek445 hF
        obtain ⟨g1050, hF, hK1052⟩ := bindO_some hF
        refine WP_seqS [6, 58, 59, 60, 61, 62, 63, 64, 65, 66, 67, 68, 69, 70, 71, 72, 73, 74, 75, 76] (fun (g : Unit) => [(6, .bool g1050)]) (fun g wl => Hd O w wl S [.fz (.at 0 0 ((Fl.arr 4 (Fl.int .u16)).f G_frame_syncs))]) ?_ ?_
        · skip
          refine WP_region ?_
          refine RL_do rfl rfl (Do_loadF (e := (Fl.arr 64 (Fl.int .u16))) (a := x9) agg25 rfl sz25 (Blk.cells (H.item (i := 2) rfl))) ?_
          refine RL_do rfl rfl (Do_loadF (e := (Fl.arr 64 (Fl.int .u16))) (a := g442) agg25 rfl sz25 (Blk.cells (H.item (i := 3) rfl))) ?_
          have H1053 := H
          obtain ⟨x1054, e1055, hF⟩ := bindO_some hF
          refine RL_call rfl rfl (DoC_func en22 rfl) (F_frame_Distance_w x9 g442 _ e1055 _ _ _ (H.enter [] [] (by decide) rfl)) ?_
          rintro _ w1056 ⟨rfl, G1057⟩
          have H := H1053.step (G1057.only : Only [] _ _)
          refine ⟨_, rfl, ?_⟩
          refine RL_do rfl rfl (Do_move (v := v3) rfl) ?_
          obtain ⟨x1058, e1059, hF⟩ := letO_some hF
          obtain ⟨a1060, c1061, q1062⟩ := SlF.len ((H.item (i := 0) rfl))
          refine RL_do rfl rfl (Do_as (Do_len u46 q1062) (congrArg (Value.int .i64) e1059)) ?_
          obtain ⟨x1063, e1064, hF⟩ := letO_some hF
          refine RL_do rfl rfl (Do_as (Do_eql (a := x1054) (b := x1058) rfl rfl) (congrArg Value.bool e1064)) ?_
          refine RL_splitb (b := x1063) rfl rfl rfl (fun c1065 => ?_) (fun c1065 => ?_)
          · have hF := iteB_t c1065 hF
            refine RL_do rfl rfl (Do_loadF (e := (Fl.arr 64 (Fl.int .u16))) (a := g442) agg25 rfl sz25 (Blk.cells (H.item (i := 3) rfl))) ?_
            obtain ⟨x1066, e1067, hF⟩ := bindO_some hF
            refine RL_call rfl rfl (DoC_func en34 rfl) (F_frame_Flaws_w g442 _ e1067 _ _ _ (H.enter [] [1] (by decide) rfl)) ?_
            rintro _ w1070 ⟨v1068, rfl, G1071⟩
            have H := H.back1 [1] rfl G1071
            refine ⟨_, rfl, ?_⟩
            obtain ⟨x1072, e1073, hF⟩ := letO_some hF
            obtain ⟨a1074, c1075, q1076⟩ := Sr.len (Sr.of_own (H.item (i := 4) rfl))
            refine RL_do rfl rfl (Do_as (Do_len u50 q1076) (congrArg (Value.int .i64) e1073)) ?_
            obtain ⟨x1077, e1078, hF⟩ := letO_some hF
            refine RL_do rfl rfl (Do_as (Do_gtr (a := x1072) (b := 0) rfl rfl) (congrArg Value.bool e1078)) ?_
            refine RL_do rfl rfl (Do_move (v := v3) rfl) ?_
            obtain ⟨x1079, e1080, hF⟩ := letO_some hF
            obtain ⟨a1081, c1082, q1083⟩ := SlF.len ((H.item (i := 0) rfl))
            refine RL_do rfl rfl (Do_as (Do_len u46 q1083) (congrArg (Value.int .i64) e1080)) ?_
            obtain ⟨x1084, e1085, hF⟩ := letO_some hF
            refine RL_do rfl rfl (Do_as (Do_gtr (a := x1079) (b := 0) rfl rfl) (congrArg Value.bool e1085)) ?_
            obtain ⟨x1086, e1087, hF⟩ := letO_some hF
            refine RL_do rfl rfl (Do_as (Do_eqlb (p := x1077) (q := x1084) u4 rfl rfl) (congrArg Value.bool e1087)) ?_
            refine RL_do rfl rfl (Do_pick_t (v := .bool x1086) rfl rfl) ?_
            refine RL_splitb (b := x1086) rfl rfl rfl (fun c1088 => ?_) (fun c1088 => ?_)
            · have hF := iteB_t c1088 hF
              have H1089 := H
              obtain ⟨x1090, e1091, hF⟩ := bindO_some hF
              refine RL_call rfl rfl (DoC_func en21 rfl) (X_framed_w _ e1091 _ _ _ (H.enter [] [1] (by decide) rfl)) ?_
              rintro _ w1092 ⟨rfl, G1093⟩
              have H := H1089.step (G1093.only : Only [] _ _)
              refine ⟨_, rfl, ?_⟩
              refine RL_do rfl rfl (Do_pick_t (v := .bool x1090) rfl rfl) ?_
              refine RL_do rfl rfl (Do_assign (v := .bool x1090) rfl) ?_
              have hR := Option.some.inj hF
              subst hR
              refine (RL_nil (thenQ_n (And.intro ?_ ?_)))
              · repeat' (first | with_reducible exact Fr_refl | refine Fr_upd rfl ?_ | refine Fr_over rfl rfl ?_)
              · exact ⟨(), (Sl_cons rfl Sl_nil), H.pick [1] (by decide)⟩
            · have hF := iteB_f c1088 hF
              refine RL_off rfl rfl ?_
              refine RL_do rfl rfl (Do_pick_f (v := .bool false) rfl rfl) ?_
              refine RL_do rfl rfl (Do_assign (v := .bool false) rfl) ?_
              have hR := Option.some.inj hF
              subst hR
              refine (RL_nil (thenQ_n (And.intro ?_ ?_)))
              · repeat' (first | with_reducible exact Fr_refl | refine Fr_upd rfl ?_ | refine Fr_over rfl rfl ?_)
              · exact ⟨(), (Sl_cons rfl Sl_nil), H.pick [1] (by decide)⟩
          · have hF := iteB_f c1065 hF
            refine RL_off rfl rfl ?_
            refine RL_off rfl rfl ?_
            refine RL_off rfl rfl ?_
            refine RL_off rfl rfl ?_
            refine RL_off rfl rfl ?_
            refine RL_off rfl rfl ?_
            refine RL_off rfl rfl ?_
            refine RL_off rfl rfl ?_
            refine RL_do rfl rfl (Do_pick_f (v := .bool false) rfl rfl) ?_
            refine RL_do rfl rfl (Do_move (v := .bool false) rfl) ?_
            refine RL_off rfl rfl ?_
            refine RL_do rfl rfl (Do_pick_f (v := .bool false) rfl rfl) ?_
            refine RL_do rfl rfl (Do_assign (v := .bool false) rfl) ?_
            have hR := Option.some.inj hF
            subst hR
            refine (RL_nil (thenQ_n (And.intro ?_ ?_)))
            · repeat' (first | with_reducible exact Fr_refl | refine Fr_upd rfl ?_ | refine Fr_over rfl rfl ?_)
            · exact ⟨(), (Sl_cons rfl Sl_nil), H.pick [1] (by decide)⟩
        · rintro _ ρ w1051 H
          have hF := hK1052
          have hR := Option.some.inj hF
          subst hR
          refine (WP_ret (post1 (v1 := .bool g1050) rfl rfl ?_))
          exact ⟨rfl, H.pick [] (by decide)⟩
end Go.Proofs.YtafgmocdnjdmoaaDoor.L
