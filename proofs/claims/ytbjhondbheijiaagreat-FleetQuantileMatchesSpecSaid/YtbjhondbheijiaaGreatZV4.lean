/- Walks: what each function computes, for every argument; no condition but those that stand in the statements. -/
import Derived.Test.YtbjhondbheijiaaGreatZV0
import Derived.Test.YtbjhondbheijiaaGreatZV3
namespace Go.Proofs.YtbjhondbheijiaaGreat.L
open Go.RowKit Go.OB Go.Lf
/- orangebox/orangeboxref6.IsName -/
set_option maxHeartbeats 4000000 in
theorem F_ref6_IsName_w (p0 : Str) (r : Bool) (hF : F_ref6_IsName p0 = some r) (O S : List Nat) (w : World) (H : Hd O w w S []) :
    Calls Tryz.prog 34 ([.string (bs p0)] : List Value).toArray w fun e w' => e = .returned (.bool r) ∧ Hd O w w' S [] := by
  unfold F_ref6_IsName at hF
  refine calls_of_WP 49 Tryz.func34 rfl rfl rfl ?_
  refine WP_seq_k fun K1 hK1 => ?_
  refine WP_region ?_
  refine RL_do rfl rfl (Do_assign (v := .bool false) rfl) ?_
  refine (RL_nil (thenQ_n (hK1 _ _ ?_)))
  obtain ⟨k235, ek236, hF⟩ := joinO_some hF
  refine WP_seqS [2, 3, 4, 5, 6, 7, 8, 9, 10, 11, 12, 13, 14, 15, 16, 17, 18, 19, 20, 21, 22, 23, 24, 25, 26, 27, 28, 29, 30, 31, 32, 33, 34, 35, 36] (fun (g : Unit) => []) (fun g wl => Hd O w wl S [] ∧ k235 () = some r) ?_ ?_
  · skip
    refine WP_seq_k fun K237 hK237 => ?_
    refine WP_region ?_
    refine RL_do rfl rfl (Do_assign (v := .int .i64 0) rfl) ?_
    refine (RL_nil (thenQ_n (hK237 _ _ ?_)))
    refine WP_block ?_
    unfold F_ref6_IsName_L1 at hF
    obtain ⟨B464, n465, eB466, hF⟩ := loopO_some hF
    refine WP_loopS [2, 3, 4, 5, 6, 7, 8, 9, 10, 11, 12, 13, 14, 15, 16, 17, 18, 19, 20, 21, 22, 23, 24, 25, 26, 27, 28, 29, 30, 31, 32, 33, 34, 35, 36] (fun (g : Nat × Int) => [(3, .int .i64 g.2)]) (fun g wl => Hd O w wl S [] ∧ loopN B464 g.1 g.2 = some r) (fun g => g.1) (n465, 0) (Sl_cons rfl Sl_nil) ⟨H.pick [] (by decide), hF⟩ ?_
    clear H hF
    rintro ⟨n465, g463⟩ ρ w468 ⟨H, hF⟩
    obtain ⟨n469, rfl, hF⟩ := loopN_pos hF
    have hF := loop_body eB466 hF
    refine WP_seq_k fun K476 hK476 => ?_
    refine WP_seq_k fun K477 hK477 => ?_
    refine WP_region ?_
    refine RL_do rfl rfl (Do_move (v := .int .i64 g463) rfl) ?_
    refine RL_do rfl rfl (Do_move (v := .string (bs p0)) rfl) ?_
    obtain ⟨x478, e479, hF⟩ := letO_some hF
    refine RL_do rfl rfl (Do_as (Do_slen (s1 := p0) u9 rfl) (congrArg (Value.int .i64) e479)) ?_
    obtain ⟨x480, e481, hF⟩ := letO_some hF
    refine RL_do rfl rfl (Do_as (Do_lss (a := g463) (b := x478) rfl rfl) (congrArg Value.bool e481)) ?_
    refine (RL_nil (thenQ_n (hK477 _ _ ?_)))
    refine WP_ifb (b := x480) rfl (fun c482 => ?_) (fun c482 => ?_)
    · have hF := iteB_t c482 hF
      refine (WP_skip (thenQ_n (hK476 _ _ ?_)))
      refine WP_seq_k fun K531 hK531 => ?_
      refine WP_block ?_
      refine WP_seq_k fun K532 hK532 => ?_
      refine WP_region ?_
      refine RL_do rfl rfl (Do_move (v := .string (bs p0)) rfl) ?_
      refine RL_do rfl rfl (Do_move (v := .int .i64 g463) rfl) ?_
      obtain ⟨x533, e534, hF⟩ := bindO_some hF
      refine RL_do rfl rfl (Do_sidx (s1 := p0) (q := g463) u9 rfl rfl e534) ?_
      refine RL_do rfl rfl (Do_assign (v := .int .u8 x533) rfl) ?_
      refine (RL_nil (thenQ_n (hK532 _ _ ?_)))
      obtain ⟨g575, hF, hK577⟩ := bindO_some hF
      refine WP_seqS [14, 15, 16, 17, 18, 19, 20, 21, 22, 23, 24, 25, 26, 27, 28, 29, 30, 31, 32, 33, 34, 35, 36] (fun (g : Unit) => [(36, .bool g575)]) (fun g wl => Hd O w wl S []) ?_ ?_
      · skip
        refine WP_region ?_
        refine RL_do rfl rfl (Do_move (v := .int .u8 x533) rfl) ?_
        obtain ⟨x578, e579, hF⟩ := letO_some hF
        refine RL_do rfl rfl (Do_as (Do_geq (a := x533) (b := 97) rfl rfl) (congrArg Value.bool e579)) ?_
        refine RL_splitb (b := x578) rfl rfl rfl (fun c580 => ?_) (fun c580 => ?_)
        · have hF := iteB_t c580 hF
          refine RL_do rfl rfl (Do_move (v := .int .u8 x533) rfl) ?_
          obtain ⟨x581, e582, hF⟩ := letO_some hF
          refine RL_do rfl rfl (Do_as (Do_leq (a := x533) (b := 122) rfl rfl) (congrArg Value.bool e582)) ?_
          refine RL_do rfl rfl (Do_pick_t (v := .bool x581) rfl rfl) ?_
          refine RL_splitb (b := x581) rfl rfl rfl (fun c583 => ?_) (fun c583 => ?_)
          · have hF := iteB_t c583 hF
            refine RL_off rfl rfl ?_
            refine RL_off rfl rfl ?_
            refine RL_off rfl rfl ?_
            refine RL_off rfl rfl ?_
            refine RL_off rfl rfl ?_
            refine RL_off rfl rfl ?_
            refine RL_off rfl rfl ?_
            refine RL_off rfl rfl ?_
            refine RL_off rfl rfl ?_
            refine RL_off rfl rfl ?_
            refine RL_off rfl rfl ?_
            refine RL_off rfl rfl ?_
            refine RL_off rfl rfl ?_
            refine RL_off rfl rfl ?_
            refine RL_do rfl rfl (Do_pick_t (v := .bool true) rfl rfl) ?_
            refine RL_do rfl rfl (Do_not (p := true) rfl) ?_
            have hR := Option.some.inj hF
            subst hR
            refine (RL_nil (thenQ_n (And.intro ?_ ?_)))
            · repeat' (first | with_reducible exact Fr_refl | refine Fr_upd rfl ?_ | refine Fr_over rfl rfl ?_)
            · exact ⟨(), (Sl_cons rfl Sl_nil), H.pick [] (by decide)⟩
          · have hF := iteB_f c583 hF
            refine RL_do rfl rfl (Do_move (v := .int .i64 g463) rfl) ?_
            obtain ⟨x584, e585, hF⟩ := letO_some hF
            refine RL_do rfl rfl (Do_as (Do_gtr (a := g463) (b := 0) rfl rfl) (congrArg Value.bool e585)) ?_
            refine RL_splitb (b := x584) rfl rfl rfl (fun c586 => ?_) (fun c586 => ?_)
            · have hF := iteB_t c586 hF
              refine RL_do rfl rfl (Do_move (v := .int .u8 x533) rfl) ?_
              obtain ⟨x587, e588, hF⟩ := letO_some hF
              refine RL_do rfl rfl (Do_as (Do_geq (a := x533) (b := 48) rfl rfl) (congrArg Value.bool e588)) ?_
              refine RL_splitb (b := x587) rfl rfl rfl (fun c589 => ?_) (fun c589 => ?_)
              · have hF := iteB_t c589 hF
                refine RL_do rfl rfl (Do_move (v := .int .u8 x533) rfl) ?_
                obtain ⟨x590, e591, hF⟩ := letO_some hF
                refine RL_do rfl rfl (Do_as (Do_leq (a := x533) (b := 57) rfl rfl) (congrArg Value.bool e591)) ?_
                refine RL_do rfl rfl (Do_pick_t (v := .bool x590) rfl rfl) ?_
                refine RL_splitb (b := x590) rfl rfl rfl (fun c592 => ?_) (fun c592 => ?_)
                · have hF := iteB_t c592 hF
                  refine RL_off rfl rfl ?_
                  refine RL_off rfl rfl ?_
                  refine RL_do rfl rfl (Do_pick_t (v := .bool true) rfl rfl) ?_
                  refine RL_do rfl rfl (Do_pick_t (v := .bool true) rfl rfl) ?_
                  refine RL_do rfl rfl (Do_pick_f (v := .bool true) rfl rfl) ?_
                  refine RL_do rfl rfl (Do_not (p := true) rfl) ?_
                  have hR := Option.some.inj hF
                  subst hR
                  refine (RL_nil (thenQ_n (And.intro ?_ ?_)))
                  · repeat' (first | with_reducible exact Fr_refl | refine Fr_upd rfl ?_ | refine Fr_over rfl rfl ?_)
                  · exact ⟨(), (Sl_cons rfl Sl_nil), H.pick [] (by decide)⟩
                · have hF := iteB_f c592 hF
                  refine RL_do rfl rfl (Do_move (v := .int .u8 x533) rfl) ?_
                  obtain ⟨x593, e594, hF⟩ := letO_some hF
                  refine RL_do rfl rfl (Do_as (Do_eql (a := x533) (b := 45) rfl rfl) (congrArg Value.bool e594)) ?_
                  refine RL_do rfl rfl (Do_pick_f (v := .bool x593) rfl rfl) ?_
                  refine RL_do rfl rfl (Do_pick_t (v := .bool x593) rfl rfl) ?_
                  refine RL_do rfl rfl (Do_pick_f (v := .bool x593) rfl rfl) ?_
                  obtain ⟨x595, e596, hF⟩ := letO_some hF
                  refine RL_do rfl rfl (Do_as (Do_not (p := x593) rfl) (congrArg Value.bool e596)) ?_
                  have hR := Option.some.inj hF
                  subst hR
                  refine (RL_nil (thenQ_n (And.intro ?_ ?_)))
                  · repeat' (first | with_reducible exact Fr_refl | refine Fr_upd rfl ?_ | refine Fr_over rfl rfl ?_)
                  · exact ⟨(), (Sl_cons rfl Sl_nil), H.pick [] (by decide)⟩
              · have hF := iteB_f c589 hF
                refine RL_off rfl rfl ?_
                refine RL_off rfl rfl ?_
                refine RL_do rfl rfl (Do_pick_f (v := .bool false) rfl rfl) ?_
                refine RL_do rfl rfl (Do_move (v := .bool false) rfl) ?_
                refine RL_do rfl rfl (Do_move (v := .int .u8 x533) rfl) ?_
                obtain ⟨x597, e598, hF⟩ := letO_some hF
                refine RL_do rfl rfl (Do_as (Do_eql (a := x533) (b := 45) rfl rfl) (congrArg Value.bool e598)) ?_
                refine RL_do rfl rfl (Do_pick_f (v := .bool x597) rfl rfl) ?_
                refine RL_do rfl rfl (Do_pick_t (v := .bool x597) rfl rfl) ?_
                refine RL_do rfl rfl (Do_pick_f (v := .bool x597) rfl rfl) ?_
                obtain ⟨x599, e600, hF⟩ := letO_some hF
                refine RL_do rfl rfl (Do_as (Do_not (p := x597) rfl) (congrArg Value.bool e600)) ?_
                have hR := Option.some.inj hF
                subst hR
                refine (RL_nil (thenQ_n (And.intro ?_ ?_)))
                · repeat' (first | with_reducible exact Fr_refl | refine Fr_upd rfl ?_ | refine Fr_over rfl rfl ?_)
                · exact ⟨(), (Sl_cons rfl Sl_nil), H.pick [] (by decide)⟩
            · have hF := iteB_f c586 hF
              refine RL_off rfl rfl ?_
              refine RL_off rfl rfl ?_
              refine RL_off rfl rfl ?_
              refine RL_off rfl rfl ?_
              refine RL_off rfl rfl ?_
              refine RL_off rfl rfl ?_
              refine RL_off rfl rfl ?_
              refine RL_off rfl rfl ?_
              refine RL_off rfl rfl ?_
              refine RL_off rfl rfl ?_
              refine RL_do rfl rfl (Do_pick_f (v := .bool false) rfl rfl) ?_
              refine RL_do rfl rfl (Do_pick_f (v := .bool false) rfl rfl) ?_
              refine RL_do rfl rfl (Do_not (p := false) rfl) ?_
              have hR := Option.some.inj hF
              subst hR
              refine (RL_nil (thenQ_n (And.intro ?_ ?_)))
              · repeat' (first | with_reducible exact Fr_refl | refine Fr_upd rfl ?_ | refine Fr_over rfl rfl ?_)
              · exact ⟨(), (Sl_cons rfl Sl_nil), H.pick [] (by decide)⟩
        · have hF := iteB_f c580 hF
          refine RL_off rfl rfl ?_
          refine RL_off rfl rfl ?_
          refine RL_do rfl rfl (Do_pick_f (v := .bool false) rfl rfl) ?_
          refine RL_do rfl rfl (Do_move (v := .bool false) rfl) ?_
          refine RL_do rfl rfl (Do_move (v := .int .i64 g463) rfl) ?_
          obtain ⟨x601, e602, hF⟩ := letO_some hF
          refine RL_do rfl rfl (Do_as (Do_gtr (a := g463) (b := 0) rfl rfl) (congrArg Value.bool e602)) ?_
          refine RL_splitb (b := x601) rfl rfl rfl (fun c603 => ?_) (fun c603 => ?_)
          · have hF := iteB_t c603 hF
            refine RL_do rfl rfl (Do_move (v := .int .u8 x533) rfl) ?_
            obtain ⟨x604, e605, hF⟩ := letO_some hF
            refine RL_do rfl rfl (Do_as (Do_geq (a := x533) (b := 48) rfl rfl) (congrArg Value.bool e605)) ?_
            refine RL_splitb (b := x604) rfl rfl rfl (fun c606 => ?_) (fun c606 => ?_)
            · have hF := iteB_t c606 hF
              refine RL_do rfl rfl (Do_move (v := .int .u8 x533) rfl) ?_
              obtain ⟨x607, e608, hF⟩ := letO_some hF
              refine RL_do rfl rfl (Do_as (Do_leq (a := x533) (b := 57) rfl rfl) (congrArg Value.bool e608)) ?_
              refine RL_do rfl rfl (Do_pick_t (v := .bool x607) rfl rfl) ?_
              refine RL_splitb (b := x607) rfl rfl rfl (fun c609 => ?_) (fun c609 => ?_)
              · have hF := iteB_t c609 hF
                refine RL_off rfl rfl ?_
                refine RL_off rfl rfl ?_
                refine RL_do rfl rfl (Do_pick_t (v := .bool true) rfl rfl) ?_
                refine RL_do rfl rfl (Do_pick_t (v := .bool true) rfl rfl) ?_
                refine RL_do rfl rfl (Do_pick_f (v := .bool true) rfl rfl) ?_
                refine RL_do rfl rfl (Do_not (p := true) rfl) ?_
                have hR := Option.some.inj hF
                subst hR
                refine (RL_nil (thenQ_n (And.intro ?_ ?_)))
                · repeat' (first | with_reducible exact Fr_refl | refine Fr_upd rfl ?_ | refine Fr_over rfl rfl ?_)
                · exact ⟨(), (Sl_cons rfl Sl_nil), H.pick [] (by decide)⟩
              · have hF := iteB_f c609 hF
                refine RL_do rfl rfl (Do_move (v := .int .u8 x533) rfl) ?_
                obtain ⟨x610, e611, hF⟩ := letO_some hF
                refine RL_do rfl rfl (Do_as (Do_eql (a := x533) (b := 45) rfl rfl) (congrArg Value.bool e611)) ?_
                refine RL_do rfl rfl (Do_pick_f (v := .bool x610) rfl rfl) ?_
                refine RL_do rfl rfl (Do_pick_t (v := .bool x610) rfl rfl) ?_
                refine RL_do rfl rfl (Do_pick_f (v := .bool x610) rfl rfl) ?_
                obtain ⟨x612, e613, hF⟩ := letO_some hF
                refine RL_do rfl rfl (Do_as (Do_not (p := x610) rfl) (congrArg Value.bool e613)) ?_
                have hR := Option.some.inj hF
                subst hR
                refine (RL_nil (thenQ_n (And.intro ?_ ?_)))
                · repeat' (first | with_reducible exact Fr_refl | refine Fr_upd rfl ?_ | refine Fr_over rfl rfl ?_)
                · exact ⟨(), (Sl_cons rfl Sl_nil), H.pick [] (by decide)⟩
            · have hF := iteB_f c606 hF
              refine RL_off rfl rfl ?_
              refine RL_off rfl rfl ?_
              refine RL_do rfl rfl (Do_pick_f (v := .bool false) rfl rfl) ?_
              refine RL_do rfl rfl (Do_move (v := .bool false) rfl) ?_
              refine RL_do rfl rfl (Do_move (v := .int .u8 x533) rfl) ?_
              obtain ⟨x614, e615, hF⟩ := letO_some hF
              refine RL_do rfl rfl (Do_as (Do_eql (a := x533) (b := 45) rfl rfl) (congrArg Value.bool e615)) ?_
              refine RL_do rfl rfl (Do_pick_f (v := .bool x614) rfl rfl) ?_
              refine RL_do rfl rfl (Do_pick_t (v := .bool x614) rfl rfl) ?_
              refine RL_do rfl rfl (Do_pick_f (v := .bool x614) rfl rfl) ?_
              obtain ⟨x616, e617, hF⟩ := letO_some hF
              refine RL_do rfl rfl (Do_as (Do_not (p := x614) rfl) (congrArg Value.bool e617)) ?_
              have hR := Option.some.inj hF
              subst hR
              refine (RL_nil (thenQ_n (And.intro ?_ ?_)))
              · repeat' (first | with_reducible exact Fr_refl | refine Fr_upd rfl ?_ | refine Fr_over rfl rfl ?_)
              · exact ⟨(), (Sl_cons rfl Sl_nil), H.pick [] (by decide)⟩
          · have hF := iteB_f c603 hF
            refine RL_off rfl rfl ?_
            refine RL_off rfl rfl ?_
            refine RL_off rfl rfl ?_
            refine RL_off rfl rfl ?_
            refine RL_off rfl rfl ?_
            refine RL_off rfl rfl ?_
            refine RL_off rfl rfl ?_
            refine RL_off rfl rfl ?_
            refine RL_off rfl rfl ?_
            refine RL_off rfl rfl ?_
            refine RL_do rfl rfl (Do_pick_f (v := .bool false) rfl rfl) ?_
            refine RL_do rfl rfl (Do_pick_f (v := .bool false) rfl rfl) ?_
            refine RL_do rfl rfl (Do_not (p := false) rfl) ?_
            have hR := Option.some.inj hF
            subst hR
            refine (RL_nil (thenQ_n (And.intro ?_ ?_)))
            · repeat' (first | with_reducible exact Fr_refl | refine Fr_upd rfl ?_ | refine Fr_over rfl rfl ?_)
            · exact ⟨(), (Sl_cons rfl Sl_nil), H.pick [] (by decide)⟩
      · rintro _ ρ w576 H
        have hF := hK577
        refine WP_ifb (b := g575) rfl (fun c618 => ?_) (fun c618 => ?_)
        · have hF := iteB_t c618 hF
          refine WP_seq_k fun K619 hK619 => ?_
          refine WP_region ?_
          refine RL_do rfl rfl (Do_assign (v := .bool false) rfl) ?_
          refine (RL_nil (thenQ_n (hK619 _ _ ?_)))
          have hR := Option.some.inj hF
          subst hR
          refine (WP_ret (blockQ_r (thenQ_r (thenQ_r (blockQ_r (thenQ_r (post1 (v1 := .bool false) rfl rfl ?_)))))))
          exact ⟨rfl, H.pick [] (by decide)⟩
        · have hF := iteB_f c618 hF
          refine (WP_skip (blockQ_n (thenQ_n (hK531 _ _ ?_))))
          refine WP_region ?_
          refine RL_do rfl rfl (Do_move (v := .int .i64 g463) rfl) ?_
          obtain ⟨x620, e621, hF⟩ := letO_some hF
          refine RL_do rfl rfl (Do_add (a := g463) (b := 1) rfl rfl e621) ?_
          refine RL_do rfl rfl (Do_assign (v := .int .i64 x620) rfl) ?_
          refine (RL_nil (thenQ_n (And.intro ?_ ?_)))
          · repeat' (first | with_reducible exact Fr_refl | refine Fr_upd rfl ?_ | refine Fr_over rfl rfl ?_)
          · exact ⟨(n469, x620), (Sl_cons rfl Sl_nil), ⟨H.pick [] (by decide), hF⟩, Nat.lt_succ_self _⟩
    · have hF := iteB_f c482 hF
      refine (WP_exit (thenQ_x (thenQ_x (blockQ_eq (thenQ_n (And.intro ?_ ?_))))))
      · repeat' (first | with_reducible exact Fr_refl | refine Fr_upd rfl ?_ | refine Fr_over rfl rfl ?_)
      · exact ⟨(), Sl_nil, ⟨H.pick [] (by decide), hF⟩⟩
  · rintro _ ρ w234 ⟨H, hF⟩
    have hF := join_body ek236 hF
    obtain ⟨g637, hF, hK639⟩ := bindO_some hF
    refine WP_seqS [2, 37, 38, 39, 40, 41, 42, 43, 44, 45, 46, 47, 48] (fun (g : Unit) => [(2, .bool g637)]) (fun g wl => Hd O w wl S []) ?_ ?_
    · skip
      refine WP_region ?_
      refine RL_do rfl rfl (Do_move (v := .string (bs p0)) rfl) ?_
      obtain ⟨x640, e641, hF⟩ := letO_some hF
      refine RL_do rfl rfl (Do_as (Do_neqs (s1 := p0) (s2 := []) rfl rfl) (congrArg Value.bool e641)) ?_
      refine RL_splitb (b := x640) rfl rfl rfl (fun c642 => ?_) (fun c642 => ?_)
      · have hF := iteB_t c642 hF
        refine RL_do rfl rfl (Do_move (v := .string (bs p0)) rfl) ?_
        obtain ⟨x643, e644, hF⟩ := letO_some hF
        refine RL_do rfl rfl (Do_as (Do_slen (s1 := p0) u9 rfl) (congrArg (Value.int .i64) e644)) ?_
        obtain ⟨x645, e646, hF⟩ := letO_some hF
        refine RL_do rfl rfl (Do_as (Do_leq (a := x643) (b := 30) rfl rfl) (congrArg Value.bool e646)) ?_
        refine RL_do rfl rfl (Do_pick_t (v := .bool x645) rfl rfl) ?_
        refine RL_splitb (b := x645) rfl rfl rfl (fun c647 => ?_) (fun c647 => ?_)
        · have hF := iteB_t c647 hF
          refine RL_do rfl rfl (Do_move (v := .string (bs p0)) rfl) ?_
          have H648 := H
          obtain ⟨x649, e650, hF⟩ := bindO_some hF
          refine RL_call rfl rfl (DoC_func en55 rfl) (F_ref6_Reserved_w p0 _ e650 _ _ _ (H.enter [] [] (by decide) rfl)) ?_
          rintro _ w651 ⟨rfl, G652⟩
          have H := H648.step (G652.only : Only [] _ _)
          refine ⟨_, rfl, ?_⟩
          obtain ⟨x653, e654, hF⟩ := letO_some hF
          refine RL_do rfl rfl (Do_as (Do_not (p := x649) rfl) (congrArg Value.bool e654)) ?_
          refine RL_do rfl rfl (Do_pick_t (v := .bool x653) rfl rfl) ?_
          refine RL_do rfl rfl (Do_assign (v := .bool x653) rfl) ?_
          have hR := Option.some.inj hF
          subst hR
          refine (RL_nil (thenQ_n (And.intro ?_ ?_)))
          · repeat' (first | with_reducible exact Fr_refl | refine Fr_upd rfl ?_ | refine Fr_over rfl rfl ?_)
          · exact ⟨(), (Sl_cons rfl Sl_nil), H.pick [] (by decide)⟩
        · have hF := iteB_f c647 hF
          refine RL_off rfl rfl ?_
          refine RL_off rfl rfl ?_
          refine RL_off rfl rfl ?_
          refine RL_do rfl rfl (Do_pick_f (v := .bool false) rfl rfl) ?_
          refine RL_do rfl rfl (Do_assign (v := .bool false) rfl) ?_
          have hR := Option.some.inj hF
          subst hR
          refine (RL_nil (thenQ_n (And.intro ?_ ?_)))
          · repeat' (first | with_reducible exact Fr_refl | refine Fr_upd rfl ?_ | refine Fr_over rfl rfl ?_)
          · exact ⟨(), (Sl_cons rfl Sl_nil), H.pick [] (by decide)⟩
      · have hF := iteB_f c642 hF
        refine RL_off rfl rfl ?_
        refine RL_off rfl rfl ?_
        refine RL_off rfl rfl ?_
        refine RL_do rfl rfl (Do_pick_f (v := .bool false) rfl rfl) ?_
        refine RL_do rfl rfl (Do_move (v := .bool false) rfl) ?_
        refine RL_off rfl rfl ?_
        refine RL_off rfl rfl ?_
        refine RL_off rfl rfl ?_
        refine RL_do rfl rfl (Do_pick_f (v := .bool false) rfl rfl) ?_
        refine RL_do rfl rfl (Do_assign (v := .bool false) rfl) ?_
        have hR := Option.some.inj hF
        subst hR
        refine (RL_nil (thenQ_n (And.intro ?_ ?_)))
        · repeat' (first | with_reducible exact Fr_refl | refine Fr_upd rfl ?_ | refine Fr_over rfl rfl ?_)
        · exact ⟨(), (Sl_cons rfl Sl_nil), H.pick [] (by decide)⟩
    · rintro _ ρ w638 H
      have hF := hK639
      have hR := Option.some.inj hF
      subst hR
      refine (WP_ret (post1 (v1 := .bool g637) rfl rfl ?_))
      exact ⟨rfl, H.pick [] (by decide)⟩
end Go.Proofs.YtbjhondbheijiaaGreat.L
namespace Go.Proofs.YtbjhondbheijiaaGreat.L
open Go.RowKit Go.OB Go.Lf
/- orangebox/orangeboxref5.outside -/
set_option maxHeartbeats 4000000 in
theorem F_ref5_outside_w (p0 : Int) (p1 : Int) (p2 : Int) (r : Bool) (hF : F_ref5_outside p0 p1 p2 = some r) (O S : List Nat) (w : World) (H : Hd O w w S []) :
    Calls Tryz.prog 101 ([.int .i64 p0, .int .i64 p1, .int .i64 p2] : List Value).toArray w fun e w' => e = .returned (.bool r) ∧ Hd O w w' S [] := by
  unfold F_ref5_outside at hF
  refine calls_of_WP 15 Tryz.func101 rfl rfl rfl ?_
  refine WP_seq_k fun K1 hK1 => ?_
  refine WP_region ?_
  refine RL_do rfl rfl (Do_assign (v := .bool false) rfl) ?_
  refine (RL_nil (thenQ_n (hK1 _ _ ?_)))
  obtain ⟨g7, hF, hK9⟩ := bindO_some hF
  refine WP_seqS [6, 7, 8, 9, 10, 11, 12, 13, 14] (fun (g : Unit) => [(6, .bool g7)]) (fun g wl => Hd O w wl S []) ?_ ?_
  · skip
    refine WP_region ?_
    refine RL_do rfl rfl (Do_move (v := .int .i64 p0) rfl) ?_
    refine RL_do rfl rfl (Do_move (v := .int .i64 p1) rfl) ?_
    obtain ⟨x10, e11, hF⟩ := letO_some hF
    refine RL_do rfl rfl (Do_as (Do_lss (a := p0) (b := p1) rfl rfl) (congrArg Value.bool e11)) ?_
    refine RL_splitb (b := x10) rfl rfl rfl (fun c12 => ?_) (fun c12 => ?_)
    · have hF := iteB_t c12 hF
      refine RL_off rfl rfl ?_
      refine RL_off rfl rfl ?_
      refine RL_off rfl rfl ?_
      refine RL_do rfl rfl (Do_pick_t (v := .bool true) rfl rfl) ?_
      refine RL_do rfl rfl (Do_assign (v := .bool true) rfl) ?_
      have hR := Option.some.inj hF
      subst hR
      refine (RL_nil (thenQ_n (And.intro ?_ ?_)))
      · repeat' (first | with_reducible exact Fr_refl | refine Fr_upd rfl ?_ | refine Fr_over rfl rfl ?_)
      · exact ⟨(), (Sl_cons rfl Sl_nil), H.pick [] (by decide)⟩
    · have hF := iteB_f c12 hF
      refine RL_do rfl rfl (Do_move (v := .int .i64 p0) rfl) ?_
      refine RL_do rfl rfl (Do_move (v := .int .i64 p2) rfl) ?_
      obtain ⟨x13, e14, hF⟩ := letO_some hF
      refine RL_do rfl rfl (Do_as (Do_gtr (a := p0) (b := p2) rfl rfl) (congrArg Value.bool e14)) ?_
      refine RL_do rfl rfl (Do_pick_f (v := .bool x13) rfl rfl) ?_
      refine RL_do rfl rfl (Do_assign (v := .bool x13) rfl) ?_
      have hR := Option.some.inj hF
      subst hR
      refine (RL_nil (thenQ_n (And.intro ?_ ?_)))
      · repeat' (first | with_reducible exact Fr_refl | refine Fr_upd rfl ?_ | refine Fr_over rfl rfl ?_)
      · exact ⟨(), (Sl_cons rfl Sl_nil), H.pick [] (by decide)⟩
  · rintro _ ρ w8 H
    have hF := hK9
    have hR := Option.some.inj hF
    subst hR
    refine (WP_ret (post1 (v1 := .bool g7) rfl rfl ?_))
    exact ⟨rfl, H.pick [] (by decide)⟩
end Go.Proofs.YtbjhondbheijiaaGreat.L
namespace Go.Proofs.YtbjhondbheijiaaGreat.L
open Go.RowKit Go.OB Go.Lf
/- orangebox/orangeboxref5.numbered -/
set_option maxHeartbeats 4000000 in
theorem F_ref5_numbered_w (p0 : Int) (r : Bool) (hF : F_ref5_numbered p0 = some r) (O S : List Nat) (w : World) (H : Hd O w w S []) :
    Calls Tryz.prog 103 ([.int .i64 p0] : List Value).toArray w fun e w' => e = .returned (.bool r) ∧ Hd O w w' S [] := by
  unfold F_ref5_numbered at hF
  refine calls_of_WP 5 Tryz.func103 rfl rfl rfl ?_
  refine WP_seq_k fun K1 hK1 => ?_
  refine WP_region ?_
  refine RL_do rfl rfl (Do_assign (v := .bool false) rfl) ?_
  refine (RL_nil (thenQ_n (hK1 _ _ ?_)))
  refine WP_seq_k fun K2 hK2 => ?_
  refine WP_region ?_
  refine RL_do rfl rfl (Do_move (v := .int .i64 p0) rfl) ?_
  obtain ⟨x3, e4, hF⟩ := letO_some hF
  refine RL_do rfl rfl (Do_as (Do_geq (a := p0) (b := 2) rfl rfl) (congrArg Value.bool e4)) ?_
  refine RL_do rfl rfl (Do_assign (v := .bool x3) rfl) ?_
  refine (RL_nil (thenQ_n (hK2 _ _ ?_)))
  have hR := Option.some.inj hF
  subst hR
  refine (WP_ret (post1 (v1 := .bool x3) rfl rfl ?_))
  exact ⟨rfl, H.pick [] (by decide)⟩
end Go.Proofs.YtbjhondbheijiaaGreat.L
namespace Go.Proofs.YtbjhondbheijiaaGreat.L
open Go.RowKit Go.OB Go.Lf
/- orangebox/orangeboxref5.sampleFault -/
set_option maxHeartbeats 4000000 in
theorem F_ref5_sampleFault_w (p0 : Sample) (r : Int) (hF : F_ref5_sampleFault p0 = some r) (O S : List Nat) (w : World) (H : Hd O w w S []) :
    Calls Tryz.prog 102 ([.agg [.int .i64 p0.At, .int .i64 p0.N, .int .i64 p0.Mark].toArray] : List Value).toArray w fun e w' => e = .returned (.int .i64 r) ∧ Hd O w w' S [] := by
  unfold F_ref5_sampleFault at hF
  refine calls_of_WP 25 Tryz.func102 rfl rfl rfl ?_
  refine WP_seq_k fun K1 hK1 => ?_
  refine WP_region ?_
  refine RL_ex rfl rfl (Lx_box (cs := [.int .i64 p0.At, .int .i64 p0.N, .int .i64 p0.Mark]) rfl H) ?_
  rintro _ w4 ⟨b2, rfl, H⟩
  refine RL_do rfl rfl (Do_assign (v := .int .i64 0) rfl) ?_
  refine (RL_nil (thenQ_n (hK1 _ _ ?_)))
  refine WP_seq_k fun K27 hK27 => ?_
  obtain ⟨g45, hF, hK47⟩ := bindO_some hF
  refine WP_seqS [3, 4, 5, 6, 7, 8, 9, 10, 11, 12, 13, 14, 15] (fun (g : Unit) => [(15, .bool g45)]) (fun g wl => Hd O w wl S [.blk b2 [.int .i64 p0.At, .int .i64 p0.N, .int .i64 p0.Mark] 97]) ?_ ?_
  · skip
    refine WP_region ?_
    refine RL_do rfl rfl (fa97_0 rfl) ?_
    refine RL_do rfl rfl (Do_load one3 rfl (Cells.get (Blk.cells (H.item (i := 0) rfl)) (i := 0) rfl)) ?_
    have H48 := H
    obtain ⟨x49, e50, hF⟩ := bindO_some hF
    refine RL_call rfl rfl (DoC_func en101 rfl) (F_ref5_outside_w p0.At 0 1099511627776 _ e50 _ _ _ (H.enter [] [] (by decide) rfl)) ?_
    rintro _ w51 ⟨rfl, G52⟩
    have H := H48.step (G52.only : Only [] _ _)
    refine ⟨_, rfl, ?_⟩
    refine RL_splitb (b := x49) rfl rfl rfl (fun c53 => ?_) (fun c53 => ?_)
    · have hF := iteB_t c53 hF
      refine RL_off rfl rfl ?_
      refine RL_off rfl rfl ?_
      refine RL_off rfl rfl ?_
      refine RL_do rfl rfl (Do_pick_t (v := .bool true) rfl rfl) ?_
      refine RL_do rfl rfl (Do_move (v := .bool true) rfl) ?_
      refine RL_off rfl rfl ?_
      refine RL_off rfl rfl ?_
      refine RL_off rfl rfl ?_
      refine RL_do rfl rfl (Do_pick_t (v := .bool true) rfl rfl) ?_
      have hR := Option.some.inj hF
      subst hR
      refine (RL_nil (thenQ_n (And.intro ?_ ?_)))
      · repeat' (first | with_reducible exact Fr_refl | refine Fr_upd rfl ?_ | refine Fr_over rfl rfl ?_)
      · exact ⟨(), (Sl_cons rfl Sl_nil), H.pick [0] (by decide)⟩
    · have hF := iteB_f c53 hF
      refine RL_do rfl rfl (fa97_1 rfl) ?_
      refine RL_do rfl rfl (Do_load one3 rfl (Cells.get (Blk.cells (H.item (i := 0) rfl)) (i := 1) rfl)) ?_
      have H54 := H
      obtain ⟨x55, e56, hF⟩ := bindO_some hF
      refine RL_call rfl rfl (DoC_func en101 rfl) (F_ref5_outside_w p0.N (-1125899906842624) 1125899906842624 _ e56 _ _ _ (H.enter [] [] (by decide) rfl)) ?_
      rintro _ w57 ⟨rfl, G58⟩
      have H := H54.step (G58.only : Only [] _ _)
      refine ⟨_, rfl, ?_⟩
      refine RL_do rfl rfl (Do_pick_f (v := .bool x55) rfl rfl) ?_
      refine RL_splitb (b := x55) rfl rfl rfl (fun c59 => ?_) (fun c59 => ?_)
      · have hF := iteB_t c59 hF
        refine RL_off rfl rfl ?_
        refine RL_off rfl rfl ?_
        refine RL_off rfl rfl ?_
        refine RL_do rfl rfl (Do_pick_t (v := .bool true) rfl rfl) ?_
        have hR := Option.some.inj hF
        subst hR
        refine (RL_nil (thenQ_n (And.intro ?_ ?_)))
        · repeat' (first | with_reducible exact Fr_refl | refine Fr_upd rfl ?_ | refine Fr_over rfl rfl ?_)
        · exact ⟨(), (Sl_cons rfl Sl_nil), H.pick [0] (by decide)⟩
      · have hF := iteB_f c59 hF
        refine RL_do rfl rfl (fa97_2 rfl) ?_
        refine RL_do rfl rfl (Do_load one3 rfl (Cells.get (Blk.cells (H.item (i := 0) rfl)) (i := 2) rfl)) ?_
        have H60 := H
        obtain ⟨x61, e62, hF⟩ := bindO_some hF
        refine RL_call rfl rfl (DoC_func en101 rfl) (F_ref5_outside_w p0.Mark 0 4 _ e62 _ _ _ (H.enter [] [] (by decide) rfl)) ?_
        rintro _ w63 ⟨rfl, G64⟩
        have H := H60.step (G64.only : Only [] _ _)
        refine ⟨_, rfl, ?_⟩
        refine RL_do rfl rfl (Do_pick_f (v := .bool x61) rfl rfl) ?_
        have hR := Option.some.inj hF
        subst hR
        refine (RL_nil (thenQ_n (And.intro ?_ ?_)))
        · repeat' (first | with_reducible exact Fr_refl | refine Fr_upd rfl ?_ | refine Fr_over rfl rfl ?_)
        · exact ⟨(), (Sl_cons rfl Sl_nil), H.pick [0] (by decide)⟩
  · rintro _ ρ w46 H
    have hF := hK47
    refine WP_ifb (b := g45) rfl (fun c65 => ?_) (fun c65 => ?_)
    · have hF := iteB_t c65 hF
      refine WP_seq_k fun K66 hK66 => ?_
      refine WP_region ?_
      refine RL_do rfl rfl (Do_assign (v := .int .i64 9) rfl) ?_
      refine (RL_nil (thenQ_n (hK66 _ _ ?_)))
      have hR := Option.some.inj hF
      subst hR
      refine (WP_ret (thenQ_r (post1 (v1 := .int .i64 9) rfl rfl ?_)))
      exact ⟨rfl, H.pick [] (by decide)⟩
    · have hF := iteB_f c65 hF
      refine (WP_skip (thenQ_n (hK27 _ _ ?_)))
      refine WP_seq_k fun K82 hK82 => ?_
      obtain ⟨g93, hF, hK95⟩ := bindO_some hF
      refine WP_seqS [16, 17, 18, 19, 20, 21, 22, 23, 24] (fun (g : Unit) => [(24, .bool g93)]) (fun g wl => Hd O w wl S []) ?_ ?_
      · skip
        refine WP_region ?_
        refine RL_do rfl rfl (fa97_1 rfl) ?_
        refine RL_do rfl rfl (Do_load one3 rfl (Cells.get (Blk.cells (H.item (i := 0) rfl)) (i := 1) rfl)) ?_
        obtain ⟨x96, e97, hF⟩ := letO_some hF
        refine RL_do rfl rfl (Do_as (Do_neq (a := p0.N) (b := 0) rfl rfl) (congrArg Value.bool e97)) ?_
        refine RL_splitb (b := x96) rfl rfl rfl (fun c98 => ?_) (fun c98 => ?_)
        · have hF := iteB_t c98 hF
          refine RL_do rfl rfl (fa97_2 rfl) ?_
          refine RL_do rfl rfl (Do_load one3 rfl (Cells.get (Blk.cells (H.item (i := 0) rfl)) (i := 2) rfl)) ?_
          have H99 := H
          obtain ⟨x100, e101, hF⟩ := bindO_some hF
          refine RL_call rfl rfl (DoC_func en103 rfl) (F_ref5_numbered_w p0.Mark _ e101 _ _ _ (H.enter [] [] (by decide) rfl)) ?_
          rintro _ w102 ⟨rfl, G103⟩
          have H := H99.step (G103.only : Only [] _ _)
          refine ⟨_, rfl, ?_⟩
          obtain ⟨x104, e105, hF⟩ := letO_some hF
          refine RL_do rfl rfl (Do_as (Do_not (p := x100) rfl) (congrArg Value.bool e105)) ?_
          refine RL_do rfl rfl (Do_pick_t (v := .bool x104) rfl rfl) ?_
          have hR := Option.some.inj hF
          subst hR
          refine (RL_nil (thenQ_n (And.intro ?_ ?_)))
          · repeat' (first | with_reducible exact Fr_refl | refine Fr_upd rfl ?_ | refine Fr_over rfl rfl ?_)
          · exact ⟨(), (Sl_cons rfl Sl_nil), H.pick [] (by decide)⟩
        · have hF := iteB_f c98 hF
          refine RL_off rfl rfl ?_
          refine RL_off rfl rfl ?_
          refine RL_off rfl rfl ?_
          refine RL_off rfl rfl ?_
          refine RL_do rfl rfl (Do_pick_f (v := .bool false) rfl rfl) ?_
          have hR := Option.some.inj hF
          subst hR
          refine (RL_nil (thenQ_n (And.intro ?_ ?_)))
          · repeat' (first | with_reducible exact Fr_refl | refine Fr_upd rfl ?_ | refine Fr_over rfl rfl ?_)
          · exact ⟨(), (Sl_cons rfl Sl_nil), H.pick [] (by decide)⟩
      · rintro _ ρ w94 H
        have hF := hK95
        refine WP_ifb (b := g93) rfl (fun c106 => ?_) (fun c106 => ?_)
        · have hF := iteB_t c106 hF
          refine WP_seq_k fun K107 hK107 => ?_
          refine WP_region ?_
          refine RL_do rfl rfl (Do_assign (v := .int .i64 2) rfl) ?_
          refine (RL_nil (thenQ_n (hK107 _ _ ?_)))
          have hR := Option.some.inj hF
          subst hR
          refine (WP_ret (thenQ_r (post1 (v1 := .int .i64 2) rfl rfl ?_)))
          exact ⟨rfl, H.pick [] (by decide)⟩
        · have hF := iteB_f c106 hF
          refine (WP_skip (thenQ_n (hK82 _ _ ?_)))
          refine WP_seq_k fun K108 hK108 => ?_
          refine WP_region ?_
          refine RL_do rfl rfl (Do_assign (v := .int .i64 0) rfl) ?_
          refine (RL_nil (thenQ_n (hK108 _ _ ?_)))
          have hR := Option.some.inj hF
          subst hR
          refine (WP_ret (post1 (v1 := .int .i64 0) rfl rfl ?_))
          exact ⟨rfl, H.pick [] (by decide)⟩
end Go.Proofs.YtbjhondbheijiaaGreat.L
namespace Go.Proofs.YtbjhondbheijiaaGreat.L
open Go.RowKit Go.OB Go.Lf
/- orangebox/orangeboxref5.fault -/
set_option maxHeartbeats 4000000 in
theorem F_ref5_fault_w (p0 : Series) (v1 : Value) (r : Int × Int) (hF : F_ref5_fault p0 = some r) (O S : List Nat) (w : World) (H : Hd O w w S [.fz (.sl rSample v1 p0.Samples)]) :
    Calls Tryz.prog 99 ([.agg [.int .i64 p0.Den, v1].toArray] : List Value).toArray w fun e w' => e = .returned (.tuple #[.int .i64 r.1, .int .i64 r.2]) ∧ Hd O w w' S [] := by
  unfold F_ref5_fault at hF
  refine calls_of_WP 49 Tryz.func99 rfl rfl rfl ?_
  refine WP_seq_k fun K3 hK3 => ?_
  refine WP_region ?_
  refine RL_ex rfl rfl (Lx_box (cs := [.int .i64 p0.Den, v1]) rfl H) ?_
  rintro _ w6 ⟨b4, rfl, H⟩
  refine RL_do rfl rfl (Do_assign (v := .int .i64 0) rfl) ?_
  refine RL_do rfl rfl (Do_assign (v := .int .i64 0) rfl) ?_
  refine (RL_nil (thenQ_n (hK3 _ _ ?_)))
  refine WP_seq_k fun K15 hK15 => ?_
  refine WP_seq_k fun K16 hK16 => ?_
  refine WP_region ?_
  refine RL_do rfl rfl (fa72_0 rfl) ?_
  refine RL_do rfl rfl (Do_load one3 rfl (Cells.get (Blk.cells (H.item (i := 1) rfl)) (i := 0) rfl)) ?_
  have H17 := H
  obtain ⟨x18, e19, hF⟩ := bindO_some hF
  refine RL_call rfl rfl (DoC_func en101 rfl) (F_ref5_outside_w p0.Den 1 1000000 _ e19 _ _ _ (H.enter [] [] (by decide) rfl)) ?_
  rintro _ w20 ⟨rfl, G21⟩
  have H := H17.step (G21.only : Only [] _ _)
  refine ⟨_, rfl, ?_⟩
  refine (RL_nil (thenQ_n (hK16 _ _ ?_)))
  refine WP_ifb (b := x18) rfl (fun c22 => ?_) (fun c22 => ?_)
  · have hF := iteB_t c22 hF
    refine WP_seq_k fun K23 hK23 => ?_
    refine WP_region ?_
    refine RL_do rfl rfl (Do_assign (v := .int .i64 (-1)) rfl) ?_
    refine RL_do rfl rfl (Do_assign (v := .int .i64 9) rfl) ?_
    refine (RL_nil (thenQ_n (hK23 _ _ ?_)))
    have hR := Option.some.inj hF
    subst hR
    refine (WP_ret (thenQ_r (post2 (v1 := .int .i64 (-1)) (v2 := .int .i64 9) rfl rfl rfl ?_)))
    exact ⟨rfl, H.pick [] (by decide)⟩
  · have hF := iteB_f c22 hF
    refine (WP_skip (thenQ_n (hK15 _ _ ?_)))
    refine WP_seq_k fun K34 hK34 => ?_
    refine WP_seq_k fun K35 hK35 => ?_
    refine WP_region ?_
    refine RL_do rfl rfl (fa72_1 rfl) ?_
    refine RL_do rfl rfl (Do_load one70 rfl (Cells.get (Blk.cells (H.item (i := 1) rfl)) (i := 1) rfl)) ?_
    obtain ⟨x36, e37, hF⟩ := letO_some hF
    obtain ⟨a38, c39, q40⟩ := SlF.len ((H.item (i := 0) rfl))
    refine RL_do rfl rfl (Do_as (Do_len u70 q40) (congrArg (Value.int .i64) e37)) ?_
    obtain ⟨x41, e42, hF⟩ := letO_some hF
    refine RL_do rfl rfl (Do_as (Do_gtr (a := x36) (b := 20000) rfl rfl) (congrArg Value.bool e42)) ?_
    refine (RL_nil (thenQ_n (hK35 _ _ ?_)))
    refine WP_ifb (b := x41) rfl (fun c43 => ?_) (fun c43 => ?_)
    · have hF := iteB_t c43 hF
      refine WP_seq_k fun K44 hK44 => ?_
      refine WP_region ?_
      refine RL_do rfl rfl (Do_assign (v := .int .i64 (-1)) rfl) ?_
      refine RL_do rfl rfl (Do_assign (v := .int .i64 3) rfl) ?_
      refine (RL_nil (thenQ_n (hK44 _ _ ?_)))
      have hR := Option.some.inj hF
      subst hR
      refine (WP_ret (thenQ_r (post2 (v1 := .int .i64 (-1)) (v2 := .int .i64 3) rfl rfl rfl ?_)))
      exact ⟨rfl, H.pick [] (by decide)⟩
    · have hF := iteB_f c43 hF
      refine (WP_skip (thenQ_n (hK34 _ _ ?_)))
      obtain ⟨k446, ek447, hF⟩ := joinO_some hF
      refine WP_seqS [2, 3, 4, 5, 13, 14, 15, 16, 17, 18, 19, 20, 21, 22, 23, 24, 25, 26, 27, 28, 29, 30, 31, 32, 33, 34, 35, 36, 37, 38, 39, 40, 41, 42, 43, 44, 45, 46, 47, 48] (fun (g : Unit) => []) (fun g wl => Hd O w wl S [] ∧ k446 () = some r) ?_ ?_
      · skip
        refine WP_seq_k fun K448 hK448 => ?_
        refine WP_region ?_
        refine RL_do rfl rfl (Do_assign (v := .int .i64 0) rfl) ?_
        refine (RL_nil (thenQ_n (hK448 _ _ ?_)))
        refine WP_block ?_
        unfold F_ref5_fault_L1 at hF
        obtain ⟨B843, n844, eB845, hF⟩ := loopO_some hF
        refine WP_loopS [2, 3, 4, 5, 13, 14, 15, 16, 17, 18, 19, 20, 21, 22, 23, 24, 25, 26, 27, 28, 29, 30, 31, 32, 33, 34, 35, 36, 37, 38, 39, 40, 41, 42, 43, 44, 45, 46, 47, 48] (fun (g : Nat × Int) => [(4, .int .i64 g.2)]) (fun g wl => Hd O w wl S [.blk b4 [.int .i64 p0.Den, v1] 72, .fz (.sl rSample v1 p0.Samples)] ∧ loopN B843 g.1 g.2 = some r) (fun g => g.1) (n844, 0) (Sl_cons rfl Sl_nil) ⟨H.pick [1, 0] (by decide), hF⟩ ?_
        clear H hF
        rintro ⟨n844, g842⟩ ρ w847 ⟨H, hF⟩
        obtain ⟨n848, rfl, hF⟩ := loopN_pos hF
        have hF := loop_body eB845 hF
        refine WP_seq_k fun K858 hK858 => ?_
        refine WP_seq_k fun K859 hK859 => ?_
        refine WP_region ?_
        refine RL_do rfl rfl (Do_move (v := .int .i64 g842) rfl) ?_
        refine RL_do rfl rfl (fa72_1 rfl) ?_
        refine RL_do rfl rfl (Do_load one70 rfl (Cells.get (Blk.cells (H.item (i := 0) rfl)) (i := 1) rfl)) ?_
        obtain ⟨x860, e861, hF⟩ := letO_some hF
        obtain ⟨a862, c863, q864⟩ := SlF.len ((H.item (i := 1) rfl))
        refine RL_do rfl rfl (Do_as (Do_len u70 q864) (congrArg (Value.int .i64) e861)) ?_
        obtain ⟨x865, e866, hF⟩ := letO_some hF
        refine RL_do rfl rfl (Do_as (Do_lss (a := g842) (b := x860) rfl rfl) (congrArg Value.bool e866)) ?_
        refine (RL_nil (thenQ_n (hK859 _ _ ?_)))
        refine WP_ifb (b := x865) rfl (fun c867 => ?_) (fun c867 => ?_)
        · have hF := iteB_t c867 hF
          refine (WP_skip (thenQ_n (hK858 _ _ ?_)))
          refine WP_seq_k fun K955 hK955 => ?_
          refine WP_block ?_
          refine WP_seq_k fun K979 hK979 => ?_
          refine WP_seq_k fun K980 hK980 => ?_
          refine WP_region ?_
          refine RL_do rfl rfl (fa72_1 rfl) ?_
          refine RL_do rfl rfl (Do_load one70 rfl (Cells.get (Blk.cells (H.item (i := 0) rfl)) (i := 1) rfl)) ?_
          refine RL_do rfl rfl (Do_move (v := .int .i64 g842) rfl) ?_
          obtain ⟨x981, e982, hF⟩ := bindO_some hF
          obtain ⟨b983, o984, c985, cs986, q987, h990, h988, h989, h991⟩ := rd_at (H.item (i := 1) rfl) e982
          obtain rfl := rSample_open h990
          have H := H.fz (.at b983 (o984 + g842.toNat * 3) _) ⟨h988, h989, h991⟩
          refine RL_do rfl rfl (Do_idx u70 sz97 q987 rfl (at_some e982).1 (at_some e982).2.1 rfl rfl) ?_
          refine RL_do rfl rfl (Do_as (Do_loads (cs := [.int .i64 x981.At, .int .i64 x981.N, .int .i64 x981.Mark]) agg97 rfl sz97 rfl (H.item (i := 2) rfl).2.2) rfl) ?_
          have H993 := H
          obtain ⟨x994, e995, hF⟩ := bindO_some hF
          refine RL_call rfl rfl (DoC_func en102 rfl) (F_ref5_sampleFault_w x981 _ e995 _ _ _ (H.enter [] [] (by decide) rfl)) ?_
          rintro _ w996 ⟨rfl, G997⟩
          have H := H993.step (G997.only : Only [] _ _)
          refine ⟨_, rfl, ?_⟩
          refine RL_do rfl rfl (Do_assign (v := .int .i64 x994) rfl) ?_
          refine (RL_nil (thenQ_n (hK980 _ _ ?_)))
          refine WP_seq_k fun K998 hK998 => ?_
          refine WP_region ?_
          refine RL_do rfl rfl (Do_move (v := .int .i64 x994) rfl) ?_
          obtain ⟨x999, e1000, hF⟩ := letO_some hF
          refine RL_do rfl rfl (Do_as (Do_neq (a := x994) (b := 0) rfl rfl) (congrArg Value.bool e1000)) ?_
          refine (RL_nil (thenQ_n (hK998 _ _ ?_)))
          refine WP_ifb (b := x999) rfl (fun c1001 => ?_) (fun c1001 => ?_)
          · have hF := iteB_t c1001 hF
            refine WP_seq_k fun K1002 hK1002 => ?_
            refine WP_region ?_
            refine RL_do rfl rfl (Do_move (v := .int .i64 g842) rfl) ?_
            refine RL_do rfl rfl (Do_move (v := .int .i64 x994) rfl) ?_
            refine RL_do rfl rfl (Do_assign (v := .int .i64 g842) rfl) ?_
            refine RL_do rfl rfl (Do_assign (v := .int .i64 x994) rfl) ?_
            refine (RL_nil (thenQ_n (hK1002 _ _ ?_)))
            have hR := Option.some.inj hF
            subst hR
            refine (WP_ret (thenQ_r (blockQ_r (thenQ_r (thenQ_r (blockQ_r (thenQ_r (post2 (v1 := .int .i64 g842) (v2 := .int .i64 x994) rfl rfl rfl ?_))))))))
            exact ⟨rfl, H.pick [] (by decide)⟩
          · have hF := iteB_f c1001 hF
            refine (WP_skip (thenQ_n (hK979 _ _ ?_)))
            obtain ⟨g1038, hF, hK1040⟩ := bindO_some hF
            refine WP_seqS [30, 31, 32, 33, 34, 35, 36, 37, 38, 39, 40, 41, 42, 43, 44, 45, 46, 47] (fun (g : Unit) => [(47, .bool g1038)]) (fun g wl => Hd O w wl S [.blk b4 [.int .i64 p0.Den, v1] 72, .fz (.sl rSample v1 p0.Samples)]) ?_ ?_
            · skip
              have H1041 := H
              have H := H.rebase
              have H1042 := H
              refine WP_mix0 H [0, 1, 2, 3, 4, 5, 6, 7, 8, 9, 10, 11, 12, 13, 14, 15, 16, 17] [.pure, .pure, .pure, .pure, .read, .pure, .pure, .pure, .read, .pure, .read, .pure, .pure, .pure, .pure, .read, .pure, .pure] mixed (by kernel_rfl) (by kernel_rfl) (by kernel_rfl) rfl ?_
              refine Mx.XL_pure rfl rfl rfl (fun w' hw' => Do_move (v := .int .i64 g842) rfl) ?_
              obtain ⟨x1043, e1044, hF⟩ := letO_some hF
              refine Mx.XL_pure rfl rfl rfl (fun w' hw' => Do_as (Do_gtr (a := g842) (b := 0) rfl rfl) (congrArg Value.bool e1044)) ?_
              refine Mx.XL_splitb (b := x1043) rfl rfl rfl rfl (fun c1045 => ?_) (fun c1045 => ?_)
              · have hF := iteB_t c1045 hF
                refine Mx.XL_pure rfl rfl rfl (fun w' hw' => fa72_1 rfl) ?_
                refine Mx.XL_read oS rfl rfl rfl (fun w' hw' => Do_load one70 rfl (Cells.get (Blk.cells ((H.sees hw').item (i := 0) rfl)) (i := 1) rfl)) ?_
                refine Mx.XL_pure rfl rfl rfl (fun w' hw' => Do_move (v := .int .i64 g842) rfl) ?_
                obtain ⟨x1046, e1047, hF⟩ := bindO_some hF
                obtain ⟨b1048, o1049, c1050, cs1051, q1052, h1055, h1053, h1054, h1056⟩ := rd_at (H.item (i := 1) rfl) e1047
                obtain rfl := rSample_open h1055
                have H := H.fz (.at b1048 (o1049 + g842.toNat * 3) _) ⟨h1053, h1054, h1056⟩
                refine Mx.XL_pure rfl rfl rfl (fun w' hw' => Do_idx u70 sz97 q1052 rfl (at_some e1047).1 (at_some e1047).2.1 rfl rfl) ?_
                refine Mx.XL_pure rfl rfl rfl (fun w' hw' => fa97_0 rfl) ?_
                refine Mx.XL_read oS rfl rfl rfl (fun w' hw' => Do_load one3 rfl (Cells.get ((H.sees hw').item (i := 3) rfl).2.2 (i := 0) rfl)) ?_
                refine Mx.XL_pure rfl rfl rfl (fun w' hw' => fa72_1 rfl) ?_
                refine Mx.XL_read oS rfl rfl rfl (fun w' hw' => Do_load one70 rfl (Cells.get (Blk.cells ((H.sees hw').item (i := 0) rfl)) (i := 1) rfl)) ?_
                refine Mx.XL_pure rfl rfl rfl (fun w' hw' => Do_move (v := .int .i64 g842) rfl) ?_
                obtain ⟨x1058, e1059, hF⟩ := letO_some hF
                refine Mx.XL_pure rfl rfl rfl (fun w' hw' => Do_sub (a := g842) (b := 1) rfl rfl e1059) ?_
                obtain ⟨x1060, e1061, hF⟩ := bindO_some hF
                obtain ⟨b1062, o1063, c1064, cs1065, q1066, h1069, h1067, h1068, h1070⟩ := rd_at (H.item (i := 1) rfl) e1061
                obtain rfl := rSample_open h1069
                have H := H.fz (.at b1062 (o1063 + x1058.toNat * 3) _) ⟨h1067, h1068, h1070⟩
                refine Mx.XL_pure rfl rfl rfl (fun w' hw' => Do_idx u70 sz97 q1066 rfl (at_some e1061).1 (at_some e1061).2.1 rfl rfl) ?_
                refine Mx.XL_pure rfl rfl rfl (fun w' hw' => fa97_0 rfl) ?_
                refine Mx.XL_read oS rfl rfl rfl (fun w' hw' => Do_load one3 rfl (Cells.get ((H.sees hw').item (i := 4) rfl).2.2 (i := 0) rfl)) ?_
                obtain ⟨x1072, e1073, hF⟩ := letO_some hF
                refine Mx.XL_pure rfl rfl rfl (fun w' hw' => Do_as (Do_leq (a := x1046.At) (b := x1060.At) rfl rfl) (congrArg Value.bool e1073)) ?_
                refine Mx.XL_pure rfl rfl rfl (fun w' hw' => Do_pick_t (v := .bool x1072) rfl rfl) ?_
                refine Mx.XL_nil fun w1074 hS => ?_
                have H := H.sees hS
                have H := H1041.rejoin H
                have hR := Option.some.inj hF
                subst hR
                refine (thenQ_n (And.intro ?_ ?_))
                · repeat' (first | with_reducible exact Fr_refl | refine Fr_upd rfl ?_ | refine Fr_over rfl rfl ?_)
                · exact ⟨(), (Sl_cons rfl Sl_nil), H.pick [0, 1] (by decide)⟩
              · have hF := iteB_f c1045 hF
                refine Mx.XL_offp rfl rfl rfl ?_
                refine Mx.XL_offr oS rfl rfl rfl ?_
                refine Mx.XL_offp rfl rfl rfl ?_
                refine Mx.XL_offp rfl rfl rfl ?_
                refine Mx.XL_offp rfl rfl rfl ?_
                refine Mx.XL_offr oS rfl rfl rfl ?_
                refine Mx.XL_offp rfl rfl rfl ?_
                refine Mx.XL_offr oS rfl rfl rfl ?_
                refine Mx.XL_offp rfl rfl rfl ?_
                refine Mx.XL_offp rfl rfl rfl ?_
                refine Mx.XL_offp rfl rfl rfl ?_
                refine Mx.XL_offp rfl rfl rfl ?_
                refine Mx.XL_offr oS rfl rfl rfl ?_
                refine Mx.XL_offp rfl rfl rfl ?_
                refine Mx.XL_pure rfl rfl rfl (fun w' hw' => Do_pick_f (v := .bool false) rfl rfl) ?_
                refine Mx.XL_nil fun w1075 hS => ?_
                have H := H.sees hS
                have H := H1041.rejoin H
                have hR := Option.some.inj hF
                subst hR
                refine (thenQ_n (And.intro ?_ ?_))
                · repeat' (first | with_reducible exact Fr_refl | refine Fr_upd rfl ?_ | refine Fr_over rfl rfl ?_)
                · exact ⟨(), (Sl_cons rfl Sl_nil), H.pick [0, 1] (by decide)⟩
            · rintro _ ρ w1039 H
              have hF := hK1040
              refine WP_ifb (b := g1038) rfl (fun c1076 => ?_) (fun c1076 => ?_)
              · have hF := iteB_t c1076 hF
                refine WP_seq_k fun K1077 hK1077 => ?_
                refine WP_region ?_
                refine RL_do rfl rfl (Do_move (v := .int .i64 g842) rfl) ?_
                refine RL_do rfl rfl (Do_assign (v := .int .i64 g842) rfl) ?_
                refine RL_do rfl rfl (Do_assign (v := .int .i64 10) rfl) ?_
                refine (RL_nil (thenQ_n (hK1077 _ _ ?_)))
                have hR := Option.some.inj hF
                subst hR
                refine (WP_ret (blockQ_r (thenQ_r (thenQ_r (blockQ_r (thenQ_r (post2 (v1 := .int .i64 g842) (v2 := .int .i64 10) rfl rfl rfl ?_)))))))
                exact ⟨rfl, H.pick [] (by decide)⟩
              · have hF := iteB_f c1076 hF
                refine (WP_skip (blockQ_n (thenQ_n (hK955 _ _ ?_))))
                refine WP_region ?_
                refine RL_do rfl rfl (Do_move (v := .int .i64 g842) rfl) ?_
                obtain ⟨x1078, e1079, hF⟩ := letO_some hF
                refine RL_do rfl rfl (Do_add (a := g842) (b := 1) rfl rfl e1079) ?_
                refine RL_do rfl rfl (Do_assign (v := .int .i64 x1078) rfl) ?_
                refine (RL_nil (thenQ_n (And.intro ?_ ?_)))
                · repeat' (first | with_reducible exact Fr_refl | refine Fr_upd rfl ?_ | refine Fr_over rfl rfl ?_)
                · exact ⟨(n848, x1078), (Sl_cons rfl Sl_nil), ⟨H.pick [0, 1] (by decide), hF⟩, Nat.lt_succ_self _⟩
        · have hF := iteB_f c867 hF
          refine (WP_exit (thenQ_x (thenQ_x (blockQ_eq (thenQ_n (And.intro ?_ ?_))))))
          · repeat' (first | with_reducible exact Fr_refl | refine Fr_upd rfl ?_ | refine Fr_over rfl rfl ?_)
          · exact ⟨(), Sl_nil, ⟨H.pick [] (by decide), hF⟩⟩
      · rintro _ ρ w445 ⟨H, hF⟩
        have hF := join_body ek447 hF
        refine WP_seq_k fun K1080 hK1080 => ?_
        refine WP_region ?_
        refine RL_do rfl rfl (Do_assign (v := .int .i64 (-1)) rfl) ?_
        refine RL_do rfl rfl (Do_assign (v := .int .i64 0) rfl) ?_
        refine (RL_nil (thenQ_n (hK1080 _ _ ?_)))
        have hR := Option.some.inj hF
        subst hR
        refine (WP_ret (post2 (v1 := .int .i64 (-1)) (v2 := .int .i64 0) rfl rfl rfl ?_))
        exact ⟨rfl, H.pick [] (by decide)⟩
end Go.Proofs.YtbjhondbheijiaaGreat.L
namespace Go.Proofs.YtbjhondbheijiaaGreat.L
open Go.RowKit Go.OB Go.Lf
/- orangebox/orangeboxref5.Check -/
set_option maxHeartbeats 4000000 in
theorem F_ref5_Check_w (p0 : Series) (v1 : Value) (r : Int) (hF : F_ref5_Check p0 = some r) (O S : List Nat) (w : World) (H : Hd O w w S [.fz (.sl rSample v1 p0.Samples)]) :
    Calls Tryz.prog 94 ([.agg [.int .i64 p0.Den, v1].toArray] : List Value).toArray w fun e w' => e = .returned (.int .i64 r) ∧ Hd O w w' S [] := by
  unfold F_ref5_Check at hF
  refine calls_of_WP 11 Tryz.func94 rfl rfl rfl ?_
  refine WP_seq_k fun K3 hK3 => ?_
  refine WP_region ?_
  refine RL_ex rfl rfl (Lx_box (cs := [.int .i64 p0.Den, v1]) rfl H) ?_
  rintro _ w6 ⟨b4, rfl, H⟩
  refine RL_do rfl rfl (Do_assign (v := .int .i64 0) rfl) ?_
  refine (RL_nil (thenQ_n (hK3 _ _ ?_)))
  refine WP_seq_k fun K7 hK7 => ?_
  refine WP_region ?_
  refine RL_do rfl rfl (Do_as (Do_loads (cs := [.int .i64 p0.Den, v1]) agg72 rfl sz72 rfl (Blk.cells (H.item (i := 1) rfl))) rfl) ?_
  have H8 := H
  obtain ⟨⟨x9, x10⟩, e11, hF⟩ := bindO_some hF
  refine RL_call rfl rfl (DoC_func en99 rfl) (F_ref5_fault_w p0 v1 _ e11 _ _ _ (H.enter [] [0] (by decide) rfl)) ?_
  rintro _ w12 ⟨rfl, G13⟩
  have H := H8.step (G13.only : Only [] _ _)
  refine ⟨_, rfl, ?_⟩
  refine RL_do rfl rfl (Do_move (v := .tuple #[.int .i64 x9, .int .i64 x10]) rfl) ?_
  refine RL_do rfl rfl (Do_extract (v := .int .i64 x9) rfl rfl) ?_
  refine RL_do rfl rfl (Do_extract (v := .int .i64 x10) rfl rfl) ?_
  refine RL_do rfl rfl (Do_assign (v := .int .i64 x9) rfl) ?_
  refine RL_do rfl rfl (Do_assign (v := .int .i64 x10) rfl) ?_
  refine (RL_nil (thenQ_n (hK7 _ _ ?_)))
  refine WP_seq_k fun K14 hK14 => ?_
  refine WP_region ?_
  refine RL_do rfl rfl (Do_move (v := .int .i64 x10) rfl) ?_
  refine RL_do rfl rfl (Do_assign (v := .int .i64 x10) rfl) ?_
  refine (RL_nil (thenQ_n (hK14 _ _ ?_)))
  have hR := Option.some.inj hF
  subst hR
  refine (WP_ret (post1 (v1 := .int .i64 x10) rfl rfl ?_))
  exact ⟨rfl, H.pick [] (by decide)⟩
end Go.Proofs.YtbjhondbheijiaaGreat.L
namespace Go.Proofs.YtbjhondbheijiaaGreat.L
open Go.RowKit Go.OB Go.Lf
/- orangebox/orangeboxref6.outside -/
set_option maxHeartbeats 4000000 in
theorem F_ref6_outside_w (p0 : Int) (p1 : Int) (p2 : Int) (r : Bool) (hF : F_ref6_outside p0 p1 p2 = some r) (O S : List Nat) (w : World) (H : Hd O w w S []) :
    Calls Tryz.prog 95 ([.int .i64 p0, .int .i64 p1, .int .i64 p2] : List Value).toArray w fun e w' => e = .returned (.bool r) ∧ Hd O w w' S [] := by
  unfold F_ref6_outside at hF
  refine calls_of_WP 15 Tryz.func95 rfl rfl rfl ?_
  refine WP_seq_k fun K1 hK1 => ?_
  refine WP_region ?_
  refine RL_do rfl rfl (Do_assign (v := .bool false) rfl) ?_
  refine (RL_nil (thenQ_n (hK1 _ _ ?_)))
  obtain ⟨g7, hF, hK9⟩ := bindO_some hF
  refine WP_seqS [6, 7, 8, 9, 10, 11, 12, 13, 14] (fun (g : Unit) => [(6, .bool g7)]) (fun g wl => Hd O w wl S []) ?_ ?_
  · skip
    refine WP_region ?_
    refine RL_do rfl rfl (Do_move (v := .int .i64 p0) rfl) ?_
    refine RL_do rfl rfl (Do_move (v := .int .i64 p1) rfl) ?_
    obtain ⟨x10, e11, hF⟩ := letO_some hF
    refine RL_do rfl rfl (Do_as (Do_lss (a := p0) (b := p1) rfl rfl) (congrArg Value.bool e11)) ?_
    refine RL_splitb (b := x10) rfl rfl rfl (fun c12 => ?_) (fun c12 => ?_)
    · have hF := iteB_t c12 hF
      refine RL_off rfl rfl ?_
      refine RL_off rfl rfl ?_
      refine RL_off rfl rfl ?_
      refine RL_do rfl rfl (Do_pick_t (v := .bool true) rfl rfl) ?_
      refine RL_do rfl rfl (Do_assign (v := .bool true) rfl) ?_
      have hR := Option.some.inj hF
      subst hR
      refine (RL_nil (thenQ_n (And.intro ?_ ?_)))
      · repeat' (first | with_reducible exact Fr_refl | refine Fr_upd rfl ?_ | refine Fr_over rfl rfl ?_)
      · exact ⟨(), (Sl_cons rfl Sl_nil), H.pick [] (by decide)⟩
    · have hF := iteB_f c12 hF
      refine RL_do rfl rfl (Do_move (v := .int .i64 p0) rfl) ?_
      refine RL_do rfl rfl (Do_move (v := .int .i64 p2) rfl) ?_
      obtain ⟨x13, e14, hF⟩ := letO_some hF
      refine RL_do rfl rfl (Do_as (Do_gtr (a := p0) (b := p2) rfl rfl) (congrArg Value.bool e14)) ?_
      refine RL_do rfl rfl (Do_pick_f (v := .bool x13) rfl rfl) ?_
      refine RL_do rfl rfl (Do_assign (v := .bool x13) rfl) ?_
      have hR := Option.some.inj hF
      subst hR
      refine (RL_nil (thenQ_n (And.intro ?_ ?_)))
      · repeat' (first | with_reducible exact Fr_refl | refine Fr_upd rfl ?_ | refine Fr_over rfl rfl ?_)
      · exact ⟨(), (Sl_cons rfl Sl_nil), H.pick [] (by decide)⟩
  · rintro _ ρ w8 H
    have hF := hK9
    have hR := Option.some.inj hF
    subst hR
    refine (WP_ret (post1 (v1 := .bool g7) rfl rfl ?_))
    exact ⟨rfl, H.pick [] (by decide)⟩
end Go.Proofs.YtbjhondbheijiaaGreat.L
namespace Go.Proofs.YtbjhondbheijiaaGreat.L
open Go.RowKit Go.OB Go.Lf
/- orangebox/orangeboxref6.CheckTracks -/
set_option maxHeartbeats 4000000 in
theorem F_ref6_CheckTracks_w (p0 : List Track) (v1 : Value) (r : Int) (hF : F_ref6_CheckTracks p0 = some r) (O S : List Nat) (w : World) (H : Hd O w w S [.fz (.sl rTrack v1 p0)]) :
    Calls Tryz.prog 81 ([v1] : List Value).toArray w fun e w' => e = .returned (.int .i64 r) ∧ Hd O w w' S [] := by
  unfold F_ref6_CheckTracks at hF
  refine calls_of_WP 53 Tryz.func81 rfl rfl rfl ?_
  refine WP_seq_k fun K3 hK3 => ?_
  refine WP_region ?_
  refine RL_do rfl rfl (Do_assign (v := .int .i64 0) rfl) ?_
  refine (RL_nil (thenQ_n (hK3 _ _ ?_)))
  refine WP_seq_k fun K14 hK14 => ?_
  refine WP_seq_k fun K15 hK15 => ?_
  refine WP_region ?_
  refine RL_do rfl rfl (Do_move (v := v1) rfl) ?_
  obtain ⟨x16, e17, hF⟩ := letO_some hF
  obtain ⟨a18, c19, q20⟩ := SlF.len ((H.item (i := 0) rfl))
  refine RL_do rfl rfl (Do_as (Do_len u64 q20) (congrArg (Value.int .i64) e17)) ?_
  obtain ⟨x21, e22, hF⟩ := letO_some hF
  refine RL_do rfl rfl (Do_as (Do_gtr (a := x16) (b := 50) rfl rfl) (congrArg Value.bool e22)) ?_
  refine (RL_nil (thenQ_n (hK15 _ _ ?_)))
  refine WP_ifb (b := x21) rfl (fun c23 => ?_) (fun c23 => ?_)
  · have hF := iteB_t c23 hF
    refine WP_seq_k fun K24 hK24 => ?_
    refine WP_region ?_
    refine RL_do rfl rfl (Do_assign (v := .int .i64 3) rfl) ?_
    refine (RL_nil (thenQ_n (hK24 _ _ ?_)))
    have hR := Option.some.inj hF
    subst hR
    refine (WP_ret (thenQ_r (post1 (v1 := .int .i64 3) rfl rfl ?_)))
    exact ⟨rfl, H.pick [] (by decide)⟩
  · have hF := iteB_f c23 hF
    refine (WP_skip (thenQ_n (hK14 _ _ ?_)))
    obtain ⟨k2074, ek2075, hF⟩ := joinO_some hF
    refine WP_seqS [2, 3, 4, 5, 9, 10, 11, 12, 13, 14, 15, 16, 17, 18, 19, 20, 21, 22, 23, 24, 25, 26, 27, 28, 29, 30, 31, 32, 33, 34, 35, 36, 37, 38, 39, 40, 41, 42, 43, 44, 45, 46, 47, 48, 49, 50, 51, 52] (fun (g : Unit) => []) (fun g wl => Hd O w wl S [] ∧ k2074 () = some r) ?_ ?_
    · skip
      refine WP_seq_k fun K2076 hK2076 => ?_
      refine WP_region ?_
      refine RL_do rfl rfl (Do_assign (v := .int .i64 0) rfl) ?_
      refine (RL_nil (thenQ_n (hK2076 _ _ ?_)))
      refine WP_block ?_
      unfold F_ref6_CheckTracks_L1 at hF
      obtain ⟨B4119, n4120, eB4121, hF⟩ := loopO_some hF
      refine WP_loopS [2, 3, 4, 5, 9, 10, 11, 12, 13, 14, 15, 16, 17, 18, 19, 20, 21, 22, 23, 24, 25, 26, 27, 28, 29, 30, 31, 32, 33, 34, 35, 36, 37, 38, 39, 40, 41, 42, 43, 44, 45, 46, 47, 48, 49, 50, 51, 52] (fun (g : Nat × Int) => [(3, .int .i64 g.2)]) (fun g wl => Hd O w wl S [.fz (.sl rTrack v1 p0)] ∧ loopN B4119 g.1 g.2 = some r) (fun g => g.1) (n4120, 0) (Sl_cons rfl Sl_nil) ⟨H.pick [0] (by decide), hF⟩ ?_
      clear H hF
      rintro ⟨n4120, g4118⟩ ρ w4123 ⟨H, hF⟩
      obtain ⟨n4124, rfl, hF⟩ := loopN_pos hF
      have hF := loop_body eB4121 hF
      refine WP_seq_k fun K4134 hK4134 => ?_
      refine WP_seq_k fun K4135 hK4135 => ?_
      refine WP_region ?_
      refine RL_do rfl rfl (Do_move (v := .int .i64 g4118) rfl) ?_
      refine RL_do rfl rfl (Do_move (v := v1) rfl) ?_
      obtain ⟨x4136, e4137, hF⟩ := letO_some hF
      obtain ⟨a4138, c4139, q4140⟩ := SlF.len ((H.item (i := 0) rfl))
      refine RL_do rfl rfl (Do_as (Do_len u64 q4140) (congrArg (Value.int .i64) e4137)) ?_
      obtain ⟨x4141, e4142, hF⟩ := letO_some hF
      refine RL_do rfl rfl (Do_as (Do_lss (a := g4118) (b := x4136) rfl rfl) (congrArg Value.bool e4142)) ?_
      refine (RL_nil (thenQ_n (hK4135 _ _ ?_)))
      refine WP_ifb (b := x4141) rfl (fun c4143 => ?_) (fun c4143 => ?_)
      · have hF := iteB_t c4143 hF
        refine (WP_skip (thenQ_n (hK4134 _ _ ?_)))
        obtain ⟨k4643, ek4644, hF⟩ := joinO_some hF
        refine WP_seqS [2, 4, 5, 15, 16, 17, 18, 19, 20, 21, 22, 23, 24, 25, 26, 27, 28, 29, 30, 31, 32, 33, 34, 35, 36, 37, 38, 39, 40, 41, 42, 43, 44, 45, 46, 47, 48, 49, 50, 51, 52] (fun (g : Unit) => []) (fun g wl => Hd O w wl S [.fz (.sl rTrack v1 p0)] ∧ k4643 () = some r) ?_ ?_
        · skip
          refine WP_block ?_
          refine WP_seq_k fun K4670 hK4670 => ?_
          refine WP_seq_k fun K4671 hK4671 => ?_
          refine WP_region ?_
          refine RL_do rfl rfl (Do_move (v := v1) rfl) ?_
          refine RL_do rfl rfl (Do_move (v := .int .i64 g4118) rfl) ?_
          obtain ⟨x4672, e4673, hF⟩ := bindO_some hF
          obtain ⟨b4674, o4675, c4676, cs4677, q4678, h4681, h4679, h4680, h4682⟩ := rd_at (H.item (i := 0) rfl) e4673
          obtain ⟨v4683, rfl, h4684⟩ := rTrack_open h4681
          have H := H.fzs [.at b4674 (o4675 + g4118.toNat * 4) _, .sl rSample v4683 x4672.Series.Samples] ⟨⟨h4679, h4680, h4682⟩, h4684, trivial⟩
          refine RL_do rfl rfl (Do_idx u64 sz74 q4678 rfl (at_some e4673).1 (at_some e4673).2.1 rfl rfl) ?_
          refine RL_do rfl rfl (fa74_0 rfl) ?_
          refine RL_do rfl rfl (Do_load one9 rfl (Cells.get (H.item (i := 1) rfl).2.2 (i := 0) rfl)) ?_
          have H4687 := H
          obtain ⟨x4688, e4689, hF⟩ := bindO_some hF
          refine RL_call rfl rfl (DoC_func en34 rfl) (F_ref6_IsName_w x4672.Name _ e4689 _ _ _ (H.enter [] [] (by decide) rfl)) ?_
          rintro _ w4690 ⟨rfl, G4691⟩
          have H := H4687.step (G4691.only : Only [] _ _)
          refine ⟨_, rfl, ?_⟩
          obtain ⟨x4692, e4693, hF⟩ := letO_some hF
          refine RL_do rfl rfl (Do_as (Do_not (p := x4688) rfl) (congrArg Value.bool e4693)) ?_
          refine (RL_nil (thenQ_n (hK4671 _ _ ?_)))
          refine WP_ifb (b := x4692) rfl (fun c4694 => ?_) (fun c4694 => ?_)
          · have hF := iteB_t c4694 hF
            refine WP_seq_k fun K4695 hK4695 => ?_
            refine WP_region ?_
            refine RL_do rfl rfl (Do_assign (v := .int .i64 8) rfl) ?_
            refine (RL_nil (thenQ_n (hK4695 _ _ ?_)))
            have hR := Option.some.inj hF
            subst hR
            refine (WP_ret (thenQ_r (blockQ_r (thenQ_r (thenQ_r (blockQ_r (thenQ_r (post1 (v1 := .int .i64 8) rfl rfl ?_))))))))
            exact ⟨rfl, H.pick [] (by decide)⟩
          · have hF := iteB_f c4694 hF
            refine (WP_skip (thenQ_n (hK4670 _ _ ?_)))
            obtain ⟨k4881, ek4882, hF⟩ := joinO_some hF
            refine WP_seqS [2, 4, 22, 23, 24, 25, 26, 27, 28, 29, 30, 31, 32, 33, 34, 35, 36, 37] (fun (g : Unit) => []) (fun g wl => Hd O w wl S [.fz (.sl rTrack v1 p0)] ∧ k4881 () = some r) ?_ ?_
            · skip
              refine WP_seq_k fun K4883 hK4883 => ?_
              refine WP_region ?_
              refine RL_do rfl rfl (Do_assign (v := .int .i64 0) rfl) ?_
              refine (RL_nil (thenQ_n (hK4883 _ _ ?_)))
              refine WP_block ?_
              unfold F_ref6_CheckTracks_L2 at hF
              obtain ⟨B5062, n5063, eB5064, hF⟩ := loopO_some hF
              refine WP_loopS [2, 4, 22, 23, 24, 25, 26, 27, 28, 29, 30, 31, 32, 33, 34, 35, 36, 37] (fun (g : Nat × Int) => [(4, .int .i64 g.2)]) (fun g wl => Hd O w wl S [.fz (.sl rTrack v1 p0)] ∧ loopN B5062 g.1 g.2 = some r) (fun g => g.1) (n5063, 0) (Sl_cons rfl Sl_nil) ⟨H.pick [0] (by decide), hF⟩ ?_
              clear H hF
              rintro ⟨n5063, g5061⟩ ρ w5066 ⟨H, hF⟩
              obtain ⟨n5067, rfl, hF⟩ := loopN_pos hF
              have hF := loop_body eB5064 hF
              refine WP_seq_k fun K5072 hK5072 => ?_
              refine WP_seq_k fun K5073 hK5073 => ?_
              refine WP_region ?_
              refine RL_do rfl rfl (Do_move (v := .int .i64 g5061) rfl) ?_
              refine RL_do rfl rfl (Do_move (v := .int .i64 g4118) rfl) ?_
              obtain ⟨x5074, e5075, hF⟩ := letO_some hF
              refine RL_do rfl rfl (Do_as (Do_lss (a := g5061) (b := g4118) rfl rfl) (congrArg Value.bool e5075)) ?_
              refine (RL_nil (thenQ_n (hK5073 _ _ ?_)))
              refine WP_ifb (b := x5074) rfl (fun c5076 => ?_) (fun c5076 => ?_)
              · have hF := iteB_t c5076 hF
                refine (WP_skip (thenQ_n (hK5072 _ _ ?_)))
                refine WP_seq_k fun K5115 hK5115 => ?_
                refine WP_block ?_
                refine WP_seq_k fun K5116 hK5116 => ?_
                have H5117 := H
                have H := H.rebase
                have H5118 := H
                refine WP_mix0 H [0, 1, 2, 3, 4, 5, 6, 7, 8, 9, 10] [.pure, .pure, .pure, .pure, .read, .pure, .pure, .pure, .pure, .read, .pure] mixed (by kernel_rfl) (by kernel_rfl) (by kernel_rfl) rfl ?_
                refine Mx.XL_pure rfl rfl rfl (fun w' hw' => Do_move (v := v1) rfl) ?_
                refine Mx.XL_pure rfl rfl rfl (fun w' hw' => Do_move (v := .int .i64 g5061) rfl) ?_
                obtain ⟨x5119, e5120, hF⟩ := bindO_some hF
                obtain ⟨b5121, o5122, c5123, cs5124, q5125, h5128, h5126, h5127, h5129⟩ := rd_at (H.item (i := 0) rfl) e5120
                obtain ⟨v5130, rfl, h5131⟩ := rTrack_open h5128
                have H := H.fzs [.at b5121 (o5122 + g5061.toNat * 4) _, .sl rSample v5130 x5119.Series.Samples] ⟨⟨h5126, h5127, h5129⟩, h5131, trivial⟩
                refine Mx.XL_pure rfl rfl rfl (fun w' hw' => Do_idx u64 sz74 q5125 rfl (at_some e5120).1 (at_some e5120).2.1 rfl rfl) ?_
                refine Mx.XL_pure rfl rfl rfl (fun w' hw' => fa74_0 rfl) ?_
                refine Mx.XL_read oS rfl rfl rfl (fun w' hw' => Do_load one9 rfl (Cells.get ((H.sees hw').item (i := 1) rfl).2.2 (i := 0) rfl)) ?_
                refine Mx.XL_pure rfl rfl rfl (fun w' hw' => Do_move (v := v1) rfl) ?_
                refine Mx.XL_pure rfl rfl rfl (fun w' hw' => Do_move (v := .int .i64 g4118) rfl) ?_
                obtain ⟨x5134, e5135, hF⟩ := bindO_some hF
                obtain ⟨b5136, o5137, c5138, cs5139, q5140, h5143, h5141, h5142, h5144⟩ := rd_at (H.item (i := 0) rfl) e5135
                obtain ⟨v5145, rfl, h5146⟩ := rTrack_open h5143
                have H := H.fzs [.at b5136 (o5137 + g4118.toNat * 4) _, .sl rSample v5145 x5134.Series.Samples] ⟨⟨h5141, h5142, h5144⟩, h5146, trivial⟩
                refine Mx.XL_pure rfl rfl rfl (fun w' hw' => Do_idx u64 sz74 q5140 rfl (at_some e5135).1 (at_some e5135).2.1 rfl rfl) ?_
                refine Mx.XL_pure rfl rfl rfl (fun w' hw' => fa74_0 rfl) ?_
                refine Mx.XL_read oS rfl rfl rfl (fun w' hw' => Do_load one9 rfl (Cells.get ((H.sees hw').item (i := 3) rfl).2.2 (i := 0) rfl)) ?_
                obtain ⟨x5149, e5150, hF⟩ := letO_some hF
                refine Mx.XL_pure rfl rfl rfl (fun w' hw' => Do_as (Do_eqls (s1 := x5119.Name) (s2 := x5134.Name) rfl rfl) (congrArg Value.bool e5150)) ?_
                refine Mx.XL_nil fun w5151 hS => ?_
                have H := H.sees hS
                have H := H5117.rejoin H
                refine (thenQ_n (hK5116 _ _ ?_))
                refine WP_ifb (b := x5149) rfl (fun c5152 => ?_) (fun c5152 => ?_)
                · have hF := iteB_t c5152 hF
                  refine WP_seq_k fun K5153 hK5153 => ?_
                  refine WP_region ?_
                  refine RL_do rfl rfl (Do_assign (v := .int .i64 5) rfl) ?_
                  refine (RL_nil (thenQ_n (hK5153 _ _ ?_)))
                  have hR := Option.some.inj hF
                  subst hR
                  refine (WP_ret (blockQ_r (thenQ_r (thenQ_r (blockQ_r (thenQ_r (blockQ_r (thenQ_r (thenQ_r (blockQ_r (thenQ_r (post1 (v1 := .int .i64 5) rfl rfl ?_))))))))))))
                  exact ⟨rfl, H.pick [] (by decide)⟩
                · have hF := iteB_f c5152 hF
                  refine (WP_skip (blockQ_n (thenQ_n (hK5115 _ _ ?_))))
                  refine WP_region ?_
                  refine RL_do rfl rfl (Do_move (v := .int .i64 g5061) rfl) ?_
                  obtain ⟨x5154, e5155, hF⟩ := letO_some hF
                  refine RL_do rfl rfl (Do_add (a := g5061) (b := 1) rfl rfl e5155) ?_
                  refine RL_do rfl rfl (Do_assign (v := .int .i64 x5154) rfl) ?_
                  refine (RL_nil (thenQ_n (And.intro ?_ ?_)))
                  · repeat' (first | with_reducible exact Fr_refl | refine Fr_upd rfl ?_ | refine Fr_over rfl rfl ?_)
                  · exact ⟨(n5067, x5154), (Sl_cons rfl Sl_nil), ⟨H.pick [0] (by decide), hF⟩, Nat.lt_succ_self _⟩
              · have hF := iteB_f c5076 hF
                refine (WP_exit (thenQ_x (thenQ_x (blockQ_eq (thenQ_n (And.intro ?_ ?_))))))
                · repeat' (first | with_reducible exact Fr_refl | refine Fr_upd rfl ?_ | refine Fr_over rfl rfl ?_)
                · exact ⟨(), Sl_nil, ⟨H.pick [0] (by decide), hF⟩⟩
            · rintro _ ρ w4880 ⟨H, hF⟩
              have hF := join_body ek4882 hF
              refine WP_seq_k fun K5182 hK5182 => ?_
              refine WP_seq_k fun K5183 hK5183 => ?_
              refine WP_region ?_
              refine RL_do rfl rfl (Do_move (v := v1) rfl) ?_
              refine RL_do rfl rfl (Do_move (v := .int .i64 g4118) rfl) ?_
              obtain ⟨x5184, e5185, hF⟩ := bindO_some hF
              obtain ⟨b5186, o5187, c5188, cs5189, q5190, h5193, h5191, h5192, h5194⟩ := rd_at (H.item (i := 0) rfl) e5185
              obtain ⟨v5195, rfl, h5196⟩ := rTrack_open h5193
              have H := H.fzs [.at b5186 (o5187 + g4118.toNat * 4) _, .sl rSample v5195 x5184.Series.Samples] ⟨⟨h5191, h5192, h5194⟩, h5196, trivial⟩
              refine RL_do rfl rfl (Do_idx u64 sz74 q5190 rfl (at_some e5185).1 (at_some e5185).2.1 rfl rfl) ?_
              refine RL_do rfl rfl (fa74_1 rfl) ?_
              refine RL_do rfl rfl (Do_as (Do_loads (cs := [.int .i64 x5184.Series.Den, v5195]) agg72 rfl sz72 rfl (Cells.drop (H.item (i := 1) rfl).2.2 1 2)) rfl) ?_
              have H5199 := H
              obtain ⟨x5200, e5201, hF⟩ := bindO_some hF
              refine RL_call rfl rfl (DoC_func en94 rfl) (F_ref5_Check_w x5184.Series v5195 _ e5201 _ _ _ (H.enter [] [2] (by decide) rfl)) ?_
              rintro _ w5202 ⟨rfl, G5203⟩
              have H := H5199.step (G5203.only : Only [] _ _)
              refine ⟨_, rfl, ?_⟩
              refine RL_do rfl rfl (Do_assign (v := .int .i64 x5200) rfl) ?_
              refine (RL_nil (thenQ_n (hK5183 _ _ ?_)))
              refine WP_seq_k fun K5204 hK5204 => ?_
              refine WP_region ?_
              refine RL_do rfl rfl (Do_move (v := .int .i64 x5200) rfl) ?_
              obtain ⟨x5205, e5206, hF⟩ := letO_some hF
              refine RL_do rfl rfl (Do_as (Do_neq (a := x5200) (b := 0) rfl rfl) (congrArg Value.bool e5206)) ?_
              refine (RL_nil (thenQ_n (hK5204 _ _ ?_)))
              refine WP_ifb (b := x5205) rfl (fun c5207 => ?_) (fun c5207 => ?_)
              · have hF := iteB_t c5207 hF
                refine WP_seq_k fun K5208 hK5208 => ?_
                refine WP_region ?_
                refine RL_do rfl rfl (Do_move (v := .int .i64 x5200) rfl) ?_
                refine RL_do rfl rfl (Do_assign (v := .int .i64 x5200) rfl) ?_
                refine (RL_nil (thenQ_n (hK5208 _ _ ?_)))
                have hR := Option.some.inj hF
                subst hR
                refine (WP_ret (thenQ_r (blockQ_r (thenQ_r (thenQ_r (blockQ_r (thenQ_r (post1 (v1 := .int .i64 x5200) rfl rfl ?_))))))))
                exact ⟨rfl, H.pick [] (by decide)⟩
              · have hF := iteB_f c5207 hF
                refine (WP_skip (thenQ_n (hK5182 _ _ ?_)))
                refine WP_seq_k fun K5209 hK5209 => ?_
                refine WP_region ?_
                refine RL_do rfl rfl (Do_move (v := v1) rfl) ?_
                refine RL_do rfl rfl (Do_move (v := .int .i64 g4118) rfl) ?_
                obtain ⟨x5210, e5211, hF⟩ := bindO_some hF
                obtain ⟨b5212, o5213, c5214, cs5215, q5216, h5219, h5217, h5218, h5220⟩ := rd_at (H.item (i := 0) rfl) e5211
                obtain ⟨v5221, rfl, h5222⟩ := rTrack_open h5219
                have H := H.fzs [.at b5212 (o5213 + g4118.toNat * 4) _, .sl rSample v5221 x5210.Series.Samples] ⟨⟨h5217, h5218, h5220⟩, h5222, trivial⟩
                refine RL_do rfl rfl (Do_idx u64 sz74 q5216 rfl (at_some e5211).1 (at_some e5211).2.1 rfl rfl) ?_
                refine RL_do rfl rfl (fa74_2 rfl) ?_
                refine RL_do rfl rfl (Do_load one3 rfl (Cells.get (H.item (i := 3) rfl).2.2 (i := 3) rfl)) ?_
                have H5225 := H
                obtain ⟨x5226, e5227, hF⟩ := bindO_some hF
                refine RL_call rfl rfl (DoC_func en95 rfl) (F_ref6_outside_w x5210.Long 0 1099511627776 _ e5227 _ _ _ (H.enter [] [] (by decide) rfl)) ?_
                rintro _ w5228 ⟨rfl, G5229⟩
                have H := H5225.step (G5229.only : Only [] _ _)
                refine ⟨_, rfl, ?_⟩
                refine (RL_nil (thenQ_n (hK5209 _ _ ?_)))
                refine WP_ifb (b := x5226) rfl (fun c5230 => ?_) (fun c5230 => ?_)
                · have hF := iteB_t c5230 hF
                  refine WP_seq_k fun K5231 hK5231 => ?_
                  refine WP_region ?_
                  refine RL_do rfl rfl (Do_assign (v := .int .i64 9) rfl) ?_
                  refine (RL_nil (thenQ_n (hK5231 _ _ ?_)))
                  have hR := Option.some.inj hF
                  subst hR
                  refine (WP_ret (blockQ_r (thenQ_r (thenQ_r (blockQ_r (thenQ_r (post1 (v1 := .int .i64 9) rfl rfl ?_)))))))
                  exact ⟨rfl, H.pick [] (by decide)⟩
                · have hF := iteB_f c5230 hF
                  refine (WP_skip (blockQ_n (thenQ_n (And.intro ?_ ?_))))
                  · repeat' (first | with_reducible exact Fr_refl | refine Fr_upd rfl ?_ | refine Fr_over rfl rfl ?_)
                  · exact ⟨(), Sl_nil, ⟨H.pick [0] (by decide), hF⟩⟩
        · rintro _ ρ w4642 ⟨H, hF⟩
          have hF := join_body ek4644 hF
          refine WP_region ?_
          refine RL_do rfl rfl (Do_move (v := .int .i64 g4118) rfl) ?_
          obtain ⟨x5232, e5233, hF⟩ := letO_some hF
          refine RL_do rfl rfl (Do_add (a := g4118) (b := 1) rfl rfl e5233) ?_
          refine RL_do rfl rfl (Do_assign (v := .int .i64 x5232) rfl) ?_
          refine (RL_nil (thenQ_n (And.intro ?_ ?_)))
          · repeat' (first | with_reducible exact Fr_refl | refine Fr_upd rfl ?_ | refine Fr_over rfl rfl ?_)
          · exact ⟨(n4124, x5232), (Sl_cons rfl Sl_nil), ⟨H.pick [0] (by decide), hF⟩, Nat.lt_succ_self _⟩
      · have hF := iteB_f c4143 hF
        refine (WP_exit (thenQ_x (thenQ_x (blockQ_eq (thenQ_n (And.intro ?_ ?_))))))
        · repeat' (first | with_reducible exact Fr_refl | refine Fr_upd rfl ?_ | refine Fr_over rfl rfl ?_)
        · exact ⟨(), Sl_nil, ⟨H.pick [] (by decide), hF⟩⟩
    · rintro _ ρ w2073 ⟨H, hF⟩
      have hF := join_body ek2075 hF
      refine WP_seq_k fun K5234 hK5234 => ?_
      refine WP_region ?_
      refine RL_do rfl rfl (Do_assign (v := .int .i64 0) rfl) ?_
      refine (RL_nil (thenQ_n (hK5234 _ _ ?_)))
      have hR := Option.some.inj hF
      subst hR
      refine (WP_ret (post1 (v1 := .int .i64 0) rfl rfl ?_))
      exact ⟨rfl, H.pick [] (by decide)⟩
end Go.Proofs.YtbjhondbheijiaaGreat.L
namespace Go.Proofs.YtbjhondbheijiaaGreat.L
open Go.RowKit Go.OB Go.Lf
/- orangebox/orangeboxref9.CheckFlight -/
set_option maxHeartbeats 4000000 in
theorem F_ref9_CheckFlight_w (p0 : Flight) (v1 : Value) (r : Int) (hF : F_ref9_CheckFlight p0 = some r) (O S : List Nat) (w : World) (H : Hd O w w S [.fz (.sl rTrack v1 p0.Tracks)]) :
    Calls Tryz.prog 53 ([.agg [.string (bs p0.Tail), .string (bs p0.Route), .int .i64 p0.Day, .int .i64 p0.From, .int .i64 p0.To, v1].toArray] : List Value).toArray w fun e w' => e = .returned (.int .i64 r) ∧ Hd O w w' S [] := by
  unfold F_ref9_CheckFlight at hF
  refine calls_of_WP 54 Tryz.func53 rfl rfl rfl ?_
  refine WP_seq_k fun K3 hK3 => ?_
  refine WP_region ?_
  refine RL_ex rfl rfl (Lx_box (cs := [.string (bs p0.Tail), .string (bs p0.Route), .int .i64 p0.Day, .int .i64 p0.From, .int .i64 p0.To, v1]) rfl H) ?_
  rintro _ w6 ⟨b4, rfl, H⟩
  refine RL_do rfl rfl (Do_assign (v := .int .i64 0) rfl) ?_
  refine (RL_nil (thenQ_n (hK3 _ _ ?_)))
  refine WP_seq_k fun K37 hK37 => ?_
  obtain ⟨g63, hF, hK65⟩ := bindO_some hF
  refine WP_seqS [3, 4, 5, 6, 7, 8, 9, 10, 11, 12, 13, 14, 15, 16, 17] (fun (g : Unit) => [(17, .bool g63)]) (fun g wl => Hd O w wl S [.blk b4 [.string (bs p0.Tail), .string (bs p0.Route), .int .i64 p0.Day, .int .i64 p0.From, .int .i64 p0.To, v1] 66, .fz (.sl rTrack v1 p0.Tracks)]) ?_ ?_
  · skip
    refine WP_region ?_
    refine RL_do rfl rfl (fa66_0 rfl) ?_
    refine RL_do rfl rfl (Do_load one9 rfl (Cells.get (Blk.cells (H.item (i := 1) rfl)) (i := 0) rfl)) ?_
    obtain ⟨x66, e67, hF⟩ := letO_some hF
    refine RL_do rfl rfl (Do_as (Do_neqs (s1 := p0.Tail) (s2 := []) rfl rfl) (congrArg Value.bool e67)) ?_
    refine RL_splitb (b := x66) rfl rfl rfl (fun c68 => ?_) (fun c68 => ?_)
    · have hF := iteB_t c68 hF
      refine RL_do rfl rfl (fa66_0 rfl) ?_
      refine RL_do rfl rfl (Do_load one9 rfl (Cells.get (Blk.cells (H.item (i := 1) rfl)) (i := 0) rfl)) ?_
      have H69 := H
      obtain ⟨x70, e71, hF⟩ := bindO_some hF
      refine RL_call rfl rfl (DoC_func en34 rfl) (F_ref6_IsName_w p0.Tail _ e71 _ _ _ (H.enter [] [] (by decide) rfl)) ?_
      rintro _ w72 ⟨rfl, G73⟩
      have H := H69.step (G73.only : Only [] _ _)
      refine ⟨_, rfl, ?_⟩
      obtain ⟨x74, e75, hF⟩ := letO_some hF
      refine RL_do rfl rfl (Do_as (Do_not (p := x70) rfl) (congrArg Value.bool e75)) ?_
      refine RL_do rfl rfl (Do_pick_t (v := .bool x74) rfl rfl) ?_
      refine RL_splitb (b := x74) rfl rfl rfl (fun c76 => ?_) (fun c76 => ?_)
      · have hF := iteB_t c76 hF
        refine RL_off rfl rfl ?_
        refine RL_off rfl rfl ?_
        refine RL_off rfl rfl ?_
        refine RL_off rfl rfl ?_
        refine RL_do rfl rfl (Do_pick_t (v := .bool true) rfl rfl) ?_
        have hR := Option.some.inj hF
        subst hR
        refine (RL_nil (thenQ_n (And.intro ?_ ?_)))
        · repeat' (first | with_reducible exact Fr_refl | refine Fr_upd rfl ?_ | refine Fr_over rfl rfl ?_)
        · exact ⟨(), (Sl_cons rfl Sl_nil), H.pick [1, 0] (by decide)⟩
      · have hF := iteB_f c76 hF
        refine RL_do rfl rfl (fa66_1 rfl) ?_
        refine RL_do rfl rfl (Do_load one9 rfl (Cells.get (Blk.cells (H.item (i := 1) rfl)) (i := 1) rfl)) ?_
        have H77 := H
        obtain ⟨x78, e79, hF⟩ := bindO_some hF
        refine RL_call rfl rfl (DoC_func en34 rfl) (F_ref6_IsName_w p0.Route _ e79 _ _ _ (H.enter [] [] (by decide) rfl)) ?_
        rintro _ w80 ⟨rfl, G81⟩
        have H := H77.step (G81.only : Only [] _ _)
        refine ⟨_, rfl, ?_⟩
        obtain ⟨x82, e83, hF⟩ := letO_some hF
        refine RL_do rfl rfl (Do_as (Do_not (p := x78) rfl) (congrArg Value.bool e83)) ?_
        refine RL_do rfl rfl (Do_pick_f (v := .bool x82) rfl rfl) ?_
        have hR := Option.some.inj hF
        subst hR
        refine (RL_nil (thenQ_n (And.intro ?_ ?_)))
        · repeat' (first | with_reducible exact Fr_refl | refine Fr_upd rfl ?_ | refine Fr_over rfl rfl ?_)
        · exact ⟨(), (Sl_cons rfl Sl_nil), H.pick [1, 0] (by decide)⟩
    · have hF := iteB_f c68 hF
      refine RL_off rfl rfl ?_
      refine RL_off rfl rfl ?_
      refine RL_off rfl rfl ?_
      refine RL_off rfl rfl ?_
      refine RL_do rfl rfl (Do_pick_f (v := .bool false) rfl rfl) ?_
      refine RL_do rfl rfl (Do_move (v := .bool false) rfl) ?_
      refine RL_do rfl rfl (fa66_1 rfl) ?_
      refine RL_do rfl rfl (Do_load one9 rfl (Cells.get (Blk.cells (H.item (i := 1) rfl)) (i := 1) rfl)) ?_
      have H84 := H
      obtain ⟨x85, e86, hF⟩ := bindO_some hF
      refine RL_call rfl rfl (DoC_func en34 rfl) (F_ref6_IsName_w p0.Route _ e86 _ _ _ (H.enter [] [] (by decide) rfl)) ?_
      rintro _ w87 ⟨rfl, G88⟩
      have H := H84.step (G88.only : Only [] _ _)
      refine ⟨_, rfl, ?_⟩
      obtain ⟨x89, e90, hF⟩ := letO_some hF
      refine RL_do rfl rfl (Do_as (Do_not (p := x85) rfl) (congrArg Value.bool e90)) ?_
      refine RL_do rfl rfl (Do_pick_f (v := .bool x89) rfl rfl) ?_
      have hR := Option.some.inj hF
      subst hR
      refine (RL_nil (thenQ_n (And.intro ?_ ?_)))
      · repeat' (first | with_reducible exact Fr_refl | refine Fr_upd rfl ?_ | refine Fr_over rfl rfl ?_)
      · exact ⟨(), (Sl_cons rfl Sl_nil), H.pick [1, 0] (by decide)⟩
  · rintro _ ρ w64 H
    have hF := hK65
    refine WP_ifb (b := g63) rfl (fun c91 => ?_) (fun c91 => ?_)
    · have hF := iteB_t c91 hF
      refine WP_seq_k fun K92 hK92 => ?_
      refine WP_region ?_
      refine RL_do rfl rfl (Do_assign (v := .int .i64 8) rfl) ?_
      refine (RL_nil (thenQ_n (hK92 _ _ ?_)))
      have hR := Option.some.inj hF
      subst hR
      refine (WP_ret (thenQ_r (post1 (v1 := .int .i64 8) rfl rfl ?_)))
      exact ⟨rfl, H.pick [] (by decide)⟩
    · have hF := iteB_f c91 hF
      refine (WP_skip (thenQ_n (hK37 _ _ ?_)))
      refine WP_seq_k fun K112 hK112 => ?_
      obtain ⟨g127, hF, hK129⟩ := bindO_some hF
      refine WP_seqS [18, 19, 20, 21, 22, 23, 24, 25, 26, 27, 28, 29, 30, 31, 32, 33, 34, 35, 36, 37] (fun (g : Unit) => [(37, .bool g127)]) (fun g wl => Hd O w wl S [.blk b4 [.string (bs p0.Tail), .string (bs p0.Route), .int .i64 p0.Day, .int .i64 p0.From, .int .i64 p0.To, v1] 66, .fz (.sl rTrack v1 p0.Tracks)]) ?_ ?_
      · skip
        refine WP_region ?_
        refine RL_do rfl rfl (fa66_2 rfl) ?_
        refine RL_do rfl rfl (Do_load one3 rfl (Cells.get (Blk.cells (H.item (i := 0) rfl)) (i := 2) rfl)) ?_
        have H130 := H
        obtain ⟨x131, e132, hF⟩ := bindO_some hF
        refine RL_call rfl rfl (DoC_func en14 rfl) (F_ref9_outside_w p0.Day 0 1000000 _ e132 _ _ _ (H.enter [] [] (by decide) rfl)) ?_
        rintro _ w133 ⟨rfl, G134⟩
        have H := H130.step (G134.only : Only [] _ _)
        refine ⟨_, rfl, ?_⟩
        refine RL_splitb (b := x131) rfl rfl rfl (fun c135 => ?_) (fun c135 => ?_)
        · have hF := iteB_t c135 hF
          refine RL_off rfl rfl ?_
          refine RL_off rfl rfl ?_
          refine RL_off rfl rfl ?_
          refine RL_do rfl rfl (Do_pick_t (v := .bool true) rfl rfl) ?_
          refine RL_do rfl rfl (Do_move (v := .bool true) rfl) ?_
          refine RL_off rfl rfl ?_
          refine RL_off rfl rfl ?_
          refine RL_off rfl rfl ?_
          refine RL_off rfl rfl ?_
          refine RL_off rfl rfl ?_
          refine RL_do rfl rfl (Do_pick_t (v := .bool true) rfl rfl) ?_
          refine RL_do rfl rfl (Do_move (v := .bool true) rfl) ?_
          refine RL_off rfl rfl ?_
          refine RL_off rfl rfl ?_
          refine RL_off rfl rfl ?_
          refine RL_do rfl rfl (Do_pick_t (v := .bool true) rfl rfl) ?_
          have hR := Option.some.inj hF
          subst hR
          refine (RL_nil (thenQ_n (And.intro ?_ ?_)))
          · repeat' (first | with_reducible exact Fr_refl | refine Fr_upd rfl ?_ | refine Fr_over rfl rfl ?_)
          · exact ⟨(), (Sl_cons rfl Sl_nil), H.pick [0, 1] (by decide)⟩
        · have hF := iteB_f c135 hF
          refine RL_do rfl rfl (fa66_3 rfl) ?_
          refine RL_do rfl rfl (Do_load one3 rfl (Cells.get (Blk.cells (H.item (i := 0) rfl)) (i := 3) rfl)) ?_
          obtain ⟨x136, e137, hF⟩ := letO_some hF
          refine RL_do rfl rfl (Do_as (Do_lss (a := p0.From) (b := 0) rfl rfl) (congrArg Value.bool e137)) ?_
          refine RL_do rfl rfl (Do_pick_f (v := .bool x136) rfl rfl) ?_
          refine RL_splitb (b := x136) rfl rfl rfl (fun c138 => ?_) (fun c138 => ?_)
          · have hF := iteB_t c138 hF
            refine RL_off rfl rfl ?_
            refine RL_off rfl rfl ?_
            refine RL_off rfl rfl ?_
            refine RL_off rfl rfl ?_
            refine RL_off rfl rfl ?_
            refine RL_do rfl rfl (Do_pick_t (v := .bool true) rfl rfl) ?_
            refine RL_do rfl rfl (Do_move (v := .bool true) rfl) ?_
            refine RL_off rfl rfl ?_
            refine RL_off rfl rfl ?_
            refine RL_off rfl rfl ?_
            refine RL_do rfl rfl (Do_pick_t (v := .bool true) rfl rfl) ?_
            have hR := Option.some.inj hF
            subst hR
            refine (RL_nil (thenQ_n (And.intro ?_ ?_)))
            · repeat' (first | with_reducible exact Fr_refl | refine Fr_upd rfl ?_ | refine Fr_over rfl rfl ?_)
            · exact ⟨(), (Sl_cons rfl Sl_nil), H.pick [0, 1] (by decide)⟩
          · have hF := iteB_f c138 hF
            refine RL_do rfl rfl (fa66_3 rfl) ?_
            refine RL_do rfl rfl (Do_load one3 rfl (Cells.get (Blk.cells (H.item (i := 0) rfl)) (i := 3) rfl)) ?_
            refine RL_do rfl rfl (fa66_4 rfl) ?_
            refine RL_do rfl rfl (Do_load one3 rfl (Cells.get (Blk.cells (H.item (i := 0) rfl)) (i := 4) rfl)) ?_
            obtain ⟨x139, e140, hF⟩ := letO_some hF
            refine RL_do rfl rfl (Do_as (Do_gtr (a := p0.From) (b := p0.To) rfl rfl) (congrArg Value.bool e140)) ?_
            refine RL_do rfl rfl (Do_pick_f (v := .bool x139) rfl rfl) ?_
            refine RL_splitb (b := x139) rfl rfl rfl (fun c141 => ?_) (fun c141 => ?_)
            · have hF := iteB_t c141 hF
              refine RL_off rfl rfl ?_
              refine RL_off rfl rfl ?_
              refine RL_off rfl rfl ?_
              refine RL_do rfl rfl (Do_pick_t (v := .bool true) rfl rfl) ?_
              have hR := Option.some.inj hF
              subst hR
              refine (RL_nil (thenQ_n (And.intro ?_ ?_)))
              · repeat' (first | with_reducible exact Fr_refl | refine Fr_upd rfl ?_ | refine Fr_over rfl rfl ?_)
              · exact ⟨(), (Sl_cons rfl Sl_nil), H.pick [0, 1] (by decide)⟩
            · have hF := iteB_f c141 hF
              refine RL_do rfl rfl (fa66_4 rfl) ?_
              refine RL_do rfl rfl (Do_load one3 rfl (Cells.get (Blk.cells (H.item (i := 0) rfl)) (i := 4) rfl)) ?_
              obtain ⟨x142, e143, hF⟩ := letO_some hF
              refine RL_do rfl rfl (Do_as (Do_gtr (a := p0.To) (b := 4194303) rfl rfl) (congrArg Value.bool e143)) ?_
              refine RL_do rfl rfl (Do_pick_f (v := .bool x142) rfl rfl) ?_
              have hR := Option.some.inj hF
              subst hR
              refine (RL_nil (thenQ_n (And.intro ?_ ?_)))
              · repeat' (first | with_reducible exact Fr_refl | refine Fr_upd rfl ?_ | refine Fr_over rfl rfl ?_)
              · exact ⟨(), (Sl_cons rfl Sl_nil), H.pick [0, 1] (by decide)⟩
      · rintro _ ρ w128 H
        have hF := hK129
        refine WP_ifb (b := g127) rfl (fun c144 => ?_) (fun c144 => ?_)
        · have hF := iteB_t c144 hF
          refine WP_seq_k fun K145 hK145 => ?_
          refine WP_region ?_
          refine RL_do rfl rfl (Do_assign (v := .int .i64 9) rfl) ?_
          refine (RL_nil (thenQ_n (hK145 _ _ ?_)))
          have hR := Option.some.inj hF
          subst hR
          refine (WP_ret (thenQ_r (post1 (v1 := .int .i64 9) rfl rfl ?_)))
          exact ⟨rfl, H.pick [] (by decide)⟩
        · have hF := iteB_f c144 hF
          refine (WP_skip (thenQ_n (hK112 _ _ ?_)))
          refine WP_seq_k fun K165 hK165 => ?_
          obtain ⟨g180, hF, hK182⟩ := bindO_some hF
          refine WP_seqS [38, 39, 40, 41, 42, 43, 44, 45, 46, 47, 48, 49, 50] (fun (g : Unit) => [(50, .bool g180)]) (fun g wl => Hd O w wl S [.blk b4 [.string (bs p0.Tail), .string (bs p0.Route), .int .i64 p0.Day, .int .i64 p0.From, .int .i64 p0.To, v1] 66, .fz (.sl rTrack v1 p0.Tracks)]) ?_ ?_
          · skip
            refine WP_region ?_
            refine RL_do rfl rfl (fa66_4 rfl) ?_
            refine RL_do rfl rfl (Do_load one3 rfl (Cells.get (Blk.cells (H.item (i := 0) rfl)) (i := 4) rfl)) ?_
            refine RL_do rfl rfl (fa66_3 rfl) ?_
            refine RL_do rfl rfl (Do_load one3 rfl (Cells.get (Blk.cells (H.item (i := 0) rfl)) (i := 3) rfl)) ?_
            obtain ⟨x183, e184, hF⟩ := letO_some hF
            refine RL_do rfl rfl (Do_sub (a := p0.To) (b := p0.From) rfl rfl e184) ?_
            obtain ⟨x185, e186, hF⟩ := letO_some hF
            refine RL_do rfl rfl (Do_add (a := x183) (b := 1) rfl rfl e186) ?_
            obtain ⟨x187, e188, hF⟩ := letO_some hF
            refine RL_do rfl rfl (Do_as (Do_gtr (a := x185) (b := 20000) rfl rfl) (congrArg Value.bool e188)) ?_
            refine RL_splitb (b := x187) rfl rfl rfl (fun c189 => ?_) (fun c189 => ?_)
            · have hF := iteB_t c189 hF
              refine RL_off rfl rfl ?_
              refine RL_off rfl rfl ?_
              refine RL_off rfl rfl ?_
              refine RL_off rfl rfl ?_
              refine RL_do rfl rfl (Do_pick_t (v := .bool true) rfl rfl) ?_
              have hR := Option.some.inj hF
              subst hR
              refine (RL_nil (thenQ_n (And.intro ?_ ?_)))
              · repeat' (first | with_reducible exact Fr_refl | refine Fr_upd rfl ?_ | refine Fr_over rfl rfl ?_)
              · exact ⟨(), (Sl_cons rfl Sl_nil), H.pick [0, 1] (by decide)⟩
            · have hF := iteB_f c189 hF
              refine RL_do rfl rfl (fa66_5 rfl) ?_
              refine RL_do rfl rfl (Do_load one64 rfl (Cells.get (Blk.cells (H.item (i := 0) rfl)) (i := 5) rfl)) ?_
              obtain ⟨x190, e191, hF⟩ := letO_some hF
              obtain ⟨a192, c193, q194⟩ := SlF.len ((H.item (i := 1) rfl))
              refine RL_do rfl rfl (Do_as (Do_len u64 q194) (congrArg (Value.int .i64) e191)) ?_
              obtain ⟨x195, e196, hF⟩ := letO_some hF
              refine RL_do rfl rfl (Do_as (Do_gtr (a := x190) (b := 30) rfl rfl) (congrArg Value.bool e196)) ?_
              refine RL_do rfl rfl (Do_pick_f (v := .bool x195) rfl rfl) ?_
              have hR := Option.some.inj hF
              subst hR
              refine (RL_nil (thenQ_n (And.intro ?_ ?_)))
              · repeat' (first | with_reducible exact Fr_refl | refine Fr_upd rfl ?_ | refine Fr_over rfl rfl ?_)
              · exact ⟨(), (Sl_cons rfl Sl_nil), H.pick [0, 1] (by decide)⟩
          · rintro _ ρ w181 H
            have hF := hK182
            refine WP_ifb (b := g180) rfl (fun c197 => ?_) (fun c197 => ?_)
            · have hF := iteB_t c197 hF
              refine WP_seq_k fun K198 hK198 => ?_
              refine WP_region ?_
              refine RL_do rfl rfl (Do_assign (v := .int .i64 3) rfl) ?_
              refine (RL_nil (thenQ_n (hK198 _ _ ?_)))
              have hR := Option.some.inj hF
              subst hR
              refine (WP_ret (thenQ_r (post1 (v1 := .int .i64 3) rfl rfl ?_)))
              exact ⟨rfl, H.pick [] (by decide)⟩
            · have hF := iteB_f c197 hF
              refine (WP_skip (thenQ_n (hK165 _ _ ?_)))
              refine WP_seq_k fun K199 hK199 => ?_
              refine WP_region ?_
              refine RL_do rfl rfl (fa66_5 rfl) ?_
              refine RL_do rfl rfl (Do_load one64 rfl (Cells.get (Blk.cells (H.item (i := 0) rfl)) (i := 5) rfl)) ?_
              have H200 := H
              obtain ⟨x201, e202, hF⟩ := bindO_some hF
              refine RL_call rfl rfl (DoC_func en81 rfl) (F_ref6_CheckTracks_w p0.Tracks v1 _ e202 _ _ _ (H.enter [] [1] (by decide) rfl)) ?_
              rintro _ w203 ⟨rfl, G204⟩
              have H := H200.step (G204.only : Only [] _ _)
              refine ⟨_, rfl, ?_⟩
              refine RL_do rfl rfl (Do_assign (v := .int .i64 x201) rfl) ?_
              refine (RL_nil (thenQ_n (hK199 _ _ ?_)))
              have hR := Option.some.inj hF
              subst hR
              refine (WP_ret (post1 (v1 := .int .i64 x201) rfl rfl ?_))
              exact ⟨rfl, H.pick [] (by decide)⟩
end Go.Proofs.YtbjhondbheijiaaGreat.L
