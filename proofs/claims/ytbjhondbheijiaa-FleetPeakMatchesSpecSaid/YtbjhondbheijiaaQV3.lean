/- Walks: what each function computes, for every argument; no condition but those that stand in the statements. -/
import Derived.Test.YtbjhondbheijiaaQV0
import Derived.Test.YtbjhondbheijiaaQV2
namespace Go.Proofs.Ytbjhondbheijiaa
open Go.RowKit Go.OB Go.Lf
/- orangebox/orangeboxref9.CheckFlight -/
set_option maxHeartbeats 4000000 in
theorem F_ref9_CheckFlight_w (p0 : Flight) (v1 : Value) (r : Int) (hF : F_ref9_CheckFlight p0 = some r) (O S : List Nat) (w : World) (H : Hd O w w S [.fz (.sl rTrack v1 p0.Tracks)]) :
    Calls Try.prog 11 ([.agg [.string (bs p0.Tail), .string (bs p0.Route), .int .i64 p0.Day, .int .i64 p0.From, .int .i64 p0.To, v1].toArray] : List Value).toArray w fun e w' => e = .returned (.int .i64 r) ∧ Hd O w w' S [] := by
  unfold F_ref9_CheckFlight at hF
  refine calls_of_WP 54 Try.func11 rfl rfl rfl ?_
  refine WP_seq_k fun K3 hK3 => ?_
  refine WP_region ?_
  refine RL_ex rfl rfl (Lx_box (cs := [.string (bs p0.Tail), .string (bs p0.Route), .int .i64 p0.Day, .int .i64 p0.From, .int .i64 p0.To, v1]) rfl H) ?_
  rintro _ w6 ⟨b4, rfl, H⟩
  refine RL_do rfl rfl (Do_assign (v := .int .i64 0) rfl) ?_
  refine (RL_nil (thenQ_n (hK3 _ _ ?_)))
  refine WP_seq_k fun K56 hK56 => ?_
  obtain ⟨g79, hF, hK81⟩ := bindO_some hF
  refine WP_seqS [3, 4, 5, 6, 7, 8, 9, 10, 11, 12, 13, 14, 15, 16, 17] (fun (g : Unit) => [(17, .bool g79)]) (fun g wl => Hd O w wl S [.blk b4 [.string (bs p0.Tail), .string (bs p0.Route), .int .i64 p0.Day, .int .i64 p0.From, .int .i64 p0.To, v1] 24, .fz (.sl rTrack v1 p0.Tracks)]) ?_ ?_
  · skip
    refine WP_region ?_
    refine RL_do rfl rfl (fa24_0 rfl) ?_
    refine RL_do rfl rfl (Do_load one9 rfl (Cells.get (Blk.cells (H.item (i := 1) rfl)) (i := 0) rfl)) ?_
    obtain ⟨x82, e83, hF⟩ := letO_some hF
    refine RL_do rfl rfl (Do_as (Do_neqs (s1 := p0.Tail) (s2 := []) rfl rfl) (congrArg Value.bool e83)) ?_
    refine RL_splitb (b := x82) rfl rfl rfl (fun c84 => ?_) (fun c84 => ?_)
    · have hF := iteB_t c84 hF
      refine RL_do rfl rfl (fa24_0 rfl) ?_
      refine RL_do rfl rfl (Do_load one9 rfl (Cells.get (Blk.cells (H.item (i := 1) rfl)) (i := 0) rfl)) ?_
      obtain ⟨x85, e86, hF⟩ := bindO_some hF
      refine RL_call rfl rfl (DoC_func en12 rfl) (F_ref6_IsName_w p0.Tail _ e86 _ _ _ (H.enter [] [] (by decide) rfl)) ?_
      rintro _ w87 ⟨rfl, G88⟩
      have H := H.back0 [] rfl G88
      refine ⟨_, rfl, ?_⟩
      obtain ⟨x89, e90, hF⟩ := letO_some hF
      refine RL_do rfl rfl (Do_as (Do_not (p := x85) rfl) (congrArg Value.bool e90)) ?_
      refine RL_do rfl rfl (Do_pick_t (v := .bool x89) rfl rfl) ?_
      refine RL_splitb (b := x89) rfl rfl rfl (fun c91 => ?_) (fun c91 => ?_)
      · have hF := iteB_t c91 hF
        refine RL_off rfl rfl ?_
        refine RL_off rfl rfl ?_
        refine RL_off rfl rfl ?_
        refine RL_off rfl rfl ?_
        refine RL_do rfl rfl (Do_pick_t (v := .bool true) rfl rfl) ?_
        have hR := Option.some.inj hF
        subst hR
        refine (RL_nil (thenQ_n (And.intro ?_ ?_)))
        · repeat' (first | with_reducible exact Fr_refl | refine Fr_upd rfl ?_ | refine Fr_over rfl rfl ?_)
        · exact ⟨(), (Sl_cons rfl Sl_nil), H.pick [1, 0] (by decide)⟩
      · have hF := iteB_f c91 hF
        refine RL_do rfl rfl (fa24_1 rfl) ?_
        refine RL_do rfl rfl (Do_load one9 rfl (Cells.get (Blk.cells (H.item (i := 1) rfl)) (i := 1) rfl)) ?_
        obtain ⟨x92, e93, hF⟩ := bindO_some hF
        refine RL_call rfl rfl (DoC_func en12 rfl) (F_ref6_IsName_w p0.Route _ e93 _ _ _ (H.enter [] [] (by decide) rfl)) ?_
        rintro _ w94 ⟨rfl, G95⟩
        have H := H.back0 [] rfl G95
        refine ⟨_, rfl, ?_⟩
        obtain ⟨x96, e97, hF⟩ := letO_some hF
        refine RL_do rfl rfl (Do_as (Do_not (p := x92) rfl) (congrArg Value.bool e97)) ?_
        refine RL_do rfl rfl (Do_pick_f (v := .bool x96) rfl rfl) ?_
        have hR := Option.some.inj hF
        subst hR
        refine (RL_nil (thenQ_n (And.intro ?_ ?_)))
        · repeat' (first | with_reducible exact Fr_refl | refine Fr_upd rfl ?_ | refine Fr_over rfl rfl ?_)
        · exact ⟨(), (Sl_cons rfl Sl_nil), H.pick [1, 0] (by decide)⟩
    · have hF := iteB_f c84 hF
      refine RL_off rfl rfl ?_
      refine RL_off rfl rfl ?_
      refine RL_off rfl rfl ?_
      refine RL_off rfl rfl ?_
      refine RL_do rfl rfl (Do_pick_f (v := .bool false) rfl rfl) ?_
      refine RL_do rfl rfl (Do_move (v := .bool false) rfl) ?_
      refine RL_do rfl rfl (fa24_1 rfl) ?_
      refine RL_do rfl rfl (Do_load one9 rfl (Cells.get (Blk.cells (H.item (i := 1) rfl)) (i := 1) rfl)) ?_
      obtain ⟨x98, e99, hF⟩ := bindO_some hF
      refine RL_call rfl rfl (DoC_func en12 rfl) (F_ref6_IsName_w p0.Route _ e99 _ _ _ (H.enter [] [] (by decide) rfl)) ?_
      rintro _ w100 ⟨rfl, G101⟩
      have H := H.back0 [] rfl G101
      refine ⟨_, rfl, ?_⟩
      obtain ⟨x102, e103, hF⟩ := letO_some hF
      refine RL_do rfl rfl (Do_as (Do_not (p := x98) rfl) (congrArg Value.bool e103)) ?_
      refine RL_do rfl rfl (Do_pick_f (v := .bool x102) rfl rfl) ?_
      have hR := Option.some.inj hF
      subst hR
      refine (RL_nil (thenQ_n (And.intro ?_ ?_)))
      · repeat' (first | with_reducible exact Fr_refl | refine Fr_upd rfl ?_ | refine Fr_over rfl rfl ?_)
      · exact ⟨(), (Sl_cons rfl Sl_nil), H.pick [1, 0] (by decide)⟩
  · rintro _ ρ w80 H
    have hF := hK81
    refine WP_ifb (b := g79) rfl (fun c104 => ?_) (fun c104 => ?_)
    · have hF := iteB_t c104 hF
      refine WP_seq_k fun K105 hK105 => ?_
      refine WP_region ?_
      refine RL_do rfl rfl (Do_assign (v := .int .i64 8) rfl) ?_
      refine (RL_nil (thenQ_n (hK105 _ _ ?_)))
      have hR := Option.some.inj hF
      subst hR
      refine (WP_ret (thenQ_r (post1 (v1 := .int .i64 8) rfl rfl ?_)))
      exact ⟨rfl, H.pick [] (by decide)⟩
    · have hF := iteB_f c104 hF
      refine (WP_skip (thenQ_n (hK56 _ _ ?_)))
      refine WP_seq_k fun K137 hK137 => ?_
      obtain ⟨g151, hF, hK153⟩ := bindO_some hF
      refine WP_seqS [18, 19, 20, 21, 22, 23, 24, 25, 26, 27, 28, 29, 30, 31, 32, 33, 34, 35, 36, 37] (fun (g : Unit) => [(37, .bool g151)]) (fun g wl => Hd O w wl S [.blk b4 [.string (bs p0.Tail), .string (bs p0.Route), .int .i64 p0.Day, .int .i64 p0.From, .int .i64 p0.To, v1] 24, .fz (.sl rTrack v1 p0.Tracks)]) ?_ ?_
      · skip
        refine WP_region ?_
        refine RL_do rfl rfl (fa24_2 rfl) ?_
        refine RL_do rfl rfl (Do_load one3 rfl (Cells.get (Blk.cells (H.item (i := 0) rfl)) (i := 2) rfl)) ?_
        obtain ⟨x154, e155, hF⟩ := bindO_some hF
        refine RL_call rfl rfl (DoC_func en21 rfl) (F_ref9_outside_w p0.Day 0 1000000 _ e155 _ _ _ (H.enter [] [] (by decide) rfl)) ?_
        rintro _ w156 ⟨rfl, G157⟩
        have H := H.back0 [] rfl G157
        refine ⟨_, rfl, ?_⟩
        refine RL_splitb (b := x154) rfl rfl rfl (fun c158 => ?_) (fun c158 => ?_)
        · have hF := iteB_t c158 hF
          refine RL_off rfl rfl ?_
          refine RL_off rfl rfl ?_
          refine RL_off rfl rfl ?_
          refine RL_do rfl rfl (Do_pick_t (v := .bool true) rfl rfl) ?_
          refine RL_do rfl rfl (Do_move (v := .bool true) rfl) ?_
          refine RL_off rfl rfl ?_
          refine RL_off rfl rfl ?_
          refine RL_off rfl rfl ?_
          refine RL_off rfl rfl ?_
          refine RL_off rfl rfl ?_
          refine RL_do rfl rfl (Do_pick_t (v := .bool true) rfl rfl) ?_
          refine RL_do rfl rfl (Do_move (v := .bool true) rfl) ?_
          refine RL_off rfl rfl ?_
          refine RL_off rfl rfl ?_
          refine RL_off rfl rfl ?_
          refine RL_do rfl rfl (Do_pick_t (v := .bool true) rfl rfl) ?_
          have hR := Option.some.inj hF
          subst hR
          refine (RL_nil (thenQ_n (And.intro ?_ ?_)))
          · repeat' (first | with_reducible exact Fr_refl | refine Fr_upd rfl ?_ | refine Fr_over rfl rfl ?_)
          · exact ⟨(), (Sl_cons rfl Sl_nil), H.pick [0, 1] (by decide)⟩
        · have hF := iteB_f c158 hF
          refine RL_do rfl rfl (fa24_3 rfl) ?_
          refine RL_do rfl rfl (Do_load one3 rfl (Cells.get (Blk.cells (H.item (i := 0) rfl)) (i := 3) rfl)) ?_
          obtain ⟨x159, e160, hF⟩ := letO_some hF
          refine RL_do rfl rfl (Do_as (Do_lss (a := p0.From) (b := 0) rfl rfl) (congrArg Value.bool e160)) ?_
          refine RL_do rfl rfl (Do_pick_f (v := .bool x159) rfl rfl) ?_
          refine RL_splitb (b := x159) rfl rfl rfl (fun c161 => ?_) (fun c161 => ?_)
          · have hF := iteB_t c161 hF
            refine RL_off rfl rfl ?_
            refine RL_off rfl rfl ?_
            refine RL_off rfl rfl ?_
            refine RL_off rfl rfl ?_
            refine RL_off rfl rfl ?_
            refine RL_do rfl rfl (Do_pick_t (v := .bool true) rfl rfl) ?_
            refine RL_do rfl rfl (Do_move (v := .bool true) rfl) ?_
            refine RL_off rfl rfl ?_
            refine RL_off rfl rfl ?_
            refine RL_off rfl rfl ?_
            refine RL_do rfl rfl (Do_pick_t (v := .bool true) rfl rfl) ?_
            have hR := Option.some.inj hF
            subst hR
            refine (RL_nil (thenQ_n (And.intro ?_ ?_)))
            · repeat' (first | with_reducible exact Fr_refl | refine Fr_upd rfl ?_ | refine Fr_over rfl rfl ?_)
            · exact ⟨(), (Sl_cons rfl Sl_nil), H.pick [0, 1] (by decide)⟩
          · have hF := iteB_f c161 hF
            refine RL_do rfl rfl (fa24_3 rfl) ?_
            refine RL_do rfl rfl (Do_load one3 rfl (Cells.get (Blk.cells (H.item (i := 0) rfl)) (i := 3) rfl)) ?_
            refine RL_do rfl rfl (fa24_4 rfl) ?_
            refine RL_do rfl rfl (Do_load one3 rfl (Cells.get (Blk.cells (H.item (i := 0) rfl)) (i := 4) rfl)) ?_
            obtain ⟨x162, e163, hF⟩ := letO_some hF
            refine RL_do rfl rfl (Do_as (Do_gtr (a := p0.From) (b := p0.To) rfl rfl) (congrArg Value.bool e163)) ?_
            refine RL_do rfl rfl (Do_pick_f (v := .bool x162) rfl rfl) ?_
            refine RL_splitb (b := x162) rfl rfl rfl (fun c164 => ?_) (fun c164 => ?_)
            · have hF := iteB_t c164 hF
              refine RL_off rfl rfl ?_
              refine RL_off rfl rfl ?_
              refine RL_off rfl rfl ?_
              refine RL_do rfl rfl (Do_pick_t (v := .bool true) rfl rfl) ?_
              have hR := Option.some.inj hF
              subst hR
              refine (RL_nil (thenQ_n (And.intro ?_ ?_)))
              · repeat' (first | with_reducible exact Fr_refl | refine Fr_upd rfl ?_ | refine Fr_over rfl rfl ?_)
              · exact ⟨(), (Sl_cons rfl Sl_nil), H.pick [0, 1] (by decide)⟩
            · have hF := iteB_f c164 hF
              refine RL_do rfl rfl (fa24_4 rfl) ?_
              refine RL_do rfl rfl (Do_load one3 rfl (Cells.get (Blk.cells (H.item (i := 0) rfl)) (i := 4) rfl)) ?_
              obtain ⟨x165, e166, hF⟩ := letO_some hF
              refine RL_do rfl rfl (Do_as (Do_gtr (a := p0.To) (b := 4194303) rfl rfl) (congrArg Value.bool e166)) ?_
              refine RL_do rfl rfl (Do_pick_f (v := .bool x165) rfl rfl) ?_
              have hR := Option.some.inj hF
              subst hR
              refine (RL_nil (thenQ_n (And.intro ?_ ?_)))
              · repeat' (first | with_reducible exact Fr_refl | refine Fr_upd rfl ?_ | refine Fr_over rfl rfl ?_)
              · exact ⟨(), (Sl_cons rfl Sl_nil), H.pick [0, 1] (by decide)⟩
      · rintro _ ρ w152 H
        have hF := hK153
        refine WP_ifb (b := g151) rfl (fun c167 => ?_) (fun c167 => ?_)
        · have hF := iteB_t c167 hF
          refine WP_seq_k fun K168 hK168 => ?_
          refine WP_region ?_
          refine RL_do rfl rfl (Do_assign (v := .int .i64 9) rfl) ?_
          refine (RL_nil (thenQ_n (hK168 _ _ ?_)))
          have hR := Option.some.inj hF
          subst hR
          refine (WP_ret (thenQ_r (post1 (v1 := .int .i64 9) rfl rfl ?_)))
          exact ⟨rfl, H.pick [] (by decide)⟩
        · have hF := iteB_f c167 hF
          refine (WP_skip (thenQ_n (hK137 _ _ ?_)))
          refine WP_seq_k fun K202 hK202 => ?_
          obtain ⟨g217, hF, hK219⟩ := bindO_some hF
          refine WP_seqS [38, 39, 40, 41, 42, 43, 44, 45, 46, 47, 48, 49, 50] (fun (g : Unit) => [(50, .bool g217)]) (fun g wl => Hd O w wl S [.blk b4 [.string (bs p0.Tail), .string (bs p0.Route), .int .i64 p0.Day, .int .i64 p0.From, .int .i64 p0.To, v1] 24, .fz (.sl rTrack v1 p0.Tracks)]) ?_ ?_
          · skip
            refine WP_region ?_
            refine RL_do rfl rfl (fa24_4 rfl) ?_
            refine RL_do rfl rfl (Do_load one3 rfl (Cells.get (Blk.cells (H.item (i := 0) rfl)) (i := 4) rfl)) ?_
            refine RL_do rfl rfl (fa24_3 rfl) ?_
            refine RL_do rfl rfl (Do_load one3 rfl (Cells.get (Blk.cells (H.item (i := 0) rfl)) (i := 3) rfl)) ?_
            obtain ⟨x220, e221, hF⟩ := letO_some hF
            refine RL_do rfl rfl (Do_sub (a := p0.To) (b := p0.From) rfl rfl e221) ?_
            obtain ⟨x222, e223, hF⟩ := letO_some hF
            refine RL_do rfl rfl (Do_add (a := x220) (b := 1) rfl rfl e223) ?_
            obtain ⟨x224, e225, hF⟩ := letO_some hF
            refine RL_do rfl rfl (Do_as (Do_gtr (a := x222) (b := 20000) rfl rfl) (congrArg Value.bool e225)) ?_
            refine RL_splitb (b := x224) rfl rfl rfl (fun c226 => ?_) (fun c226 => ?_)
            · have hF := iteB_t c226 hF
              refine RL_off rfl rfl ?_
              refine RL_off rfl rfl ?_
              refine RL_off rfl rfl ?_
              refine RL_off rfl rfl ?_
              refine RL_do rfl rfl (Do_pick_t (v := .bool true) rfl rfl) ?_
              have hR := Option.some.inj hF
              subst hR
              refine (RL_nil (thenQ_n (And.intro ?_ ?_)))
              · repeat' (first | with_reducible exact Fr_refl | refine Fr_upd rfl ?_ | refine Fr_over rfl rfl ?_)
              · exact ⟨(), (Sl_cons rfl Sl_nil), H.pick [0, 1] (by decide)⟩
            · have hF := iteB_f c226 hF
              refine RL_do rfl rfl (fa24_5 rfl) ?_
              refine RL_do rfl rfl (Do_load one22 rfl (Cells.get (Blk.cells (H.item (i := 0) rfl)) (i := 5) rfl)) ?_
              obtain ⟨x227, e228, hF⟩ := letO_some hF
              obtain ⟨a229, c230, q231⟩ := SlF.len ((H.item (i := 1) rfl))
              refine RL_do rfl rfl (Do_as (Do_len u22 q231) (congrArg (Value.int .i64) e228)) ?_
              obtain ⟨x232, e233, hF⟩ := letO_some hF
              refine RL_do rfl rfl (Do_as (Do_gtr (a := x227) (b := 30) rfl rfl) (congrArg Value.bool e233)) ?_
              refine RL_do rfl rfl (Do_pick_f (v := .bool x232) rfl rfl) ?_
              have hR := Option.some.inj hF
              subst hR
              refine (RL_nil (thenQ_n (And.intro ?_ ?_)))
              · repeat' (first | with_reducible exact Fr_refl | refine Fr_upd rfl ?_ | refine Fr_over rfl rfl ?_)
              · exact ⟨(), (Sl_cons rfl Sl_nil), H.pick [0, 1] (by decide)⟩
          · rintro _ ρ w218 H
            have hF := hK219
            refine WP_ifb (b := g217) rfl (fun c234 => ?_) (fun c234 => ?_)
            · have hF := iteB_t c234 hF
              refine WP_seq_k fun K235 hK235 => ?_
              refine WP_region ?_
              refine RL_do rfl rfl (Do_assign (v := .int .i64 3) rfl) ?_
              refine (RL_nil (thenQ_n (hK235 _ _ ?_)))
              have hR := Option.some.inj hF
              subst hR
              refine (WP_ret (thenQ_r (post1 (v1 := .int .i64 3) rfl rfl ?_)))
              exact ⟨rfl, H.pick [] (by decide)⟩
            · have hF := iteB_f c234 hF
              refine (WP_skip (thenQ_n (hK202 _ _ ?_)))
              refine WP_seq_k fun K236 hK236 => ?_
              refine WP_region ?_
              refine RL_do rfl rfl (fa24_5 rfl) ?_
              refine RL_do rfl rfl (Do_load one22 rfl (Cells.get (Blk.cells (H.item (i := 0) rfl)) (i := 5) rfl)) ?_
              obtain ⟨x237, e238, hF⟩ := bindO_some hF
              refine RL_call rfl rfl (DoC_func en22 rfl) (F_ref6_CheckTracks_w p0.Tracks v1 _ e238 _ _ _ (H.enter [] [1] (by decide) rfl)) ?_
              rintro _ w239 ⟨rfl, G240⟩
              have H := H.back0 [1] rfl G240
              refine ⟨_, rfl, ?_⟩
              refine RL_do rfl rfl (Do_assign (v := .int .i64 x237) rfl) ?_
              refine (RL_nil (thenQ_n (hK236 _ _ ?_)))
              have hR := Option.some.inj hF
              subst hR
              refine (WP_ret (post1 (v1 := .int .i64 x237) rfl rfl ?_))
              exact ⟨rfl, H.pick [] (by decide)⟩
end Go.Proofs.Ytbjhondbheijiaa
namespace Go.Proofs.Ytbjhondbheijiaa
open Go.RowKit Go.OB Go.Lf
/- orangebox/orangeboxref9.peak -/
set_option maxHeartbeats 4000000 in
theorem F_ref9_peak_w (p0 : Flight) (p1 : Str) (v1 : Value) (r : Int × Int × Bool) (hF : F_ref9_peak p0 p1 = some r) (O S : List Nat) (w : World) (H : Hd O w w S [.fz (.sl rTrack v1 p0.Tracks)]) :
    Calls Try.prog 13 ([.agg [.string (bs p0.Tail), .string (bs p0.Route), .int .i64 p0.Day, .int .i64 p0.From, .int .i64 p0.To, v1].toArray, .string (bs p1)] : List Value).toArray w fun e w' => e = .returned (.tuple #[.int .i64 r.1, .int .i64 r.2.1, .bool r.2.2]) ∧ Hd O w w' S [] := by
  unfold F_ref9_peak at hF
  refine calls_of_WP 83 Try.func13 rfl rfl rfl ?_
  refine WP_seq_k fun K3 hK3 => ?_
  refine WP_region ?_
  refine RL_ex rfl rfl (Lx_box (cs := [.string (bs p0.Tail), .string (bs p0.Route), .int .i64 p0.Day, .int .i64 p0.From, .int .i64 p0.To, v1]) rfl H) ?_
  rintro _ w6 ⟨b4, rfl, H⟩
  refine RL_do rfl rfl (Do_assign (v := .int .i64 0) rfl) ?_
  refine RL_do rfl rfl (Do_assign (v := .int .i64 0) rfl) ?_
  refine RL_do rfl rfl (Do_assign (v := .bool false) rfl) ?_
  refine (RL_nil (thenQ_n (hK3 _ _ ?_)))
  refine WP_seq_k fun K7 hK7 => ?_
  refine WP_region ?_
  refine RL_do rfl rfl (Do_assign (v := .int .i64 0) rfl) ?_
  refine RL_do rfl rfl (Do_assign (v := .int .i64 1) rfl) ?_
  refine RL_do rfl rfl (Do_assign (v := .bool false) rfl) ?_
  refine (RL_nil (thenQ_n (hK7 _ _ ?_)))
  obtain ⟨j4707, hF, hK4706⟩ := bindO_some hF
  refine WP_seqS [7, 8, 9, 10, 11, 12, 13, 14, 15, 16, 17, 18, 19, 20, 21, 22, 23, 24, 25, 26, 27, 28, 29, 30, 31, 32, 33, 34, 35, 36, 37, 38, 39, 40, 41, 42, 43, 44, 45, 46, 47, 48, 49, 50, 51, 52, 53, 54, 55, 56, 57, 58, 59, 60, 61, 62, 63, 64, 65, 66, 67, 68, 69, 70, 71, 72, 73, 74, 75, 76, 77, 78, 79] (fun (g : Unit) => [(7, .int .i64 j4707.1), (8, .int .i64 j4707.2.1), (9, .bool j4707.2.2)]) (fun g wl => Hd O w wl S []) ?_ ?_
  · skip
    refine WP_seq_k fun K4708 hK4708 => ?_
    refine WP_region ?_
    refine RL_do rfl rfl (Do_assign (v := .int .i64 0) rfl) ?_
    refine (RL_nil (thenQ_n (hK4708 _ _ ?_)))
    refine WP_block ?_
    unfold F_ref9_peak_L1 at hF
    obtain ⟨B7819, n7820, eB7821, hF⟩ := loopO_some hF
    refine WP_loopS [7, 8, 9, 10, 11, 12, 13, 14, 15, 16, 17, 18, 19, 20, 21, 22, 23, 24, 25, 26, 27, 28, 29, 30, 31, 32, 33, 34, 35, 36, 37, 38, 39, 40, 41, 42, 43, 44, 45, 46, 47, 48, 49, 50, 51, 52, 53, 54, 55, 56, 57, 58, 59, 60, 61, 62, 63, 64, 65, 66, 67, 68, 69, 70, 71, 72, 73, 74, 75, 76, 77, 78, 79] (fun (g : Nat × Int × Int × Bool × Int) => [(7, .int .i64 g.2.1), (8, .int .i64 g.2.2.1), (9, .bool g.2.2.2.1), (10, .int .i64 g.2.2.2.2)]) (fun g wl => Hd O w wl S [.blk b4 [.string (bs p0.Tail), .string (bs p0.Route), .int .i64 p0.Day, .int .i64 p0.From, .int .i64 p0.To, v1] 24, .fz (.sl rTrack v1 p0.Tracks)] ∧ loopN B7819 g.1 (g.2.1, g.2.2.1, g.2.2.2.1, g.2.2.2.2) = some j4707) (fun g => g.1) (n7820, 0, 1, false, 0) (Sl_cons rfl (Sl_cons rfl (Sl_cons rfl (Sl_cons rfl Sl_nil)))) ⟨H.pick [1, 0] (by decide), hF⟩ ?_
    clear H hF
    rintro ⟨n7820, g7815, g7816, g7817, g7818⟩ ρ w7823 ⟨H, hF⟩
    obtain ⟨n7824, rfl, hF⟩ := loopN_pos hF
    have hF := loop_body eB7821 hF
    refine WP_seq_k fun K7834 hK7834 => ?_
    refine WP_seq_k fun K7835 hK7835 => ?_
    refine WP_region ?_
    refine RL_do rfl rfl (Do_move (v := .int .i64 g7818) rfl) ?_
    refine RL_do rfl rfl (fa24_5 rfl) ?_
    refine RL_do rfl rfl (Do_load one22 rfl (Cells.get (Blk.cells (H.item (i := 0) rfl)) (i := 5) rfl)) ?_
    obtain ⟨x7836, e7837, hF⟩ := letO_some hF
    obtain ⟨a7838, c7839, q7840⟩ := SlF.len ((H.item (i := 1) rfl))
    refine RL_do rfl rfl (Do_as (Do_len u22 q7840) (congrArg (Value.int .i64) e7837)) ?_
    obtain ⟨x7841, e7842, hF⟩ := letO_some hF
    refine RL_do rfl rfl (Do_as (Do_lss (a := g7818) (b := x7836) rfl rfl) (congrArg Value.bool e7842)) ?_
    refine (RL_nil (thenQ_n (hK7835 _ _ ?_)))
    refine WP_ifb (b := x7841) rfl (fun c7843 => ?_) (fun c7843 => ?_)
    · have hF := iteB_t c7843 hF
      refine (WP_skip (thenQ_n (hK7834 _ _ ?_)))
      obtain ⟨j8624, hF, hK8623⟩ := bindO_some hF
      refine WP_seqS [7, 8, 9, 11, 12, 13, 21, 22, 23, 24, 25, 26, 27, 28, 29, 30, 31, 32, 33, 34, 35, 36, 37, 38, 39, 40, 41, 42, 43, 44, 45, 46, 47, 48, 49, 50, 51, 52, 53, 54, 55, 56, 57, 58, 59, 60, 61, 62, 63, 64, 65, 66, 67, 68, 69, 70, 71, 72, 73, 74, 75, 76, 77, 78, 79] (fun (g : Unit) => [(7, .int .i64 j8624.1), (8, .int .i64 j8624.2.1), (9, .bool j8624.2.2)]) (fun g wl => Hd O w wl S [.blk b4 [.string (bs p0.Tail), .string (bs p0.Route), .int .i64 p0.Day, .int .i64 p0.From, .int .i64 p0.To, v1] 24, .fz (.sl rTrack v1 p0.Tracks)]) ?_ ?_
      · skip
        refine WP_block ?_
        refine WP_seq_k fun K8644 hK8644 => ?_
        refine WP_seq_k fun K8645 hK8645 => ?_
        refine WP_region ?_
        refine RL_do rfl rfl (fa24_5 rfl) ?_
        refine RL_do rfl rfl (Do_load one22 rfl (Cells.get (Blk.cells (H.item (i := 0) rfl)) (i := 5) rfl)) ?_
        refine RL_do rfl rfl (Do_move (v := .int .i64 g7818) rfl) ?_
        obtain ⟨x8646, e8647, hF⟩ := bindO_some hF
        obtain ⟨b8648, o8649, c8650, cs8651, q8652, h8655, h8653, h8654, h8656⟩ := rd_at (H.item (i := 1) rfl) e8647
        obtain ⟨v8657, rfl, h8658⟩ := rTrack_open h8655
        have H := H.fzs [.at b8648 (o8649 + g7818.toNat * 4) _, .sl rSample v8657 x8646.Series.Samples] ⟨⟨h8653, h8654, h8656⟩, h8658, trivial⟩
        refine RL_do rfl rfl (Do_idx u22 sz60 q8652 rfl (at_some e8647).1 (at_some e8647).2.1 rfl rfl) ?_
        refine RL_do rfl rfl (fa60_0 rfl) ?_
        refine RL_do rfl rfl (Do_load one9 rfl (Cells.get (H.item (i := 2) rfl).2.2 (i := 0) rfl)) ?_
        refine RL_do rfl rfl (Do_move (v := .string (bs p1)) rfl) ?_
        obtain ⟨x8661, e8662, hF⟩ := letO_some hF
        refine RL_do rfl rfl (Do_as (Do_neqs (s1 := x8646.Name) (s2 := p1) rfl rfl) (congrArg Value.bool e8662)) ?_
        refine (RL_nil (thenQ_n (hK8645 _ _ ?_)))
        refine WP_ifb (b := x8661) rfl (fun c8663 => ?_) (fun c8663 => ?_)
        · have hF := iteB_t c8663 hF
          have hR := Option.some.inj hF
          subst hR
          refine (WP_exit (thenQ_x (blockQ_eq (thenQ_n (And.intro ?_ ?_)))))
          · repeat' (first | with_reducible exact Fr_refl | refine Fr_upd rfl ?_ | refine Fr_over rfl rfl ?_)
          · exact ⟨(), (Sl_cons rfl (Sl_cons rfl (Sl_cons rfl Sl_nil))), H.pick [0, 1] (by decide)⟩
        · have hF := iteB_f c8663 hF
          refine (WP_skip (thenQ_n (hK8644 _ _ ?_)))
          refine WP_seq_k fun K8664 hK8664 => ?_
          refine WP_region ?_
          refine RL_do rfl rfl (fa24_5 rfl) ?_
          refine RL_do rfl rfl (Do_load one22 rfl (Cells.get (Blk.cells (H.item (i := 0) rfl)) (i := 5) rfl)) ?_
          refine RL_do rfl rfl (Do_move (v := .int .i64 g7818) rfl) ?_
          obtain ⟨x8665, e8666, hF⟩ := bindO_some hF
          obtain ⟨b8667, o8668, c8669, cs8670, q8671, h8674, h8672, h8673, h8675⟩ := rd_at (H.item (i := 1) rfl) e8666
          obtain ⟨v8676, rfl, h8677⟩ := rTrack_open h8674
          have H := H.fzs [.at b8667 (o8668 + g7818.toNat * 4) _, .sl rSample v8676 x8665.Series.Samples] ⟨⟨h8672, h8673, h8675⟩, h8677, trivial⟩
          refine RL_do rfl rfl (Do_idx u22 sz60 q8671 rfl (at_some e8666).1 (at_some e8666).2.1 rfl rfl) ?_
          refine RL_do rfl rfl (fa60_1 rfl) ?_
          refine RL_do rfl rfl (Do_as (Do_loads (cs := [.int .i64 x8665.Series.Den, v8676]) agg58 rfl sz58 rfl (Cells.drop (H.item (i := 4) rfl).2.2 1 2)) rfl) ?_
          refine RL_ex rfl rfl (Lx_alloc zero58 H) ?_
          rintro _ w8682 ⟨b8680, rfl, H⟩
          refine RL_exU rfl (Lx_storeN (vs := [.int .i64 x8665.Series.Den, v8676]) H 6 rfl sz58 rfl rfl rfl ⟨rfl, (slf_one (H.item (i := 5) rfl)), trivial⟩ rfl) ?_
          rintro w8683 H
          refine (RL_nil (thenQ_n (hK8664 _ _ ?_)))
          refine WP_seq_k fun K8684 hK8684 => ?_
          refine WP_region ?_
          refine RL_do rfl rfl (fa58_0 rfl) ?_
          refine RL_do rfl rfl (Do_load one3 rfl (Cells.get (Blk.cells (H.item (i := 6) rfl)) (i := 0) rfl)) ?_
          refine RL_do rfl rfl (Do_assign (v := .int .i64 x8665.Series.Den) rfl) ?_
          refine (RL_nil (thenQ_n (hK8684 _ _ ?_)))
          refine WP_seq_k fun K8685 hK8685 => ?_
          refine WP_region ?_
          refine RL_do rfl rfl (Do_assign (v := .int .i64 0) rfl) ?_
          refine (RL_nil (thenQ_n (hK8685 _ _ ?_)))
          refine WP_block ?_
          unfold F_ref9_peak_L2 at hF
          obtain ⟨B9160, n9161, eB9162, hF⟩ := loopO_some hF
          refine WP_loopS [7, 9, 12, 13, 37, 38, 39, 40, 41, 42, 43, 44, 45, 46, 47, 48, 49, 50, 51, 52, 53, 54, 55, 56, 57, 58, 59, 60, 61, 62, 63, 64, 65, 66, 67, 68, 69, 70, 71, 72, 73, 74, 75, 76, 77, 78, 79] (fun (g : Nat × Int × Bool × Int) => [(7, .int .i64 g.2.1), (9, .bool g.2.2.1), (12, .int .i64 g.2.2.2)]) (fun g wl => Hd O w wl S [.blk b4 [.string (bs p0.Tail), .string (bs p0.Route), .int .i64 p0.Day, .int .i64 p0.From, .int .i64 p0.To, v1] 24, .fz (.sl rTrack v1 p0.Tracks), .blk b8680 [.int .i64 x8665.Series.Den, v8676] 58, .fz (.sl rSample v8676 x8665.Series.Samples)] ∧ loopN B9160 g.1 (g.2.1, g.2.2.1, g.2.2.2) = some j8624) (fun g => g.1) (n9161, g7815, g7817, 0) (Sl_cons rfl (Sl_cons rfl (Sl_cons rfl Sl_nil))) ⟨H.pick [0, 1, 6, 5] (by decide), hF⟩ ?_
          clear H hF
          rintro ⟨n9161, g9157, g9158, g9159⟩ ρ w9164 ⟨H, hF⟩
          obtain ⟨n9165, rfl, hF⟩ := loopN_pos hF
          have hF := loop_body eB9162 hF
          refine WP_seq_k fun K9175 hK9175 => ?_
          refine WP_seq_k fun K9176 hK9176 => ?_
          refine WP_region ?_
          refine RL_do rfl rfl (Do_move (v := .int .i64 g9159) rfl) ?_
          refine RL_do rfl rfl (fa58_1 rfl) ?_
          refine RL_do rfl rfl (Do_load one56 rfl (Cells.get (Blk.cells (H.item (i := 2) rfl)) (i := 1) rfl)) ?_
          obtain ⟨x9177, e9178, hF⟩ := letO_some hF
          obtain ⟨a9179, c9180, q9181⟩ := SlF.len ((H.item (i := 3) rfl))
          refine RL_do rfl rfl (Do_as (Do_len u56 q9181) (congrArg (Value.int .i64) e9178)) ?_
          obtain ⟨x9182, e9183, hF⟩ := letO_some hF
          refine RL_do rfl rfl (Do_as (Do_lss (a := g9159) (b := x9177) rfl rfl) (congrArg Value.bool e9183)) ?_
          refine (RL_nil (thenQ_n (hK9176 _ _ ?_)))
          refine WP_ifb (b := x9182) rfl (fun c9184 => ?_) (fun c9184 => ?_)
          · have hF := iteB_t c9184 hF
            refine (WP_skip (thenQ_n (hK9175 _ _ ?_)))
            obtain ⟨j9293, hF, hK9292⟩ := bindO_some hF
            refine WP_seqS [7, 9, 13, 44, 45, 46, 47, 48, 49, 50, 51, 52, 53, 54, 55, 56, 57, 58, 59, 60, 61, 62, 63, 64, 65, 66, 67, 68, 69, 70, 71, 72, 73, 74, 75, 76, 77, 78, 79] (fun (g : Unit) => [(7, .int .i64 j9293.1), (9, .bool j9293.2)]) (fun g wl => Hd O w wl S [.blk b4 [.string (bs p0.Tail), .string (bs p0.Route), .int .i64 p0.Day, .int .i64 p0.From, .int .i64 p0.To, v1] 24, .fz (.sl rTrack v1 p0.Tracks), .blk b8680 [.int .i64 x8665.Series.Den, v8676] 58, .fz (.sl rSample v8676 x8665.Series.Samples)]) ?_ ?_
            · skip
              refine WP_block ?_
              refine WP_seq_k fun K9294 hK9294 => ?_
              refine WP_region ?_
              refine RL_do rfl rfl (fa58_1 rfl) ?_
              refine RL_do rfl rfl (Do_load one56 rfl (Cells.get (Blk.cells (H.item (i := 2) rfl)) (i := 1) rfl)) ?_
              refine RL_do rfl rfl (Do_move (v := .int .i64 g9159) rfl) ?_
              obtain ⟨x9295, e9296, hF⟩ := bindO_some hF
              obtain ⟨b9297, o9298, c9299, cs9300, q9301, h9304, h9302, h9303, h9305⟩ := rd_at (H.item (i := 3) rfl) e9296
              obtain rfl := rSample_open h9304
              have H := H.fz (.at b9297 (o9298 + g9159.toNat * 3) _) ⟨h9302, h9303, h9305⟩
              refine RL_do rfl rfl (Do_idx u56 sz62 q9301 rfl (at_some e9296).1 (at_some e9296).2.1 rfl rfl) ?_
              refine RL_do rfl rfl (Do_as (Do_loads (cs := [.int .i64 x9295.At, .int .i64 x9295.N, .int .i64 x9295.Mark]) agg62 rfl sz62 rfl (H.item (i := 4) rfl).2.2) rfl) ?_
              refine RL_ex rfl rfl (Lx_alloc zero62 H) ?_
              rintro _ w9309 ⟨b9307, rfl, H⟩
              refine RL_exU rfl (Lx_storeN (vs := [.int .i64 x9295.At, .int .i64 x9295.N, .int .i64 x9295.Mark]) H 5 rfl sz62 rfl rfl rfl ⟨rfl, rfl, rfl, trivial⟩ rfl) ?_
              rintro w9310 H
              refine (RL_nil (thenQ_n (hK9294 _ _ ?_)))
              refine WP_seq_k fun K9347 hK9347 => ?_
              obtain ⟨g9364, hF, hK9366⟩ := bindO_some hF
              refine WP_seqS [49, 50, 51, 52, 53, 54, 55, 56, 57, 58, 59, 60, 61, 62, 63, 64, 65, 66, 67, 68, 69] (fun (g : Unit) => [(69, .bool g9364)]) (fun g wl => Hd O w wl S [.blk b4 [.string (bs p0.Tail), .string (bs p0.Route), .int .i64 p0.Day, .int .i64 p0.From, .int .i64 p0.To, v1] 24, .fz (.sl rTrack v1 p0.Tracks), .blk b8680 [.int .i64 x8665.Series.Den, v8676] 58, .fz (.sl rSample v8676 x8665.Series.Samples), .blk b9307 [.int .i64 x9295.At, .int .i64 x9295.N, .int .i64 x9295.Mark] 62]) ?_ ?_
              · skip
                refine WP_region ?_
                refine RL_do rfl rfl (fa62_2 rfl) ?_
                refine RL_do rfl rfl (Do_load one3 rfl (Cells.get (Blk.cells (H.item (i := 5) rfl)) (i := 2) rfl)) ?_
                obtain ⟨x9367, e9368, hF⟩ := letO_some hF
                refine RL_do rfl rfl (Do_as (Do_lss (a := x9295.Mark) (b := 3) rfl rfl) (congrArg Value.bool e9368)) ?_
                refine RL_splitb (b := x9367) rfl rfl rfl (fun c9369 => ?_) (fun c9369 => ?_)
                · have hF := iteB_t c9369 hF
                  refine RL_off rfl rfl ?_
                  refine RL_off rfl rfl ?_
                  refine RL_off rfl rfl ?_
                  refine RL_off rfl rfl ?_
                  refine RL_off rfl rfl ?_
                  refine RL_off rfl rfl ?_
                  refine RL_do rfl rfl (Do_pick_t (v := .bool true) rfl rfl) ?_
                  refine RL_do rfl rfl (Do_move (v := .bool true) rfl) ?_
                  refine RL_off rfl rfl ?_
                  refine RL_off rfl rfl ?_
                  refine RL_off rfl rfl ?_
                  refine RL_off rfl rfl ?_
                  refine RL_off rfl rfl ?_
                  refine RL_off rfl rfl ?_
                  refine RL_off rfl rfl ?_
                  refine RL_off rfl rfl ?_
                  refine RL_do rfl rfl (Do_pick_t (v := .bool true) rfl rfl) ?_
                  have hR := Option.some.inj hF
                  subst hR
                  refine (RL_nil (thenQ_n (And.intro ?_ ?_)))
                  · repeat' (first | with_reducible exact Fr_refl | refine Fr_upd rfl ?_ | refine Fr_over rfl rfl ?_)
                  · exact ⟨(), (Sl_cons rfl Sl_nil), H.pick [0, 1, 2, 3, 5] (by decide)⟩
                · have hF := iteB_f c9369 hF
                  refine RL_do rfl rfl (fa62_0 rfl) ?_
                  refine RL_do rfl rfl (Do_load one3 rfl (Cells.get (Blk.cells (H.item (i := 5) rfl)) (i := 0) rfl)) ?_
                  refine RL_do rfl rfl (fa24_3 rfl) ?_
                  refine RL_do rfl rfl (Do_load one3 rfl (Cells.get (Blk.cells (H.item (i := 0) rfl)) (i := 3) rfl)) ?_
                  obtain ⟨x9370, e9371, hF⟩ := letO_some hF
                  refine RL_do rfl rfl (Do_mul (a := 64) (b := p0.From) rfl rfl e9371) ?_
                  obtain ⟨x9372, e9373, hF⟩ := letO_some hF
                  refine RL_do rfl rfl (Do_as (Do_lss (a := x9295.At) (b := x9370) rfl rfl) (congrArg Value.bool e9373)) ?_
                  refine RL_do rfl rfl (Do_pick_f (v := .bool x9372) rfl rfl) ?_
                  refine RL_splitb (b := x9372) rfl rfl rfl (fun c9374 => ?_) (fun c9374 => ?_)
                  · have hF := iteB_t c9374 hF
                    refine RL_off rfl rfl ?_
                    refine RL_off rfl rfl ?_
                    refine RL_off rfl rfl ?_
                    refine RL_off rfl rfl ?_
                    refine RL_off rfl rfl ?_
                    refine RL_off rfl rfl ?_
                    refine RL_off rfl rfl ?_
                    refine RL_off rfl rfl ?_
                    refine RL_do rfl rfl (Do_pick_t (v := .bool true) rfl rfl) ?_
                    have hR := Option.some.inj hF
                    subst hR
                    refine (RL_nil (thenQ_n (And.intro ?_ ?_)))
                    · repeat' (first | with_reducible exact Fr_refl | refine Fr_upd rfl ?_ | refine Fr_over rfl rfl ?_)
                    · exact ⟨(), (Sl_cons rfl Sl_nil), H.pick [0, 1, 2, 3, 5] (by decide)⟩
                  · have hF := iteB_f c9374 hF
                    refine RL_do rfl rfl (fa62_0 rfl) ?_
                    refine RL_do rfl rfl (Do_load one3 rfl (Cells.get (Blk.cells (H.item (i := 5) rfl)) (i := 0) rfl)) ?_
                    refine RL_do rfl rfl (fa24_4 rfl) ?_
                    refine RL_do rfl rfl (Do_load one3 rfl (Cells.get (Blk.cells (H.item (i := 0) rfl)) (i := 4) rfl)) ?_
                    obtain ⟨x9375, e9376, hF⟩ := letO_some hF
                    refine RL_do rfl rfl (Do_mul (a := 64) (b := p0.To) rfl rfl e9376) ?_
                    obtain ⟨x9377, e9378, hF⟩ := letO_some hF
                    refine RL_do rfl rfl (Do_add (a := x9375) (b := 64) rfl rfl e9378) ?_
                    obtain ⟨x9379, e9380, hF⟩ := letO_some hF
                    refine RL_do rfl rfl (Do_sub (a := x9377) (b := 1) rfl rfl e9380) ?_
                    obtain ⟨x9381, e9382, hF⟩ := letO_some hF
                    refine RL_do rfl rfl (Do_as (Do_gtr (a := x9295.At) (b := x9379) rfl rfl) (congrArg Value.bool e9382)) ?_
                    refine RL_do rfl rfl (Do_pick_f (v := .bool x9381) rfl rfl) ?_
                    have hR := Option.some.inj hF
                    subst hR
                    refine (RL_nil (thenQ_n (And.intro ?_ ?_)))
                    · repeat' (first | with_reducible exact Fr_refl | refine Fr_upd rfl ?_ | refine Fr_over rfl rfl ?_)
                    · exact ⟨(), (Sl_cons rfl Sl_nil), H.pick [0, 1, 2, 3, 5] (by decide)⟩
              · rintro _ ρ w9365 H
                have hF := hK9366
                refine WP_ifb (b := g9364) rfl (fun c9383 => ?_) (fun c9383 => ?_)
                · have hF := iteB_t c9383 hF
                  have hR := Option.some.inj hF
                  subst hR
                  refine (WP_exit (thenQ_x (blockQ_eq (thenQ_n (And.intro ?_ ?_)))))
                  · repeat' (first | with_reducible exact Fr_refl | refine Fr_upd rfl ?_ | refine Fr_over rfl rfl ?_)
                  · exact ⟨(), (Sl_cons rfl (Sl_cons rfl Sl_nil)), H.pick [0, 1, 2, 3] (by decide)⟩
                · have hF := iteB_f c9383 hF
                  refine (WP_skip (thenQ_n (hK9347 _ _ ?_)))
                  obtain ⟨g9389, hF, hK9391⟩ := bindO_some hF
                  refine WP_seqS [70, 71, 72, 73, 74, 75, 76, 77] (fun (g : Unit) => [(77, .bool g9389)]) (fun g wl => Hd O w wl S [.blk b4 [.string (bs p0.Tail), .string (bs p0.Route), .int .i64 p0.Day, .int .i64 p0.From, .int .i64 p0.To, v1] 24, .fz (.sl rTrack v1 p0.Tracks), .blk b8680 [.int .i64 x8665.Series.Den, v8676] 58, .fz (.sl rSample v8676 x8665.Series.Samples), .blk b9307 [.int .i64 x9295.At, .int .i64 x9295.N, .int .i64 x9295.Mark] 62]) ?_ ?_
                  · skip
                    refine WP_region ?_
                    refine RL_do rfl rfl (Do_move (v := .bool g9158) rfl) ?_
                    obtain ⟨x9392, e9393, hF⟩ := letO_some hF
                    refine RL_do rfl rfl (Do_as (Do_not (p := g9158) rfl) (congrArg Value.bool e9393)) ?_
                    refine RL_splitb (b := x9392) rfl rfl rfl (fun c9394 => ?_) (fun c9394 => ?_)
                    · have hF := iteB_t c9394 hF
                      refine RL_off rfl rfl ?_
                      refine RL_off rfl rfl ?_
                      refine RL_off rfl rfl ?_
                      refine RL_off rfl rfl ?_
                      refine RL_do rfl rfl (Do_pick_t (v := .bool true) rfl rfl) ?_
                      have hR := Option.some.inj hF
                      subst hR
                      refine (RL_nil (thenQ_n (And.intro ?_ ?_)))
                      · repeat' (first | with_reducible exact Fr_refl | refine Fr_upd rfl ?_ | refine Fr_over rfl rfl ?_)
                      · exact ⟨(), (Sl_cons rfl Sl_nil), H.pick [0, 1, 2, 3, 4] (by decide)⟩
                    · have hF := iteB_f c9394 hF
                      refine RL_do rfl rfl (fa62_1 rfl) ?_
                      refine RL_do rfl rfl (Do_load one3 rfl (Cells.get (Blk.cells (H.item (i := 4) rfl)) (i := 1) rfl)) ?_
                      refine RL_do rfl rfl (Do_move (v := .int .i64 g9157) rfl) ?_
                      obtain ⟨x9395, e9396, hF⟩ := letO_some hF
                      refine RL_do rfl rfl (Do_as (Do_gtr (a := x9295.N) (b := g9157) rfl rfl) (congrArg Value.bool e9396)) ?_
                      refine RL_do rfl rfl (Do_pick_f (v := .bool x9395) rfl rfl) ?_
                      have hR := Option.some.inj hF
                      subst hR
                      refine (RL_nil (thenQ_n (And.intro ?_ ?_)))
                      · repeat' (first | with_reducible exact Fr_refl | refine Fr_upd rfl ?_ | refine Fr_over rfl rfl ?_)
                      · exact ⟨(), (Sl_cons rfl Sl_nil), H.pick [0, 1, 2, 3, 4] (by decide)⟩
                  · rintro _ ρ w9390 H
                    have hF := hK9391
                    refine WP_ifb (b := g9389) rfl (fun c9397 => ?_) (fun c9397 => ?_)
                    · have hF := iteB_t c9397 hF
                      refine WP_region ?_
                      refine RL_do rfl rfl (fa62_1 rfl) ?_
                      refine RL_do rfl rfl (Do_load one3 rfl (Cells.get (Blk.cells (H.item (i := 4) rfl)) (i := 1) rfl)) ?_
                      refine RL_do rfl rfl (Do_assign (v := .int .i64 x9295.N) rfl) ?_
                      refine RL_do rfl rfl (Do_assign (v := .bool true) rfl) ?_
                      have hR := Option.some.inj hF
                      subst hR
                      refine (RL_nil (blockQ_n (thenQ_n (And.intro ?_ ?_))))
                      · repeat' (first | with_reducible exact Fr_refl | refine Fr_upd rfl ?_ | refine Fr_over rfl rfl ?_)
                      · exact ⟨(), (Sl_cons rfl (Sl_cons rfl Sl_nil)), H.pick [0, 1, 2, 3] (by decide)⟩
                    · have hF := iteB_f c9397 hF
                      have hR := Option.some.inj hF
                      subst hR
                      refine (WP_skip (blockQ_n (thenQ_n (And.intro ?_ ?_))))
                      · repeat' (first | with_reducible exact Fr_refl | refine Fr_upd rfl ?_ | refine Fr_over rfl rfl ?_)
                      · exact ⟨(), (Sl_cons rfl (Sl_cons rfl Sl_nil)), H.pick [0, 1, 2, 3] (by decide)⟩
            · rintro _ ρ w9291 H
              have hF := hK9292
              obtain ⟨g9289, g9290⟩ := j9293
              refine WP_region ?_
              refine RL_do rfl rfl (Do_move (v := .int .i64 g9159) rfl) ?_
              obtain ⟨x9398, e9399, hF⟩ := letO_some hF
              refine RL_do rfl rfl (Do_add (a := g9159) (b := 1) rfl rfl e9399) ?_
              refine RL_do rfl rfl (Do_assign (v := .int .i64 x9398) rfl) ?_
              refine (RL_nil (thenQ_n (And.intro ?_ ?_)))
              · repeat' (first | with_reducible exact Fr_refl | refine Fr_upd rfl ?_ | refine Fr_over rfl rfl ?_)
              · exact ⟨(n9165, g9289, g9290, x9398), (Sl_cons rfl (Sl_cons rfl (Sl_cons rfl Sl_nil))), ⟨H.pick [0, 1, 2, 3] (by decide), hF⟩, Nat.lt_succ_self _⟩
          · have hF := iteB_f c9184 hF
            have hR := Option.some.inj hF
            subst hR
            refine (WP_exit (thenQ_x (thenQ_x (blockQ_eq (blockQ_n (thenQ_n (And.intro ?_ ?_)))))))
            · repeat' (first | with_reducible exact Fr_refl | refine Fr_upd rfl ?_ | refine Fr_over rfl rfl ?_)
            · exact ⟨(), (Sl_cons rfl (Sl_cons rfl (Sl_cons rfl Sl_nil))), H.pick [0, 1] (by decide)⟩
      · rintro _ ρ w8622 H
        have hF := hK8623
        obtain ⟨g8619, g8620, g8621⟩ := j8624
        refine WP_region ?_
        refine RL_do rfl rfl (Do_move (v := .int .i64 g7818) rfl) ?_
        obtain ⟨x9400, e9401, hF⟩ := letO_some hF
        refine RL_do rfl rfl (Do_add (a := g7818) (b := 1) rfl rfl e9401) ?_
        refine RL_do rfl rfl (Do_assign (v := .int .i64 x9400) rfl) ?_
        refine (RL_nil (thenQ_n (And.intro ?_ ?_)))
        · repeat' (first | with_reducible exact Fr_refl | refine Fr_upd rfl ?_ | refine Fr_over rfl rfl ?_)
        · exact ⟨(n7824, g8619, g8620, g8621, x9400), (Sl_cons rfl (Sl_cons rfl (Sl_cons rfl (Sl_cons rfl Sl_nil)))), ⟨H.pick [0, 1] (by decide), hF⟩, Nat.lt_succ_self _⟩
    · have hF := iteB_f c7843 hF
      have hR := Option.some.inj hF
      subst hR
      refine (WP_exit (thenQ_x (thenQ_x (blockQ_eq (thenQ_n (And.intro ?_ ?_))))))
      · repeat' (first | with_reducible exact Fr_refl | refine Fr_upd rfl ?_ | refine Fr_over rfl rfl ?_)
      · exact ⟨(), (Sl_cons rfl (Sl_cons rfl (Sl_cons rfl Sl_nil))), H.pick [] (by decide)⟩
  · rintro _ ρ w4705 H
    have hF := hK4706
    obtain ⟨g4702, g4703, g4704⟩ := j4707
    refine WP_seq_k fun K9402 hK9402 => ?_
    refine WP_region ?_
    refine RL_do rfl rfl (Do_move (v := .int .i64 g4702) rfl) ?_
    refine RL_do rfl rfl (Do_move (v := .int .i64 g4703) rfl) ?_
    refine RL_do rfl rfl (Do_move (v := .bool g4704) rfl) ?_
    refine RL_do rfl rfl (Do_assign (v := .int .i64 g4702) rfl) ?_
    refine RL_do rfl rfl (Do_assign (v := .int .i64 g4703) rfl) ?_
    refine RL_do rfl rfl (Do_assign (v := .bool g4704) rfl) ?_
    refine (RL_nil (thenQ_n (hK9402 _ _ ?_)))
    have hR := Option.some.inj hF
    subst hR
    refine (WP_ret (post3 (v1 := .int .i64 g4702) (v2 := .int .i64 g4703) (v3 := .bool g4704) rfl rfl rfl rfl ?_))
    exact ⟨rfl, H.pick [] (by decide)⟩
end Go.Proofs.Ytbjhondbheijiaa
namespace Go.Proofs.Ytbjhondbheijiaa
open Go.RowKit Go.OB Go.Lf
/- orangebox/orangeboxref9.Peak -/
set_option maxHeartbeats 4000000 in
theorem F_ref9_Peak_w (p0 : Flight) (p1 : Str) (v1 : Value) (r : Int × Bool × Int) (hF : F_ref9_Peak p0 p1 = some r) (O S : List Nat) (w : World) (H : Hd O w w S [.fz (.sl rTrack v1 p0.Tracks)]) :
    Calls Try.prog 5 ([.agg [.string (bs p0.Tail), .string (bs p0.Route), .int .i64 p0.Day, .int .i64 p0.From, .int .i64 p0.To, v1].toArray, .string (bs p1)] : List Value).toArray w fun e w' => e = .returned (.tuple #[.int .i64 r.1, .bool r.2.1, .int .i64 r.2.2]) ∧ Hd O w w' S [] := by
  unfold F_ref9_Peak at hF
  refine calls_of_WP 28 Try.func5 rfl rfl rfl ?_
  refine WP_seq_k fun K3 hK3 => ?_
  refine WP_region ?_
  refine RL_ex rfl rfl (Lx_box (cs := [.string (bs p0.Tail), .string (bs p0.Route), .int .i64 p0.Day, .int .i64 p0.From, .int .i64 p0.To, v1]) rfl H) ?_
  rintro _ w6 ⟨b4, rfl, H⟩
  refine RL_do rfl rfl (Do_assign (v := .int .i64 0) rfl) ?_
  refine RL_do rfl rfl (Do_assign (v := .bool false) rfl) ?_
  refine RL_do rfl rfl (Do_assign (v := .int .i64 0) rfl) ?_
  refine (RL_nil (thenQ_n (hK3 _ _ ?_)))
  refine WP_seq_k fun K17 hK17 => ?_
  refine WP_seq_k fun K18 hK18 => ?_
  refine WP_region ?_
  refine RL_do rfl rfl (Do_as (Do_loads (cs := [.string (bs p0.Tail), .string (bs p0.Route), .int .i64 p0.Day, .int .i64 p0.From, .int .i64 p0.To, v1]) agg24 rfl sz24 rfl (Blk.cells (H.item (i := 1) rfl))) rfl) ?_
  obtain ⟨x19, e20, hF⟩ := bindO_some hF
  refine RL_call rfl rfl (DoC_func en11 rfl) (F_ref9_CheckFlight_w p0 v1 _ e20 _ _ _ (H.enter [] [0] (by decide) rfl)) ?_
  rintro _ w21 ⟨rfl, G22⟩
  have H := H.back0 [0] rfl G22
  refine ⟨_, rfl, ?_⟩
  refine RL_do rfl rfl (Do_assign (v := .int .i64 x19) rfl) ?_
  refine (RL_nil (thenQ_n (hK18 _ _ ?_)))
  refine WP_seq_k fun K23 hK23 => ?_
  refine WP_region ?_
  refine RL_do rfl rfl (Do_move (v := .int .i64 x19) rfl) ?_
  obtain ⟨x24, e25, hF⟩ := letO_some hF
  refine RL_do rfl rfl (Do_as (Do_neq (a := x19) (b := 0) rfl rfl) (congrArg Value.bool e25)) ?_
  refine (RL_nil (thenQ_n (hK23 _ _ ?_)))
  refine WP_ifb (b := x24) rfl (fun c26 => ?_) (fun c26 => ?_)
  · have hF := iteB_t c26 hF
    refine WP_seq_k fun K27 hK27 => ?_
    refine WP_region ?_
    refine RL_do rfl rfl (Do_move (v := .int .i64 x19) rfl) ?_
    refine RL_do rfl rfl (Do_assign (v := .int .i64 0) rfl) ?_
    refine RL_do rfl rfl (Do_assign (v := .bool false) rfl) ?_
    refine RL_do rfl rfl (Do_assign (v := .int .i64 x19) rfl) ?_
    refine (RL_nil (thenQ_n (hK27 _ _ ?_)))
    have hR := Option.some.inj hF
    subst hR
    refine (WP_ret (thenQ_r (post3 (v1 := .int .i64 0) (v2 := .bool false) (v3 := .int .i64 x19) rfl rfl rfl rfl ?_)))
    exact ⟨rfl, H.pick [] (by decide)⟩
  · have hF := iteB_f c26 hF
    refine (WP_skip (thenQ_n (hK17 _ _ ?_)))
    refine WP_seq_k fun K37 hK37 => ?_
    refine WP_seq_k fun K38 hK38 => ?_
    refine WP_region ?_
    refine RL_do rfl rfl (Do_move (v := .string (bs p1)) rfl) ?_
    obtain ⟨x39, e40, hF⟩ := bindO_some hF
    refine RL_call rfl rfl (DoC_func en12 rfl) (F_ref6_IsName_w p1 _ e40 _ _ _ (H.enter [] [] (by decide) rfl)) ?_
    rintro _ w41 ⟨rfl, G42⟩
    have H := H.back0 [] rfl G42
    refine ⟨_, rfl, ?_⟩
    obtain ⟨x43, e44, hF⟩ := letO_some hF
    refine RL_do rfl rfl (Do_as (Do_not (p := x39) rfl) (congrArg Value.bool e44)) ?_
    refine (RL_nil (thenQ_n (hK38 _ _ ?_)))
    refine WP_ifb (b := x43) rfl (fun c45 => ?_) (fun c45 => ?_)
    · have hF := iteB_t c45 hF
      refine WP_seq_k fun K46 hK46 => ?_
      refine WP_region ?_
      refine RL_do rfl rfl (Do_assign (v := .int .i64 0) rfl) ?_
      refine RL_do rfl rfl (Do_assign (v := .bool false) rfl) ?_
      refine RL_do rfl rfl (Do_assign (v := .int .i64 8) rfl) ?_
      refine (RL_nil (thenQ_n (hK46 _ _ ?_)))
      have hR := Option.some.inj hF
      subst hR
      refine (WP_ret (thenQ_r (post3 (v1 := .int .i64 0) (v2 := .bool false) (v3 := .int .i64 8) rfl rfl rfl rfl ?_)))
      exact ⟨rfl, H.pick [] (by decide)⟩
    · have hF := iteB_f c45 hF
      refine (WP_skip (thenQ_n (hK37 _ _ ?_)))
      refine WP_seq_k fun K47 hK47 => ?_
      refine WP_region ?_
      refine RL_do rfl rfl (Do_as (Do_loads (cs := [.string (bs p0.Tail), .string (bs p0.Route), .int .i64 p0.Day, .int .i64 p0.From, .int .i64 p0.To, v1]) agg24 rfl sz24 rfl (Blk.cells (H.item (i := 1) rfl))) rfl) ?_
      refine RL_do rfl rfl (Do_move (v := .string (bs p1)) rfl) ?_
      obtain ⟨⟨x48, x49, x50⟩, e51, hF⟩ := bindO_some hF
      refine RL_call rfl rfl (DoC_func en13 rfl) (F_ref9_peak_w p0 p1 v1 _ e51 _ _ _ (H.enter [] [0] (by decide) rfl)) ?_
      rintro _ w52 ⟨rfl, G53⟩
      have H := H.back0 [0] rfl G53
      refine ⟨_, rfl, ?_⟩
      refine RL_do rfl rfl (Do_move (v := .tuple #[.int .i64 x48, .int .i64 x49, .bool x50]) rfl) ?_
      refine RL_do rfl rfl (Do_extract (v := .int .i64 x48) rfl rfl) ?_
      refine RL_do rfl rfl (Do_extract (v := .int .i64 x49) rfl rfl) ?_
      refine RL_do rfl rfl (Do_extract (v := .bool x50) rfl rfl) ?_
      refine RL_do rfl rfl (Do_assign (v := .int .i64 x48) rfl) ?_
      refine RL_do rfl rfl (Do_assign (v := .int .i64 x49) rfl) ?_
      refine RL_do rfl rfl (Do_assign (v := .bool x50) rfl) ?_
      refine (RL_nil (thenQ_n (hK47 _ _ ?_)))
      refine WP_seq_k fun K54 hK54 => ?_
      refine WP_region ?_
      refine RL_do rfl rfl (Do_move (v := .int .i64 x48) rfl) ?_
      refine RL_do rfl rfl (Do_move (v := .bool x50) rfl) ?_
      refine RL_do rfl rfl (Do_assign (v := .int .i64 x48) rfl) ?_
      refine RL_do rfl rfl (Do_assign (v := .bool x50) rfl) ?_
      refine RL_do rfl rfl (Do_assign (v := .int .i64 0) rfl) ?_
      refine (RL_nil (thenQ_n (hK54 _ _ ?_)))
      have hR := Option.some.inj hF
      subst hR
      refine (WP_ret (post3 (v1 := .int .i64 x48) (v2 := .bool x50) (v3 := .int .i64 0) rfl rfl rfl rfl ?_))
      exact ⟨rfl, H.pick [] (by decide)⟩
end Go.Proofs.Ytbjhondbheijiaa
namespace Go.Proofs.Ytbjhondbheijiaa
open Go.RowKit Go.OB Go.Lf
/- orangebox/fleet.CheckTable$1 -/
set_option maxHeartbeats 4000000 in
theorem F_fleet_CheckTable_1_w (p0 : FleetRow) (v1 : Value) (r : Bool) (hF : F_fleet_CheckTable_1 p0 = some r) (O S : List Nat) (w : World) (H : Hd O w w S [.fz (.sl (Rp.int .i64) v1 p0.Events)]) :
    Calls Try.prog 41 ([.agg [.string (bs p0.Key), .bool p0.Hidden, .int .i64 p0.Flights, v1].toArray] : List Value).toArray w fun e w' => e = .returned (.bool r) ∧ Hd O w w' S [] := by
  unfold F_fleet_CheckTable_1 at hF
  refine calls_of_WP 6 Try.func41 rfl rfl rfl ?_
  refine WP_seq_k fun K3 hK3 => ?_
  refine WP_region ?_
  refine RL_ex rfl rfl (Lx_box (cs := [.string (bs p0.Key), .bool p0.Hidden, .int .i64 p0.Flights, v1]) rfl H) ?_
  rintro _ w6 ⟨b4, rfl, H⟩
  refine RL_do rfl rfl (Do_assign (v := .bool false) rfl) ?_
  refine (RL_nil (thenQ_n (hK3 _ _ ?_)))
  refine WP_seq_k fun K7 hK7 => ?_
  refine WP_region ?_
  refine RL_do rfl rfl (fa46_1 rfl) ?_
  refine RL_do rfl rfl (Do_load one4 rfl (Cells.get (Blk.cells (H.item (i := 1) rfl)) (i := 1) rfl)) ?_
  obtain ⟨x8, e9, hF⟩ := letO_some hF
  refine RL_do rfl rfl (Do_as (Do_not (p := p0.Hidden) rfl) (congrArg Value.bool e9)) ?_
  refine RL_do rfl rfl (Do_assign (v := .bool x8) rfl) ?_
  refine (RL_nil (thenQ_n (hK7 _ _ ?_)))
  have hR := Option.some.inj hF
  subst hR
  refine (WP_ret (post1 (v1 := .bool x8) rfl rfl ?_))
  exact ⟨rfl, H.pick [] (by decide)⟩
end Go.Proofs.Ytbjhondbheijiaa
namespace Go.Proofs.Ytbjhondbheijiaa
open Go.RowKit Go.OB Go.Lf
/- slices.IndexFunc[[]orangebox/api.FleetRow,orangebox/api.FleetRow]@orangebox/fleet.CheckTable$1 -/
set_option maxHeartbeats 4000000 in
theorem F_slices_IndexFunc___api_FleetRow_api_FleetRow__fleet_CheckTable_1_w (p0 : List FleetRow) (v1 : Value) (r : Int) (hF : F_slices_IndexFunc___api_FleetRow_api_FleetRow__fleet_CheckTable_1 p0 = some r) (O S : List Nat) (w : World) (H : Hd O w w S [.fz (.sl rFleetRow v1 p0)]) :
    Calls Try.prog 40 ([v1, .func (.func 41) #[] #[]] : List Value).toArray w fun e w' => e = .returned (.int .i64 r) ∧ Hd O w w' S [] := by
  unfold F_slices_IndexFunc___api_FleetRow_api_FleetRow__fleet_CheckTable_1 at hF
  refine calls_of_WP 19 Try.func40 rfl rfl rfl ?_
  refine WP_seq_k fun K3 hK3 => ?_
  refine WP_region ?_
  refine RL_do rfl rfl (Do_assign (v := .int .i64 0) rfl) ?_
  refine (RL_nil (thenQ_n (hK3 _ _ ?_)))
  obtain ⟨k184, ek185, hF⟩ := joinO_some hF
  refine WP_seqS [4, 5, 6, 7, 8, 9, 10, 11, 12, 13, 14, 15, 16, 17, 18] (fun (g : Unit) => []) (fun g wl => Hd O w wl S [] ∧ k184 () = some r) ?_ ?_
  · skip
    refine WP_seq_k fun K186 hK186 => ?_
    refine WP_region ?_
    refine RL_do rfl rfl (Do_move (v := v1) rfl) ?_
    obtain ⟨x187, e188, hF⟩ := letO_some hF
    obtain ⟨a189, c190, q191⟩ := SlF.len ((H.item (i := 0) rfl))
    refine RL_do rfl rfl (Do_as (Do_len u49 q191) (congrArg (Value.int .i64) e188)) ?_
    refine RL_do rfl rfl (Do_move (v := .int .i64 0) rfl) ?_
    refine (RL_nil (thenQ_n (hK186 _ _ ?_)))
    refine WP_block ?_
    unfold F_slices_IndexFunc___api_FleetRow_api_FleetRow__fleet_CheckTable_1_L1 at hF
    obtain ⟨B304, n305, eB306, hF⟩ := loopO_some hF
    refine WP_loopS [4, 5, 8, 9, 10, 11, 12, 13, 14, 15, 16, 17, 18] (fun (g : Nat × Int) => [(8, .int .i64 g.2)]) (fun g wl => Hd O w wl S [.fz (.sl rFleetRow v1 p0)] ∧ loopN B304 g.1 g.2 = some r) (fun g => g.1) (n305, 0) (Sl_cons rfl Sl_nil) ⟨H.pick [0] (by decide), hF⟩ ?_
    clear H hF
    rintro ⟨n305, g303⟩ ρ w308 ⟨H, hF⟩
    obtain ⟨n309, rfl, hF⟩ := loopN_pos hF
    have hF := loop_body eB306 hF
    refine WP_seq_k fun K310 hK310 => ?_
    refine WP_region ?_
    obtain ⟨x311, e312, hF⟩ := letO_some hF
    refine RL_do rfl rfl (Do_as (Do_lss (a := g303) (b := x187) rfl rfl) (congrArg Value.bool e312)) ?_
    refine (RL_nil (thenQ_n (hK310 _ _ ?_)))
    refine WP_seq_k fun K314 hK314 => ?_
    refine WP_ifb (b := x311) rfl (fun c315 => ?_) (fun c315 => ?_)
    · have hF := iteB_t c315 hF
      refine (WP_skip (thenQ_n (hK314 _ _ ?_)))
      refine WP_seq_k fun K339 hK339 => ?_
      refine WP_block ?_
      refine WP_seq_k fun K340 hK340 => ?_
      refine WP_region ?_
      refine RL_do rfl rfl (Do_move (v := .int .i64 g303) rfl) ?_
      refine RL_do rfl rfl (Do_assign (v := .int .i64 g303) rfl) ?_
      refine (RL_nil (thenQ_n (hK340 _ _ ?_)))
      refine WP_seq_k fun K341 hK341 => ?_
      refine WP_region ?_
      refine RL_do rfl rfl (Do_move (v := .func (.func 41) #[] #[]) rfl) ?_
      refine RL_do rfl rfl (Do_move (v := v1) rfl) ?_
      refine RL_do rfl rfl (Do_move (v := .int .i64 g303) rfl) ?_
      obtain ⟨x342, e343, hF⟩ := bindO_some hF
      obtain ⟨b344, o345, c346, cs347, q348, h351, h349, h350, h352⟩ := rd_at (H.item (i := 0) rfl) e343
      obtain ⟨v353, rfl, h354⟩ := rFleetRow_open h351
      have H := H.fzs [.at b344 (o345 + g303.toNat * 4) _, .sl (Rp.int .i64) v353 x342.Events] ⟨⟨h349, h350, h352⟩, h354, trivial⟩
      refine RL_do rfl rfl (Do_idx u49 sz46 q348 rfl (at_some e343).1 (at_some e343).2.1 rfl rfl) ?_
      refine RL_do rfl rfl (Do_as (Do_loads (cs := [.string (bs x342.Key), .bool x342.Hidden, .int .i64 x342.Flights, v353]) agg46 rfl sz46 rfl (H.item (i := 1) rfl).2.2) rfl) ?_
      obtain ⟨x357, e358, hF⟩ := bindO_some hF
      refine RL_call rfl rfl (DoC_clo en41 rfl rfl) (F_fleet_CheckTable_1_w x342 v353 _ e358 _ _ _ (H.enter [] [2] (by decide) rfl)) ?_
      rintro _ w359 ⟨rfl, G360⟩
      have H := H.back0 [2] rfl G360
      refine ⟨_, rfl, ?_⟩
      refine (RL_nil (thenQ_n (hK341 _ _ ?_)))
      refine WP_ifb (b := x357) rfl (fun c361 => ?_) (fun c361 => ?_)
      · have hF := iteB_t c361 hF
        refine WP_seq_k fun K362 hK362 => ?_
        refine WP_region ?_
        refine RL_do rfl rfl (Do_move (v := .int .i64 g303) rfl) ?_
        refine RL_do rfl rfl (Do_assign (v := .int .i64 g303) rfl) ?_
        refine (RL_nil (thenQ_n (hK362 _ _ ?_)))
        have hR := Option.some.inj hF
        subst hR
        refine (WP_ret (blockQ_r (thenQ_r (thenQ_r (blockQ_r (thenQ_r (post1 (v1 := .int .i64 g303) rfl rfl ?_)))))))
        exact ⟨rfl, H.pick [] (by decide)⟩
      · have hF := iteB_f c361 hF
        refine (WP_skip (blockQ_n (thenQ_n (hK339 _ _ ?_))))
        refine WP_region ?_
        obtain ⟨x363, e364, hF⟩ := letO_some hF
        refine RL_do rfl rfl (Do_add (a := g303) (b := 1) rfl rfl e364) ?_
        refine RL_do rfl rfl (Do_move (v := .int .i64 x363) rfl) ?_
        refine (RL_nil (thenQ_n (And.intro ?_ ?_)))
        · repeat' (first | with_reducible exact Fr_refl | refine Fr_upd rfl ?_ | refine Fr_over rfl rfl ?_)
        · exact ⟨(n309, x363), (Sl_cons rfl Sl_nil), ⟨H.pick [0] (by decide), hF⟩, Nat.lt_succ_self _⟩
    · have hF := iteB_f c315 hF
      refine (WP_exit (thenQ_x (thenQ_x (blockQ_eq (thenQ_n (And.intro ?_ ?_))))))
      · repeat' (first | with_reducible exact Fr_refl | refine Fr_upd rfl ?_ | refine Fr_over rfl rfl ?_)
      · exact ⟨(), Sl_nil, ⟨H.pick [] (by decide), hF⟩⟩
  · rintro _ ρ w183 ⟨H, hF⟩
    have hF := join_body ek185 hF
    refine WP_seq_k fun K365 hK365 => ?_
    refine WP_region ?_
    refine RL_do rfl rfl (Do_assign (v := .int .i64 (-1)) rfl) ?_
    refine (RL_nil (thenQ_n (hK365 _ _ ?_)))
    have hR := Option.some.inj hF
    subst hR
    refine (WP_ret (post1 (v1 := .int .i64 (-1)) rfl rfl ?_))
    exact ⟨rfl, H.pick [] (by decide)⟩
end Go.Proofs.Ytbjhondbheijiaa
namespace Go.Proofs.Ytbjhondbheijiaa
open Go.RowKit Go.OB Go.Lf
/- orangebox/fleet.CheckTable$3 -/
set_option maxHeartbeats 4000000 in
theorem F_fleet_CheckTable_3_w (p0 : FleetRow) (c0 : FleetRow) (v1 : Value) (b3 : Nat) (v4 : Value) (r : Bool) (hF : F_fleet_CheckTable_3 p0 c0 = some r) (O S : List Nat) (w : World) (H : Hd O w w S [.blk b3 [.string (bs c0.Key), .bool c0.Hidden, .int .i64 c0.Flights, v4] 46, .fz (.sl (Rp.int .i64) v1 p0.Events), .fz (.sl (Rp.int .i64) v4 c0.Events)]) :
    Calls Try.prog 44 ([.agg [.string (bs p0.Key), .bool p0.Hidden, .int .i64 p0.Flights, v1].toArray, .pointer (some ⟨b3, 0, none⟩)] : List Value).toArray w fun e w' => e = .returned (.bool r) ∧ Hd O w w' S [.blk b3 [.string (bs c0.Key), .bool c0.Hidden, .int .i64 c0.Flights, v4] 46] := by
  unfold F_fleet_CheckTable_3 at hF
  refine calls_of_WP 9 Try.func44 rfl rfl rfl ?_
  refine WP_seq_k fun K7 hK7 => ?_
  refine WP_region ?_
  refine RL_ex rfl rfl (Lx_box (cs := [.string (bs p0.Key), .bool p0.Hidden, .int .i64 p0.Flights, v1]) rfl H) ?_
  rintro _ w10 ⟨b8, rfl, H⟩
  refine RL_do rfl rfl (Do_assign (v := .bool false) rfl) ?_
  refine (RL_nil (thenQ_n (hK7 _ _ ?_)))
  refine WP_seq_k fun K11 hK11 => ?_
  refine WP_region ?_
  refine RL_do rfl rfl (fa46_0 rfl) ?_
  refine RL_do rfl rfl (Do_load one9 rfl (Cells.get (Blk.cells (H.item (i := 3) rfl)) (i := 0) rfl)) ?_
  refine RL_do rfl rfl (fa46_0 rfl) ?_
  refine RL_do rfl rfl (Do_load one9 rfl (Cells.get (Blk.cells (H.item (i := 0) rfl)) (i := 0) rfl)) ?_
  obtain ⟨x12, e13, hF⟩ := letO_some hF
  refine RL_do rfl rfl (Do_as (Do_eqls (s1 := p0.Key) (s2 := c0.Key) rfl rfl) (congrArg Value.bool e13)) ?_
  refine RL_do rfl rfl (Do_assign (v := .bool x12) rfl) ?_
  refine (RL_nil (thenQ_n (hK11 _ _ ?_)))
  have hR := Option.some.inj hF
  subst hR
  refine (WP_ret (post1 (v1 := .bool x12) rfl rfl ?_))
  exact ⟨rfl, H.pick [0] (by decide)⟩
end Go.Proofs.Ytbjhondbheijiaa
namespace Go.Proofs.Ytbjhondbheijiaa
open Go.RowKit Go.OB Go.Lf
/- slices.IndexFunc[[]orangebox/api.FleetRow,orangebox/api.FleetRow]@orangebox/fleet.CheckTable$3 -/
set_option maxHeartbeats 4000000 in
theorem F_slices_IndexFunc___api_FleetRow_api_FleetRow__fleet_CheckTable_3_w (p0 : List FleetRow) (p1c0 : FleetRow) (v1 : Value) (b3 : Nat) (v4 : Value) (r : Int) (hF : F_slices_IndexFunc___api_FleetRow_api_FleetRow__fleet_CheckTable_3 p0 p1c0 = some r) (O S : List Nat) (w : World) (H : Hd O w w S [.blk b3 [.string (bs p1c0.Key), .bool p1c0.Hidden, .int .i64 p1c0.Flights, v4] 46, .fz (.sl rFleetRow v1 p0), .fz (.sl (Rp.int .i64) v4 p1c0.Events)]) :
    Calls Try.prog 40 ([v1, .func (.func 44) #[] [.pointer (some ⟨b3, 0, none⟩)].toArray] : List Value).toArray w fun e w' => e = .returned (.int .i64 r) ∧ Hd O w w' S [.blk b3 [.string (bs p1c0.Key), .bool p1c0.Hidden, .int .i64 p1c0.Flights, v4] 46] := by
  unfold F_slices_IndexFunc___api_FleetRow_api_FleetRow__fleet_CheckTable_3 at hF
  refine calls_of_WP 19 Try.func40 rfl rfl rfl ?_
  refine WP_seq_k fun K7 hK7 => ?_
  refine WP_region ?_
  refine RL_do rfl rfl (Do_assign (v := .int .i64 0) rfl) ?_
  refine (RL_nil (thenQ_n (hK7 _ _ ?_)))
  obtain ⟨k188, ek189, hF⟩ := joinO_some hF
  refine WP_seqS [4, 5, 6, 7, 8, 9, 10, 11, 12, 13, 14, 15, 16, 17, 18] (fun (g : Unit) => []) (fun g wl => Hd O w wl S [.blk b3 [.string (bs p1c0.Key), .bool p1c0.Hidden, .int .i64 p1c0.Flights, v4] 46, .fz (.sl (Rp.int .i64) v4 p1c0.Events)] ∧ k188 () = some r) ?_ ?_
  · skip
    refine WP_seq_k fun K190 hK190 => ?_
    refine WP_region ?_
    refine RL_do rfl rfl (Do_move (v := v1) rfl) ?_
    obtain ⟨x191, e192, hF⟩ := letO_some hF
    obtain ⟨a193, c194, q195⟩ := SlF.len ((H.item (i := 1) rfl))
    refine RL_do rfl rfl (Do_as (Do_len u49 q195) (congrArg (Value.int .i64) e192)) ?_
    refine RL_do rfl rfl (Do_move (v := .int .i64 0) rfl) ?_
    refine (RL_nil (thenQ_n (hK190 _ _ ?_)))
    refine WP_block ?_
    unfold F_slices_IndexFunc___api_FleetRow_api_FleetRow__fleet_CheckTable_3_L1 at hF
    obtain ⟨B308, n309, eB310, hF⟩ := loopO_some hF
    refine WP_loopS [4, 5, 8, 9, 10, 11, 12, 13, 14, 15, 16, 17, 18] (fun (g : Nat × Int) => [(8, .int .i64 g.2)]) (fun g wl => Hd O w wl S [.blk b3 [.string (bs p1c0.Key), .bool p1c0.Hidden, .int .i64 p1c0.Flights, v4] 46, .fz (.sl (Rp.int .i64) v4 p1c0.Events), .fz (.sl rFleetRow v1 p0)] ∧ loopN B308 g.1 g.2 = some r) (fun g => g.1) (n309, 0) (Sl_cons rfl Sl_nil) ⟨H.pick [0, 2, 1] (by decide), hF⟩ ?_
    clear H hF
    rintro ⟨n309, g307⟩ ρ w312 ⟨H, hF⟩
    obtain ⟨n313, rfl, hF⟩ := loopN_pos hF
    have hF := loop_body eB310 hF
    refine WP_seq_k fun K314 hK314 => ?_
    refine WP_region ?_
    obtain ⟨x315, e316, hF⟩ := letO_some hF
    refine RL_do rfl rfl (Do_as (Do_lss (a := g307) (b := x191) rfl rfl) (congrArg Value.bool e316)) ?_
    refine (RL_nil (thenQ_n (hK314 _ _ ?_)))
    refine WP_seq_k fun K318 hK318 => ?_
    refine WP_ifb (b := x315) rfl (fun c319 => ?_) (fun c319 => ?_)
    · have hF := iteB_t c319 hF
      refine (WP_skip (thenQ_n (hK318 _ _ ?_)))
      refine WP_seq_k fun K343 hK343 => ?_
      refine WP_block ?_
      refine WP_seq_k fun K344 hK344 => ?_
      refine WP_region ?_
      refine RL_do rfl rfl (Do_move (v := .int .i64 g307) rfl) ?_
      refine RL_do rfl rfl (Do_assign (v := .int .i64 g307) rfl) ?_
      refine (RL_nil (thenQ_n (hK344 _ _ ?_)))
      refine WP_seq_k fun K345 hK345 => ?_
      refine WP_region ?_
      refine RL_do rfl rfl (Do_move (v := .func (.func 44) #[] [.pointer (some ⟨b3, 0, none⟩)].toArray) rfl) ?_
      refine RL_do rfl rfl (Do_move (v := v1) rfl) ?_
      refine RL_do rfl rfl (Do_move (v := .int .i64 g307) rfl) ?_
      obtain ⟨x346, e347, hF⟩ := bindO_some hF
      obtain ⟨b348, o349, c350, cs351, q352, h355, h353, h354, h356⟩ := rd_at (H.item (i := 2) rfl) e347
      obtain ⟨v357, rfl, h358⟩ := rFleetRow_open h355
      have H := H.fzs [.at b348 (o349 + g307.toNat * 4) _, .sl (Rp.int .i64) v357 x346.Events] ⟨⟨h353, h354, h356⟩, h358, trivial⟩
      refine RL_do rfl rfl (Do_idx u49 sz46 q352 rfl (at_some e347).1 (at_some e347).2.1 rfl rfl) ?_
      refine RL_do rfl rfl (Do_as (Do_loads (cs := [.string (bs x346.Key), .bool x346.Hidden, .int .i64 x346.Flights, v357]) agg46 rfl sz46 rfl (H.item (i := 3) rfl).2.2) rfl) ?_
      obtain ⟨x361, e362, hF⟩ := bindO_some hF
      refine RL_call rfl rfl (DoC_clo en44 rfl rfl) (F_fleet_CheckTable_3_w x346 p1c0 v357 b3 v4 _ e362 _ _ _ (H.enter [0] [4, 1] (by decide) rfl)) ?_
      rintro _ w363 ⟨rfl, G364⟩
      have H : Hd O w w363 S [.fz (.sl (Rp.int .i64) v4 p1c0.Events), .fz (.sl rFleetRow v1 p0), .fz (.at b348 (o349 + g307.toNat * 4) [.string (bs x346.Key), .bool x346.Hidden, .int .i64 x346.Flights, v357]), .fz (.sl (Rp.int .i64) v357 x346.Events), .blk b3 [.string (bs p1c0.Key), .bool p1c0.Hidden, .int .i64 p1c0.Flights, v4] 46] := H.back [0] [4, 1] rfl G364
      refine ⟨_, rfl, ?_⟩
      refine (RL_nil (thenQ_n (hK345 _ _ ?_)))
      refine WP_ifb (b := x361) rfl (fun c365 => ?_) (fun c365 => ?_)
      · have hF := iteB_t c365 hF
        refine WP_seq_k fun K366 hK366 => ?_
        refine WP_region ?_
        refine RL_do rfl rfl (Do_move (v := .int .i64 g307) rfl) ?_
        refine RL_do rfl rfl (Do_assign (v := .int .i64 g307) rfl) ?_
        refine (RL_nil (thenQ_n (hK366 _ _ ?_)))
        have hR := Option.some.inj hF
        subst hR
        refine (WP_ret (blockQ_r (thenQ_r (thenQ_r (blockQ_r (thenQ_r (post1 (v1 := .int .i64 g307) rfl rfl ?_)))))))
        exact ⟨rfl, H.pick [4] (by decide)⟩
      · have hF := iteB_f c365 hF
        refine (WP_skip (blockQ_n (thenQ_n (hK343 _ _ ?_))))
        refine WP_region ?_
        obtain ⟨x367, e368, hF⟩ := letO_some hF
        refine RL_do rfl rfl (Do_add (a := g307) (b := 1) rfl rfl e368) ?_
        refine RL_do rfl rfl (Do_move (v := .int .i64 x367) rfl) ?_
        refine (RL_nil (thenQ_n (And.intro ?_ ?_)))
        · repeat' (first | with_reducible exact Fr_refl | refine Fr_upd rfl ?_ | refine Fr_over rfl rfl ?_)
        · exact ⟨(n313, x367), (Sl_cons rfl Sl_nil), ⟨H.pick [4, 0, 1] (by decide), hF⟩, Nat.lt_succ_self _⟩
    · have hF := iteB_f c319 hF
      refine (WP_exit (thenQ_x (thenQ_x (blockQ_eq (thenQ_n (And.intro ?_ ?_))))))
      · repeat' (first | with_reducible exact Fr_refl | refine Fr_upd rfl ?_ | refine Fr_over rfl rfl ?_)
      · exact ⟨(), Sl_nil, ⟨H.pick [0, 1] (by decide), hF⟩⟩
  · rintro _ ρ w187 ⟨H, hF⟩
    have hF := join_body ek189 hF
    refine WP_seq_k fun K369 hK369 => ?_
    refine WP_region ?_
    refine RL_do rfl rfl (Do_assign (v := .int .i64 (-1)) rfl) ?_
    refine (RL_nil (thenQ_n (hK369 _ _ ?_)))
    have hR := Option.some.inj hF
    subst hR
    refine (WP_ret (post1 (v1 := .int .i64 (-1)) rfl rfl ?_))
    exact ⟨rfl, H.pick [0] (by decide)⟩
end Go.Proofs.Ytbjhondbheijiaa
namespace Go.Proofs.Ytbjhondbheijiaa
open Go.RowKit Go.OB Go.Lf
/- slices.ContainsFunc[[]orangebox/api.FleetRow,orangebox/api.FleetRow]@orangebox/fleet.CheckTable$3 -/
set_option maxHeartbeats 4000000 in
theorem F_slices_ContainsFunc___api_FleetRow_api_FleetRow__fleet_CheckTable_3_w (p0 : List FleetRow) (p1c0 : FleetRow) (v1 : Value) (b3 : Nat) (v4 : Value) (r : Bool) (hF : F_slices_ContainsFunc___api_FleetRow_api_FleetRow__fleet_CheckTable_3 p0 p1c0 = some r) (O S : List Nat) (w : World) (H : Hd O w w S [.blk b3 [.string (bs p1c0.Key), .bool p1c0.Hidden, .int .i64 p1c0.Flights, v4] 46, .fz (.sl rFleetRow v1 p0), .fz (.sl (Rp.int .i64) v4 p1c0.Events)]) :
    Calls Try.prog 43 ([v1, .func (.func 44) #[] [.pointer (some ⟨b3, 0, none⟩)].toArray] : List Value).toArray w fun e w' => e = .returned (.bool r) ∧ Hd O w w' S [.blk b3 [.string (bs p1c0.Key), .bool p1c0.Hidden, .int .i64 p1c0.Flights, v4] 46] := by
  unfold F_slices_ContainsFunc___api_FleetRow_api_FleetRow__fleet_CheckTable_3 at hF
  refine calls_of_WP 9 Try.func43 rfl rfl rfl ?_
  refine WP_seq_k fun K7 hK7 => ?_
  refine WP_region ?_
  refine RL_do rfl rfl (Do_assign (v := .bool false) rfl) ?_
  refine (RL_nil (thenQ_n (hK7 _ _ ?_)))
  refine WP_seq_k fun K8 hK8 => ?_
  refine WP_region ?_
  refine RL_do rfl rfl (Do_move (v := v1) rfl) ?_
  refine RL_do rfl rfl (Do_move (v := .func (.func 44) #[] [.pointer (some ⟨b3, 0, none⟩)].toArray) rfl) ?_
  obtain ⟨x9, e10, hF⟩ := bindO_some hF
  refine RL_call rfl rfl (DoC_func en40 rfl) (F_slices_IndexFunc___api_FleetRow_api_FleetRow__fleet_CheckTable_3_w p0 p1c0 v1 b3 v4 _ e10 _ _ _ (H.enter [0] [1, 2] (by decide) rfl)) ?_
  rintro _ w11 ⟨rfl, G12⟩
  have H : Hd O w w11 S [.fz (.sl rFleetRow v1 p0), .fz (.sl (Rp.int .i64) v4 p1c0.Events), .blk b3 [.string (bs p1c0.Key), .bool p1c0.Hidden, .int .i64 p1c0.Flights, v4] 46] := H.back [0] [1, 2] rfl G12
  refine ⟨_, rfl, ?_⟩
  obtain ⟨x13, e14, hF⟩ := letO_some hF
  refine RL_do rfl rfl (Do_as (Do_geq (a := x9) (b := 0) rfl rfl) (congrArg Value.bool e14)) ?_
  refine RL_do rfl rfl (Do_assign (v := .bool x13) rfl) ?_
  refine (RL_nil (thenQ_n (hK8 _ _ ?_)))
  have hR := Option.some.inj hF
  subst hR
  refine (WP_ret (post1 (v1 := .bool x13) rfl rfl ?_))
  exact ⟨rfl, H.pick [2] (by decide)⟩
end Go.Proofs.Ytbjhondbheijiaa
namespace Go.Proofs.Ytbjhondbheijiaa
open Go.RowKit Go.OB Go.Lf
/- orangebox/fleet.CheckTable$2 -/
set_option maxHeartbeats 4000000 in
theorem F_fleet_CheckTable_2_w (p0 : Int) (r : Bool) (hF : F_fleet_CheckTable_2 p0 = some r) (O S : List Nat) (w : World) (H : Hd O w w S []) :
    Calls Try.prog 42 ([.int .i64 p0] : List Value).toArray w fun e w' => e = .returned (.bool r) ∧ Hd O w w' S [] := by
  unfold F_fleet_CheckTable_2 at hF
  refine calls_of_WP 6 Try.func42 rfl rfl rfl ?_
  refine WP_seq_k fun K1 hK1 => ?_
  refine WP_region ?_
  refine RL_do rfl rfl (Do_assign (v := .bool false) rfl) ?_
  refine (RL_nil (thenQ_n (hK1 _ _ ?_)))
  refine WP_seq_k fun K2 hK2 => ?_
  refine WP_region ?_
  refine RL_do rfl rfl (Do_move (v := .int .i64 p0) rfl) ?_
  obtain ⟨x3, e4, hF⟩ := bindO_some hF
  refine RL_call rfl rfl (DoC_func en17 rfl) (F_fleet_within_w p0 0 1000000000 _ e4 _ _ _ (H.enter [] [] (by decide) rfl)) ?_
  rintro _ w5 ⟨rfl, G6⟩
  have H := H.back0 [] rfl G6
  refine ⟨_, rfl, ?_⟩
  obtain ⟨x7, e8, hF⟩ := letO_some hF
  refine RL_do rfl rfl (Do_as (Do_not (p := x3) rfl) (congrArg Value.bool e8)) ?_
  refine RL_do rfl rfl (Do_assign (v := .bool x7) rfl) ?_
  refine (RL_nil (thenQ_n (hK2 _ _ ?_)))
  have hR := Option.some.inj hF
  subst hR
  refine (WP_ret (post1 (v1 := .bool x7) rfl rfl ?_))
  exact ⟨rfl, H.pick [] (by decide)⟩
end Go.Proofs.Ytbjhondbheijiaa
namespace Go.Proofs.Ytbjhondbheijiaa
open Go.RowKit Go.OB Go.Lf
/- slices.IndexFunc[[]int,int]@orangebox/fleet.CheckTable$2 -/
set_option maxHeartbeats 4000000 in
theorem F_slices_IndexFunc___int_int__fleet_CheckTable_2_w (p0 : List Int) (v1 : Value) (r : Int) (hF : F_slices_IndexFunc___int_int__fleet_CheckTable_2 p0 = some r) (O S : List Nat) (w : World) (H : Hd O w w S [.fz (.sl (Rp.int .i64) v1 p0)]) :
    Calls Try.prog 51 ([v1, .func (.func 42) #[] #[]] : List Value).toArray w fun e w' => e = .returned (.int .i64 r) ∧ Hd O w w' S [] := by
  unfold F_slices_IndexFunc___int_int__fleet_CheckTable_2 at hF
  refine calls_of_WP 19 Try.func51 rfl rfl rfl ?_
  refine WP_seq_k fun K3 hK3 => ?_
  refine WP_region ?_
  refine RL_do rfl rfl (Do_assign (v := .int .i64 0) rfl) ?_
  refine (RL_nil (thenQ_n (hK3 _ _ ?_)))
  obtain ⟨k166, ek167, hF⟩ := joinO_some hF
  refine WP_seqS [4, 5, 6, 7, 8, 9, 10, 11, 12, 13, 14, 15, 16, 17, 18] (fun (g : Unit) => []) (fun g wl => Hd O w wl S [] ∧ k166 () = some r) ?_ ?_
  · skip
    refine WP_seq_k fun K168 hK168 => ?_
    refine WP_region ?_
    refine RL_do rfl rfl (Do_move (v := v1) rfl) ?_
    obtain ⟨x169, e170, hF⟩ := letO_some hF
    obtain ⟨a171, c172, q173⟩ := SlF.len ((H.item (i := 0) rfl))
    refine RL_do rfl rfl (Do_as (Do_len u44 q173) (congrArg (Value.int .i64) e170)) ?_
    refine RL_do rfl rfl (Do_move (v := .int .i64 0) rfl) ?_
    refine (RL_nil (thenQ_n (hK168 _ _ ?_)))
    refine WP_block ?_
    unfold F_slices_IndexFunc___int_int__fleet_CheckTable_2_L1 at hF
    obtain ⟨B274, n275, eB276, hF⟩ := loopO_some hF
    refine WP_loopS [4, 5, 8, 9, 10, 11, 12, 13, 14, 15, 16, 17, 18] (fun (g : Nat × Int) => [(8, .int .i64 g.2)]) (fun g wl => Hd O w wl S [.fz (.sl (Rp.int .i64) v1 p0)] ∧ loopN B274 g.1 g.2 = some r) (fun g => g.1) (n275, 0) (Sl_cons rfl Sl_nil) ⟨H.pick [0] (by decide), hF⟩ ?_
    clear H hF
    rintro ⟨n275, g273⟩ ρ w278 ⟨H, hF⟩
    obtain ⟨n279, rfl, hF⟩ := loopN_pos hF
    have hF := loop_body eB276 hF
    refine WP_seq_k fun K280 hK280 => ?_
    refine WP_region ?_
    obtain ⟨x281, e282, hF⟩ := letO_some hF
    refine RL_do rfl rfl (Do_as (Do_lss (a := g273) (b := x169) rfl rfl) (congrArg Value.bool e282)) ?_
    refine (RL_nil (thenQ_n (hK280 _ _ ?_)))
    refine WP_seq_k fun K284 hK284 => ?_
    refine WP_ifb (b := x281) rfl (fun c285 => ?_) (fun c285 => ?_)
    · have hF := iteB_t c285 hF
      refine (WP_skip (thenQ_n (hK284 _ _ ?_)))
      refine WP_seq_k fun K306 hK306 => ?_
      refine WP_block ?_
      refine WP_seq_k fun K307 hK307 => ?_
      refine WP_region ?_
      refine RL_do rfl rfl (Do_move (v := .int .i64 g273) rfl) ?_
      refine RL_do rfl rfl (Do_assign (v := .int .i64 g273) rfl) ?_
      refine (RL_nil (thenQ_n (hK307 _ _ ?_)))
      refine WP_seq_k fun K308 hK308 => ?_
      refine WP_region ?_
      refine RL_do rfl rfl (Do_move (v := .func (.func 42) #[] #[]) rfl) ?_
      refine RL_do rfl rfl (Do_move (v := v1) rfl) ?_
      refine RL_do rfl rfl (Do_move (v := .int .i64 g273) rfl) ?_
      obtain ⟨x309, e310, hF⟩ := bindO_some hF
      obtain ⟨b311, o312, c313, cs314, q315, h318, h316, h317, h319⟩ := rd_at (H.item (i := 0) rfl) e310
      obtain rfl : cs314 = [.int .i64 x309] := h318
      have H := H.fz (.at b311 (o312 + g273.toNat * 1) _) ⟨h316, h317, h319⟩
      refine RL_do rfl rfl (Do_idx u44 sz3 q315 rfl (at_some e310).1 (at_some e310).2.1 rfl rfl) ?_
      refine RL_do rfl rfl (Do_load one3 rfl (Cells.get (H.item (i := 1) rfl).2.2 (i := 0) rfl)) ?_
      obtain ⟨x321, e322, hF⟩ := bindO_some hF
      refine RL_call rfl rfl (DoC_clo en42 rfl rfl) (F_fleet_CheckTable_2_w x309 _ e322 _ _ _ (H.enter [] [] (by decide) rfl)) ?_
      rintro _ w323 ⟨rfl, G324⟩
      have H := H.back0 [] rfl G324
      refine ⟨_, rfl, ?_⟩
      refine (RL_nil (thenQ_n (hK308 _ _ ?_)))
      refine WP_ifb (b := x321) rfl (fun c325 => ?_) (fun c325 => ?_)
      · have hF := iteB_t c325 hF
        refine WP_seq_k fun K326 hK326 => ?_
        refine WP_region ?_
        refine RL_do rfl rfl (Do_move (v := .int .i64 g273) rfl) ?_
        refine RL_do rfl rfl (Do_assign (v := .int .i64 g273) rfl) ?_
        refine (RL_nil (thenQ_n (hK326 _ _ ?_)))
        have hR := Option.some.inj hF
        subst hR
        refine (WP_ret (blockQ_r (thenQ_r (thenQ_r (blockQ_r (thenQ_r (post1 (v1 := .int .i64 g273) rfl rfl ?_)))))))
        exact ⟨rfl, H.pick [] (by decide)⟩
      · have hF := iteB_f c325 hF
        refine (WP_skip (blockQ_n (thenQ_n (hK306 _ _ ?_))))
        refine WP_region ?_
        obtain ⟨x327, e328, hF⟩ := letO_some hF
        refine RL_do rfl rfl (Do_add (a := g273) (b := 1) rfl rfl e328) ?_
        refine RL_do rfl rfl (Do_move (v := .int .i64 x327) rfl) ?_
        refine (RL_nil (thenQ_n (And.intro ?_ ?_)))
        · repeat' (first | with_reducible exact Fr_refl | refine Fr_upd rfl ?_ | refine Fr_over rfl rfl ?_)
        · exact ⟨(n279, x327), (Sl_cons rfl Sl_nil), ⟨H.pick [0] (by decide), hF⟩, Nat.lt_succ_self _⟩
    · have hF := iteB_f c285 hF
      refine (WP_exit (thenQ_x (thenQ_x (blockQ_eq (thenQ_n (And.intro ?_ ?_))))))
      · repeat' (first | with_reducible exact Fr_refl | refine Fr_upd rfl ?_ | refine Fr_over rfl rfl ?_)
      · exact ⟨(), Sl_nil, ⟨H.pick [] (by decide), hF⟩⟩
  · rintro _ ρ w165 ⟨H, hF⟩
    have hF := join_body ek167 hF
    refine WP_seq_k fun K329 hK329 => ?_
    refine WP_region ?_
    refine RL_do rfl rfl (Do_assign (v := .int .i64 (-1)) rfl) ?_
    refine (RL_nil (thenQ_n (hK329 _ _ ?_)))
    have hR := Option.some.inj hF
    subst hR
    refine (WP_ret (post1 (v1 := .int .i64 (-1)) rfl rfl ?_))
    exact ⟨rfl, H.pick [] (by decide)⟩
end Go.Proofs.Ytbjhondbheijiaa
namespace Go.Proofs.Ytbjhondbheijiaa
open Go.RowKit Go.OB Go.Lf
/- slices.ContainsFunc[[]int,int]@orangebox/fleet.CheckTable$2 -/
set_option maxHeartbeats 4000000 in
theorem F_slices_ContainsFunc___int_int__fleet_CheckTable_2_w (p0 : List Int) (v1 : Value) (r : Bool) (hF : F_slices_ContainsFunc___int_int__fleet_CheckTable_2 p0 = some r) (O S : List Nat) (w : World) (H : Hd O w w S [.fz (.sl (Rp.int .i64) v1 p0)]) :
    Calls Try.prog 45 ([v1, .func (.func 42) #[] #[]] : List Value).toArray w fun e w' => e = .returned (.bool r) ∧ Hd O w w' S [] := by
  unfold F_slices_ContainsFunc___int_int__fleet_CheckTable_2 at hF
  refine calls_of_WP 9 Try.func45 rfl rfl rfl ?_
  refine WP_seq_k fun K3 hK3 => ?_
  refine WP_region ?_
  refine RL_do rfl rfl (Do_assign (v := .bool false) rfl) ?_
  refine (RL_nil (thenQ_n (hK3 _ _ ?_)))
  refine WP_seq_k fun K4 hK4 => ?_
  refine WP_region ?_
  refine RL_do rfl rfl (Do_move (v := v1) rfl) ?_
  refine RL_do rfl rfl (Do_move (v := .func (.func 42) #[] #[]) rfl) ?_
  obtain ⟨x5, e6, hF⟩ := bindO_some hF
  refine RL_call rfl rfl (DoC_func en51 rfl) (F_slices_IndexFunc___int_int__fleet_CheckTable_2_w p0 v1 _ e6 _ _ _ (H.enter [] [0] (by decide) rfl)) ?_
  rintro _ w7 ⟨rfl, G8⟩
  have H := H.back0 [0] rfl G8
  refine ⟨_, rfl, ?_⟩
  obtain ⟨x9, e10, hF⟩ := letO_some hF
  refine RL_do rfl rfl (Do_as (Do_geq (a := x5) (b := 0) rfl rfl) (congrArg Value.bool e10)) ?_
  refine RL_do rfl rfl (Do_assign (v := .bool x9) rfl) ?_
  refine (RL_nil (thenQ_n (hK4 _ _ ?_)))
  have hR := Option.some.inj hF
  subst hR
  refine (WP_ret (post1 (v1 := .bool x9) rfl rfl ?_))
  exact ⟨rfl, H.pick [] (by decide)⟩
end Go.Proofs.Ytbjhondbheijiaa
