/- Walks: what each function computes, for every argument; no condition but those that stand in the statements. -/
import Derived.Test.YtbjhondbheijiaaGreatZV0
import Derived.Test.YtbjhondbheijiaaGreatZV4
import Derived.Test.YtbjhondbheijiaaGreatZV3
namespace Go.Proofs.YtbjhondbheijiaaGreat.L
open Go.RowKit Go.OB Go.Lf
/- orangebox/orangeboxref9.listFault -/
set_option maxHeartbeats 4000000 in
theorem F_ref9_listFault_w (p0 : List Flight) (v1 : Value) (r : Int) (hF : F_ref9_listFault p0 = some r) (O S : List Nat) (w : World) (H : Hd O w w S [.fz (.sl rFlight v1 p0)]) :
    Calls Tryz.prog 32 ([v1] : List Value).toArray w fun e w' => e = .returned (.int .i64 r) ∧ Hd O w w' S [] := by
  unfold F_ref9_listFault at hF
  refine calls_of_WP 22 Tryz.func32 rfl rfl rfl ?_
  refine WP_seq_k fun K3 hK3 => ?_
  refine WP_region ?_
  refine RL_do rfl rfl (Do_assign (v := .int .i64 0) rfl) ?_
  refine (RL_nil (thenQ_n (hK3 _ _ ?_)))
  refine WP_seq_k fun K14 hK14 => ?_
  refine WP_seq_k fun K15 hK15 => ?_
  refine WP_region ?_
  refine RL_do rfl rfl (Do_move (v := v1) rfl) ?_
  obtain ⟨x16, e17, hF⟩ := letO_some hF
  obtain ⟨a18, c19, q20⟩ := SlF.len ((H.item (i := 0) rfl))
  refine RL_do rfl rfl (Do_as (Do_len u22 q20) (congrArg (Value.int .i64) e17)) ?_
  obtain ⟨x21, e22, hF⟩ := letO_some hF
  refine RL_do rfl rfl (Do_as (Do_gtr (a := x16) (b := 300) rfl rfl) (congrArg Value.bool e22)) ?_
  refine (RL_nil (thenQ_n (hK15 _ _ ?_)))
  refine WP_ifb (b := x21) rfl (fun c23 => ?_) (fun c23 => ?_)
  · have hF := iteB_t c23 hF
    refine WP_seq_k fun K24 hK24 => ?_
    refine WP_region ?_
    refine RL_do rfl rfl (Do_assign (v := .int .i64 3) rfl) ?_
    refine (RL_nil (thenQ_n (hK24 _ _ ?_)))
    have hR := Option.some.inj hF
    subst hR
    refine (WP_ret (thenQ_r (post1 (v1 := .int .i64 3) rfl rfl ?_)))
    exact ⟨rfl, H.pick [] (by decide)⟩
  · have hF := iteB_f c23 hF
    refine (WP_skip (thenQ_n (hK14 _ _ ?_)))
    obtain ⟨k182, ek183, hF⟩ := joinO_some hF
    refine WP_seqS [2, 3, 4, 8, 9, 10, 11, 12, 13, 14, 15, 16, 17, 18, 19, 20, 21] (fun (g : Unit) => []) (fun g wl => Hd O w wl S [] ∧ k182 () = some r) ?_ ?_
    · skip
      refine WP_seq_k fun K184 hK184 => ?_
      refine WP_region ?_
      refine RL_do rfl rfl (Do_assign (v := .int .i64 0) rfl) ?_
      refine (RL_nil (thenQ_n (hK184 _ _ ?_)))
      refine WP_block ?_
      unfold F_ref9_listFault_L1 at hF
      obtain ⟨B335, n336, eB337, hF⟩ := loopO_some hF
      refine WP_loopS [2, 3, 4, 8, 9, 10, 11, 12, 13, 14, 15, 16, 17, 18, 19, 20, 21] (fun (g : Nat × Int) => [(3, .int .i64 g.2)]) (fun g wl => Hd O w wl S [.fz (.sl rFlight v1 p0)] ∧ loopN B335 g.1 g.2 = some r) (fun g => g.1) (n336, 0) (Sl_cons rfl Sl_nil) ⟨H.pick [0] (by decide), hF⟩ ?_
      clear H hF
      rintro ⟨n336, g334⟩ ρ w339 ⟨H, hF⟩
      obtain ⟨n340, rfl, hF⟩ := loopN_pos hF
      have hF := loop_body eB337 hF
      refine WP_seq_k fun K350 hK350 => ?_
      refine WP_seq_k fun K351 hK351 => ?_
      refine WP_region ?_
      refine RL_do rfl rfl (Do_move (v := .int .i64 g334) rfl) ?_
      refine RL_do rfl rfl (Do_move (v := v1) rfl) ?_
      obtain ⟨x352, e353, hF⟩ := letO_some hF
      obtain ⟨a354, c355, q356⟩ := SlF.len ((H.item (i := 0) rfl))
      refine RL_do rfl rfl (Do_as (Do_len u22 q356) (congrArg (Value.int .i64) e353)) ?_
      obtain ⟨x357, e358, hF⟩ := letO_some hF
      refine RL_do rfl rfl (Do_as (Do_lss (a := g334) (b := x352) rfl rfl) (congrArg Value.bool e358)) ?_
      refine (RL_nil (thenQ_n (hK351 _ _ ?_)))
      refine WP_ifb (b := x357) rfl (fun c359 => ?_) (fun c359 => ?_)
      · have hF := iteB_t c359 hF
        refine (WP_skip (thenQ_n (hK350 _ _ ?_)))
        refine WP_seq_k fun K386 hK386 => ?_
        refine WP_block ?_
        refine WP_seq_k fun K387 hK387 => ?_
        refine WP_region ?_
        refine RL_do rfl rfl (Do_move (v := v1) rfl) ?_
        refine RL_do rfl rfl (Do_move (v := .int .i64 g334) rfl) ?_
        obtain ⟨x388, e389, hF⟩ := bindO_some hF
        obtain ⟨b390, o391, c392, cs393, q394, h397, h395, h396, h398⟩ := rd_at (H.item (i := 0) rfl) e389
        obtain ⟨v399, rfl, h400⟩ := rFlight_open h397
        have H := H.fzs [.at b390 (o391 + g334.toNat * 6) _, .sl rTrack v399 x388.Tracks] ⟨⟨h395, h396, h398⟩, h400, trivial⟩
        refine RL_do rfl rfl (Do_idx u22 sz66 q394 rfl (at_some e389).1 (at_some e389).2.1 rfl rfl) ?_
        refine RL_do rfl rfl (Do_as (Do_loads (cs := [.string (bs x388.Tail), .string (bs x388.Route), .int .i64 x388.Day, .int .i64 x388.From, .int .i64 x388.To, v399]) agg66 rfl sz66 rfl (H.item (i := 1) rfl).2.2) rfl) ?_
        have H403 := H
        obtain ⟨x404, e405, hF⟩ := bindO_some hF
        refine RL_call rfl rfl (DoC_func en53 rfl) (F_ref9_CheckFlight_w x388 v399 _ e405 _ _ _ (H.enter [] [2] (by decide) rfl)) ?_
        rintro _ w406 ⟨rfl, G407⟩
        have H := H403.step (G407.only : Only [] _ _)
        refine ⟨_, rfl, ?_⟩
        refine RL_do rfl rfl (Do_assign (v := .int .i64 x404) rfl) ?_
        refine (RL_nil (thenQ_n (hK387 _ _ ?_)))
        refine WP_seq_k fun K408 hK408 => ?_
        refine WP_region ?_
        refine RL_do rfl rfl (Do_move (v := .int .i64 x404) rfl) ?_
        obtain ⟨x409, e410, hF⟩ := letO_some hF
        refine RL_do rfl rfl (Do_as (Do_neq (a := x404) (b := 0) rfl rfl) (congrArg Value.bool e410)) ?_
        refine (RL_nil (thenQ_n (hK408 _ _ ?_)))
        refine WP_ifb (b := x409) rfl (fun c411 => ?_) (fun c411 => ?_)
        · have hF := iteB_t c411 hF
          refine WP_seq_k fun K412 hK412 => ?_
          refine WP_region ?_
          refine RL_do rfl rfl (Do_move (v := .int .i64 x404) rfl) ?_
          refine RL_do rfl rfl (Do_assign (v := .int .i64 x404) rfl) ?_
          refine (RL_nil (thenQ_n (hK412 _ _ ?_)))
          have hR := Option.some.inj hF
          subst hR
          refine (WP_ret (blockQ_r (thenQ_r (thenQ_r (blockQ_r (thenQ_r (post1 (v1 := .int .i64 x404) rfl rfl ?_)))))))
          exact ⟨rfl, H.pick [] (by decide)⟩
        · have hF := iteB_f c411 hF
          refine (WP_skip (blockQ_n (thenQ_n (hK386 _ _ ?_))))
          refine WP_region ?_
          refine RL_do rfl rfl (Do_move (v := .int .i64 g334) rfl) ?_
          obtain ⟨x413, e414, hF⟩ := letO_some hF
          refine RL_do rfl rfl (Do_add (a := g334) (b := 1) rfl rfl e414) ?_
          refine RL_do rfl rfl (Do_assign (v := .int .i64 x413) rfl) ?_
          refine (RL_nil (thenQ_n (And.intro ?_ ?_)))
          · repeat' (first | with_reducible exact Fr_refl | refine Fr_upd rfl ?_ | refine Fr_over rfl rfl ?_)
          · exact ⟨(n340, x413), (Sl_cons rfl Sl_nil), ⟨H.pick [0] (by decide), hF⟩, Nat.lt_succ_self _⟩
      · have hF := iteB_f c359 hF
        refine (WP_exit (thenQ_x (thenQ_x (blockQ_eq (thenQ_n (And.intro ?_ ?_))))))
        · repeat' (first | with_reducible exact Fr_refl | refine Fr_upd rfl ?_ | refine Fr_over rfl rfl ?_)
        · exact ⟨(), Sl_nil, ⟨H.pick [] (by decide), hF⟩⟩
    · rintro _ ρ w181 ⟨H, hF⟩
      have hF := join_body ek183 hF
      refine WP_seq_k fun K415 hK415 => ?_
      refine WP_region ?_
      refine RL_do rfl rfl (Do_assign (v := .int .i64 0) rfl) ?_
      refine (RL_nil (thenQ_n (hK415 _ _ ?_)))
      have hR := Option.some.inj hF
      subst hR
      refine (WP_ret (post1 (v1 := .int .i64 0) rfl rfl ?_))
      exact ⟨rfl, H.pick [] (by decide)⟩
end Go.Proofs.YtbjhondbheijiaaGreat.L
namespace Go.Proofs.YtbjhondbheijiaaGreat.L
open Go.RowKit Go.OB Go.Lf
/- orangebox/orangeboxref9.twice -/
set_option maxHeartbeats 4000000 in
theorem F_ref9_twice_w (p0 : List Str) (p1 : Int) (v1 : Value) (r : Bool) (hF : F_ref9_twice p0 p1 = some r) (O S : List Nat) (w : World) (H : Hd O w w S [.fz (.sl Rp.str v1 p0)]) :
    Calls Tryz.prog 54 ([v1, .int .i64 p1] : List Value).toArray w fun e w' => e = .returned (.bool r) ∧ Hd O w w' S [] := by
  unfold F_ref9_twice at hF
  refine calls_of_WP 20 Tryz.func54 rfl rfl rfl ?_
  refine WP_seq_k fun K3 hK3 => ?_
  refine WP_region ?_
  refine RL_do rfl rfl (Do_assign (v := .bool false) rfl) ?_
  refine (RL_nil (thenQ_n (hK3 _ _ ?_)))
  obtain ⟨k165, ek166, hF⟩ := joinO_some hF
  refine WP_seqS [4, 5, 6, 7, 8, 9, 10, 11, 12, 13, 14, 15, 16, 17, 18, 19] (fun (g : Unit) => []) (fun g wl => Hd O w wl S [] ∧ k165 () = some r) ?_ ?_
  · skip
    refine WP_seq_k fun K167 hK167 => ?_
    refine WP_region ?_
    refine RL_do rfl rfl (Do_assign (v := .int .i64 0) rfl) ?_
    refine (RL_nil (thenQ_n (hK167 _ _ ?_)))
    refine WP_block ?_
    unfold F_ref9_twice_L1 at hF
    obtain ⟨B322, n323, eB324, hF⟩ := loopO_some hF
    refine WP_loopS [4, 5, 6, 7, 8, 9, 10, 11, 12, 13, 14, 15, 16, 17, 18, 19] (fun (g : Nat × Int) => [(5, .int .i64 g.2)]) (fun g wl => Hd O w wl S [.fz (.sl Rp.str v1 p0)] ∧ loopN B322 g.1 g.2 = some r) (fun g => g.1) (n323, 0) (Sl_cons rfl Sl_nil) ⟨H.pick [0] (by decide), hF⟩ ?_
    clear H hF
    rintro ⟨n323, g321⟩ ρ w326 ⟨H, hF⟩
    obtain ⟨n327, rfl, hF⟩ := loopN_pos hF
    have hF := loop_body eB324 hF
    refine WP_seq_k fun K332 hK332 => ?_
    refine WP_seq_k fun K333 hK333 => ?_
    refine WP_region ?_
    refine RL_do rfl rfl (Do_move (v := .int .i64 g321) rfl) ?_
    refine RL_do rfl rfl (Do_move (v := .int .i64 p1) rfl) ?_
    obtain ⟨x334, e335, hF⟩ := letO_some hF
    refine RL_do rfl rfl (Do_as (Do_lss (a := g321) (b := p1) rfl rfl) (congrArg Value.bool e335)) ?_
    refine (RL_nil (thenQ_n (hK333 _ _ ?_)))
    refine WP_ifb (b := x334) rfl (fun c336 => ?_) (fun c336 => ?_)
    · have hF := iteB_t c336 hF
      refine (WP_skip (thenQ_n (hK332 _ _ ?_)))
      refine WP_seq_k fun K369 hK369 => ?_
      refine WP_block ?_
      refine WP_seq_k fun K370 hK370 => ?_
      have H371 := H
      have H := H.rebase
      have H372 := H
      refine WP_mix0 H [0, 1, 2, 3, 4, 5, 6, 7, 8] [.pure, .pure, .pure, .read, .pure, .pure, .pure, .read, .pure] mixed (by kernel_rfl) (by kernel_rfl) (by kernel_rfl) rfl ?_
      refine Mx.XL_pure rfl rfl rfl (fun w' hw' => Do_move (v := v1) rfl) ?_
      refine Mx.XL_pure rfl rfl rfl (fun w' hw' => Do_move (v := .int .i64 g321) rfl) ?_
      obtain ⟨x373, e374, hF⟩ := bindO_some hF
      obtain ⟨b375, o376, c377, cs378, q379, h382, h380, h381, h383⟩ := rd_at (H.item (i := 0) rfl) e374
      obtain rfl : cs378 = [.string (bs x373)] := h382
      have H := H.fz (.at b375 (o376 + g321.toNat * 1) _) ⟨h380, h381, h383⟩
      refine Mx.XL_pure rfl rfl rfl (fun w' hw' => Do_idx u23 sz9 q379 rfl (at_some e374).1 (at_some e374).2.1 rfl rfl) ?_
      refine Mx.XL_read oS rfl rfl rfl (fun w' hw' => Do_load one9 rfl (Cells.get ((H.sees hw').item (i := 1) rfl).2.2 (i := 0) rfl)) ?_
      refine Mx.XL_pure rfl rfl rfl (fun w' hw' => Do_move (v := v1) rfl) ?_
      refine Mx.XL_pure rfl rfl rfl (fun w' hw' => Do_move (v := .int .i64 p1) rfl) ?_
      obtain ⟨x385, e386, hF⟩ := bindO_some hF
      obtain ⟨b387, o388, c389, cs390, q391, h394, h392, h393, h395⟩ := rd_at (H.item (i := 0) rfl) e386
      obtain rfl : cs390 = [.string (bs x385)] := h394
      have H := H.fz (.at b387 (o388 + p1.toNat * 1) _) ⟨h392, h393, h395⟩
      refine Mx.XL_pure rfl rfl rfl (fun w' hw' => Do_idx u23 sz9 q391 rfl (at_some e386).1 (at_some e386).2.1 rfl rfl) ?_
      refine Mx.XL_read oS rfl rfl rfl (fun w' hw' => Do_load one9 rfl (Cells.get ((H.sees hw').item (i := 2) rfl).2.2 (i := 0) rfl)) ?_
      obtain ⟨x397, e398, hF⟩ := letO_some hF
      refine Mx.XL_pure rfl rfl rfl (fun w' hw' => Do_as (Do_eqls (s1 := x373) (s2 := x385) rfl rfl) (congrArg Value.bool e398)) ?_
      refine Mx.XL_nil fun w399 hS => ?_
      have H := H.sees hS
      have H := H371.rejoin H
      refine (thenQ_n (hK370 _ _ ?_))
      refine WP_ifb (b := x397) rfl (fun c400 => ?_) (fun c400 => ?_)
      · have hF := iteB_t c400 hF
        refine WP_seq_k fun K401 hK401 => ?_
        refine WP_region ?_
        refine RL_do rfl rfl (Do_assign (v := .bool true) rfl) ?_
        refine (RL_nil (thenQ_n (hK401 _ _ ?_)))
        have hR := Option.some.inj hF
        subst hR
        refine (WP_ret (blockQ_r (thenQ_r (thenQ_r (blockQ_r (thenQ_r (post1 (v1 := .bool true) rfl rfl ?_)))))))
        exact ⟨rfl, H.pick [] (by decide)⟩
      · have hF := iteB_f c400 hF
        refine (WP_skip (blockQ_n (thenQ_n (hK369 _ _ ?_))))
        refine WP_region ?_
        refine RL_do rfl rfl (Do_move (v := .int .i64 g321) rfl) ?_
        obtain ⟨x402, e403, hF⟩ := letO_some hF
        refine RL_do rfl rfl (Do_add (a := g321) (b := 1) rfl rfl e403) ?_
        refine RL_do rfl rfl (Do_assign (v := .int .i64 x402) rfl) ?_
        refine (RL_nil (thenQ_n (And.intro ?_ ?_)))
        · repeat' (first | with_reducible exact Fr_refl | refine Fr_upd rfl ?_ | refine Fr_over rfl rfl ?_)
        · exact ⟨(n327, x402), (Sl_cons rfl Sl_nil), ⟨H.pick [0] (by decide), hF⟩, Nat.lt_succ_self _⟩
    · have hF := iteB_f c336 hF
      refine (WP_exit (thenQ_x (thenQ_x (blockQ_eq (thenQ_n (And.intro ?_ ?_))))))
      · repeat' (first | with_reducible exact Fr_refl | refine Fr_upd rfl ?_ | refine Fr_over rfl rfl ?_)
      · exact ⟨(), Sl_nil, ⟨H.pick [] (by decide), hF⟩⟩
  · rintro _ ρ w164 ⟨H, hF⟩
    have hF := join_body ek166 hF
    refine WP_seq_k fun K404 hK404 => ?_
    refine WP_region ?_
    refine RL_do rfl rfl (Do_assign (v := .bool false) rfl) ?_
    refine (RL_nil (thenQ_n (hK404 _ _ ?_)))
    have hR := Option.some.inj hF
    subst hR
    refine (WP_ret (post1 (v1 := .bool false) rfl rfl ?_))
    exact ⟨rfl, H.pick [] (by decide)⟩
end Go.Proofs.YtbjhondbheijiaaGreat.L
namespace Go.Proofs.YtbjhondbheijiaaGreat.L
open Go.RowKit Go.OB Go.Lf
/- orangebox/orangeboxref9.CheckMask -/
set_option maxHeartbeats 4000000 in
theorem F_ref9_CheckMask_w (p0 : Mask) (v1 : Value) (v2 : Value) (r : Int) (hF : F_ref9_CheckMask p0 = some r) (O S : List Nat) (w : World) (H : Hd O w w S [.fz (.sl Rp.str v1 p0.Hide), .fz (.sl rGrain v2 p0.Grains)]) :
    Calls Tryz.prog 33 ([.agg [.bool p0.Tails, .int .i64 p0.Days, v1, v2, .int .i64 p0.Least].toArray] : List Value).toArray w fun e w' => e = .returned (.int .i64 r) ∧ Hd O w w' S [] := by
  unfold F_ref9_CheckMask at hF
  refine calls_of_WP 70 Tryz.func33 rfl rfl rfl ?_
  refine WP_seq_k fun K5 hK5 => ?_
  refine WP_region ?_
  refine RL_ex rfl rfl (Lx_box (cs := [.bool p0.Tails, .int .i64 p0.Days, v1, v2, .int .i64 p0.Least]) rfl H) ?_
  rintro _ w8 ⟨b6, rfl, H⟩
  refine RL_do rfl rfl (Do_assign (v := .int .i64 0) rfl) ?_
  refine (RL_nil (thenQ_n (hK5 _ _ ?_)))
  refine WP_seq_k fun K17 hK17 => ?_
  refine WP_seq_k fun K18 hK18 => ?_
  refine WP_region ?_
  refine RL_do rfl rfl (fa26_1 rfl) ?_
  refine RL_do rfl rfl (Do_load one3 rfl (Cells.get (Blk.cells (H.item (i := 2) rfl)) (i := 1) rfl)) ?_
  have H19 := H
  obtain ⟨x20, e21, hF⟩ := bindO_some hF
  refine RL_call rfl rfl (DoC_func en14 rfl) (F_ref9_outside_w p0.Days 1 1000000 _ e21 _ _ _ (H.enter [] [] (by decide) rfl)) ?_
  rintro _ w22 ⟨rfl, G23⟩
  have H := H19.step (G23.only : Only [] _ _)
  refine ⟨_, rfl, ?_⟩
  refine (RL_nil (thenQ_n (hK18 _ _ ?_)))
  refine WP_ifb (b := x20) rfl (fun c24 => ?_) (fun c24 => ?_)
  · have hF := iteB_t c24 hF
    refine WP_seq_k fun K25 hK25 => ?_
    refine WP_region ?_
    refine RL_do rfl rfl (Do_assign (v := .int .i64 9) rfl) ?_
    refine (RL_nil (thenQ_n (hK25 _ _ ?_)))
    have hR := Option.some.inj hF
    subst hR
    refine (WP_ret (thenQ_r (post1 (v1 := .int .i64 9) rfl rfl ?_)))
    exact ⟨rfl, H.pick [] (by decide)⟩
  · have hF := iteB_f c24 hF
    refine (WP_skip (thenQ_n (hK17 _ _ ?_)))
    refine WP_seq_k fun K36 hK36 => ?_
    refine WP_seq_k fun K37 hK37 => ?_
    refine WP_region ?_
    refine RL_do rfl rfl (fa26_2 rfl) ?_
    refine RL_do rfl rfl (Do_load one23 rfl (Cells.get (Blk.cells (H.item (i := 2) rfl)) (i := 2) rfl)) ?_
    obtain ⟨x38, e39, hF⟩ := letO_some hF
    obtain ⟨a40, c41, q42⟩ := SlF.len ((H.item (i := 0) rfl))
    refine RL_do rfl rfl (Do_as (Do_len u23 q42) (congrArg (Value.int .i64) e39)) ?_
    obtain ⟨x43, e44, hF⟩ := letO_some hF
    refine RL_do rfl rfl (Do_as (Do_gtr (a := x38) (b := 30) rfl rfl) (congrArg Value.bool e44)) ?_
    refine (RL_nil (thenQ_n (hK37 _ _ ?_)))
    refine WP_ifb (b := x43) rfl (fun c45 => ?_) (fun c45 => ?_)
    · have hF := iteB_t c45 hF
      refine WP_seq_k fun K46 hK46 => ?_
      refine WP_region ?_
      refine RL_do rfl rfl (Do_assign (v := .int .i64 3) rfl) ?_
      refine (RL_nil (thenQ_n (hK46 _ _ ?_)))
      have hR := Option.some.inj hF
      subst hR
      refine (WP_ret (thenQ_r (post1 (v1 := .int .i64 3) rfl rfl ?_)))
      exact ⟨rfl, H.pick [] (by decide)⟩
    · have hF := iteB_f c45 hF
      refine (WP_skip (thenQ_n (hK36 _ _ ?_)))
      obtain ⟨k312, ek313, hF⟩ := joinO_some hF
      refine WP_seqS [2, 3, 13, 14, 15, 16, 17, 18, 19, 20, 21, 22, 23, 24, 25, 26, 27, 28, 29, 30] (fun (g : Unit) => []) (fun g wl => Hd O w wl S [.blk b6 [.bool p0.Tails, .int .i64 p0.Days, v1, v2, .int .i64 p0.Least] 26, .fz (.sl Rp.str v1 p0.Hide), .fz (.sl rGrain v2 p0.Grains)] ∧ k312 () = some r) ?_ ?_
      · skip
        refine WP_seq_k fun K314 hK314 => ?_
        refine WP_region ?_
        refine RL_do rfl rfl (Do_assign (v := .int .i64 0) rfl) ?_
        refine (RL_nil (thenQ_n (hK314 _ _ ?_)))
        refine WP_block ?_
        unfold F_ref9_CheckMask_L1 at hF
        obtain ⟨B573, n574, eB575, hF⟩ := loopO_some hF
        refine WP_loopS [2, 3, 13, 14, 15, 16, 17, 18, 19, 20, 21, 22, 23, 24, 25, 26, 27, 28, 29, 30] (fun (g : Nat × Int) => [(3, .int .i64 g.2)]) (fun g wl => Hd O w wl S [.blk b6 [.bool p0.Tails, .int .i64 p0.Days, v1, v2, .int .i64 p0.Least] 26, .fz (.sl Rp.str v1 p0.Hide), .fz (.sl rGrain v2 p0.Grains)] ∧ loopN B573 g.1 g.2 = some r) (fun g => g.1) (n574, 0) (Sl_cons rfl Sl_nil) ⟨H.pick [2, 0, 1] (by decide), hF⟩ ?_
        clear H hF
        rintro ⟨n574, g572⟩ ρ w577 ⟨H, hF⟩
        obtain ⟨n578, rfl, hF⟩ := loopN_pos hF
        have hF := loop_body eB575 hF
        refine WP_seq_k fun K588 hK588 => ?_
        refine WP_seq_k fun K589 hK589 => ?_
        refine WP_region ?_
        refine RL_do rfl rfl (Do_move (v := .int .i64 g572) rfl) ?_
        refine RL_do rfl rfl (fa26_2 rfl) ?_
        refine RL_do rfl rfl (Do_load one23 rfl (Cells.get (Blk.cells (H.item (i := 0) rfl)) (i := 2) rfl)) ?_
        obtain ⟨x590, e591, hF⟩ := letO_some hF
        obtain ⟨a592, c593, q594⟩ := SlF.len ((H.item (i := 1) rfl))
        refine RL_do rfl rfl (Do_as (Do_len u23 q594) (congrArg (Value.int .i64) e591)) ?_
        obtain ⟨x595, e596, hF⟩ := letO_some hF
        refine RL_do rfl rfl (Do_as (Do_lss (a := g572) (b := x590) rfl rfl) (congrArg Value.bool e596)) ?_
        refine (RL_nil (thenQ_n (hK589 _ _ ?_)))
        refine WP_ifb (b := x595) rfl (fun c597 => ?_) (fun c597 => ?_)
        · have hF := iteB_t c597 hF
          refine (WP_skip (thenQ_n (hK588 _ _ ?_)))
          refine WP_seq_k fun K651 hK651 => ?_
          refine WP_block ?_
          refine WP_seq_k fun K674 hK674 => ?_
          refine WP_seq_k fun K675 hK675 => ?_
          refine WP_region ?_
          refine RL_do rfl rfl (fa26_2 rfl) ?_
          refine RL_do rfl rfl (Do_load one23 rfl (Cells.get (Blk.cells (H.item (i := 0) rfl)) (i := 2) rfl)) ?_
          refine RL_do rfl rfl (Do_move (v := .int .i64 g572) rfl) ?_
          obtain ⟨x676, e677, hF⟩ := bindO_some hF
          obtain ⟨b678, o679, c680, cs681, q682, h685, h683, h684, h686⟩ := rd_at (H.item (i := 1) rfl) e677
          obtain rfl : cs681 = [.string (bs x676)] := h685
          have H := H.fz (.at b678 (o679 + g572.toNat * 1) _) ⟨h683, h684, h686⟩
          refine RL_do rfl rfl (Do_idx u23 sz9 q682 rfl (at_some e677).1 (at_some e677).2.1 rfl rfl) ?_
          refine RL_do rfl rfl (Do_load one9 rfl (Cells.get (H.item (i := 3) rfl).2.2 (i := 0) rfl)) ?_
          have H688 := H
          obtain ⟨x689, e690, hF⟩ := bindO_some hF
          refine RL_call rfl rfl (DoC_func en34 rfl) (F_ref6_IsName_w x676 _ e690 _ _ _ (H.enter [] [] (by decide) rfl)) ?_
          rintro _ w691 ⟨rfl, G692⟩
          have H := H688.step (G692.only : Only [] _ _)
          refine ⟨_, rfl, ?_⟩
          obtain ⟨x693, e694, hF⟩ := letO_some hF
          refine RL_do rfl rfl (Do_as (Do_not (p := x689) rfl) (congrArg Value.bool e694)) ?_
          refine (RL_nil (thenQ_n (hK675 _ _ ?_)))
          refine WP_ifb (b := x693) rfl (fun c695 => ?_) (fun c695 => ?_)
          · have hF := iteB_t c695 hF
            refine WP_seq_k fun K696 hK696 => ?_
            refine WP_region ?_
            refine RL_do rfl rfl (Do_assign (v := .int .i64 8) rfl) ?_
            refine (RL_nil (thenQ_n (hK696 _ _ ?_)))
            have hR := Option.some.inj hF
            subst hR
            refine (WP_ret (thenQ_r (blockQ_r (thenQ_r (thenQ_r (blockQ_r (thenQ_r (post1 (v1 := .int .i64 8) rfl rfl ?_))))))))
            exact ⟨rfl, H.pick [] (by decide)⟩
          · have hF := iteB_f c695 hF
            refine (WP_skip (thenQ_n (hK674 _ _ ?_)))
            refine WP_seq_k fun K697 hK697 => ?_
            refine WP_region ?_
            refine RL_do rfl rfl (fa26_2 rfl) ?_
            refine RL_do rfl rfl (Do_load one23 rfl (Cells.get (Blk.cells (H.item (i := 0) rfl)) (i := 2) rfl)) ?_
            refine RL_do rfl rfl (Do_move (v := .int .i64 g572) rfl) ?_
            have H698 := H
            obtain ⟨x699, e700, hF⟩ := bindO_some hF
            refine RL_call rfl rfl (DoC_func en54 rfl) (F_ref9_twice_w p0.Hide g572 v1 _ e700 _ _ _ (H.enter [] [1] (by decide) rfl)) ?_
            rintro _ w701 ⟨rfl, G702⟩
            have H := H698.step (G702.only : Only [] _ _)
            refine ⟨_, rfl, ?_⟩
            refine (RL_nil (thenQ_n (hK697 _ _ ?_)))
            refine WP_ifb (b := x699) rfl (fun c703 => ?_) (fun c703 => ?_)
            · have hF := iteB_t c703 hF
              refine WP_seq_k fun K704 hK704 => ?_
              refine WP_region ?_
              refine RL_do rfl rfl (Do_assign (v := .int .i64 5) rfl) ?_
              refine (RL_nil (thenQ_n (hK704 _ _ ?_)))
              have hR := Option.some.inj hF
              subst hR
              refine (WP_ret (blockQ_r (thenQ_r (thenQ_r (blockQ_r (thenQ_r (post1 (v1 := .int .i64 5) rfl rfl ?_)))))))
              exact ⟨rfl, H.pick [] (by decide)⟩
            · have hF := iteB_f c703 hF
              refine (WP_skip (blockQ_n (thenQ_n (hK651 _ _ ?_))))
              refine WP_region ?_
              refine RL_do rfl rfl (Do_move (v := .int .i64 g572) rfl) ?_
              obtain ⟨x705, e706, hF⟩ := letO_some hF
              refine RL_do rfl rfl (Do_add (a := g572) (b := 1) rfl rfl e706) ?_
              refine RL_do rfl rfl (Do_assign (v := .int .i64 x705) rfl) ?_
              refine (RL_nil (thenQ_n (And.intro ?_ ?_)))
              · repeat' (first | with_reducible exact Fr_refl | refine Fr_upd rfl ?_ | refine Fr_over rfl rfl ?_)
              · exact ⟨(n578, x705), (Sl_cons rfl Sl_nil), ⟨H.pick [0, 1, 2] (by decide), hF⟩, Nat.lt_succ_self _⟩
        · have hF := iteB_f c597 hF
          refine (WP_exit (thenQ_x (thenQ_x (blockQ_eq (thenQ_n (And.intro ?_ ?_))))))
          · repeat' (first | with_reducible exact Fr_refl | refine Fr_upd rfl ?_ | refine Fr_over rfl rfl ?_)
          · exact ⟨(), Sl_nil, ⟨H.pick [0, 1, 2] (by decide), hF⟩⟩
      · rintro _ ρ w311 ⟨H, hF⟩
        have hF := join_body ek313 hF
        refine WP_seq_k fun K717 hK717 => ?_
        refine WP_seq_k fun K718 hK718 => ?_
        refine WP_region ?_
        refine RL_do rfl rfl (fa26_3 rfl) ?_
        refine RL_do rfl rfl (Do_load one24 rfl (Cells.get (Blk.cells (H.item (i := 0) rfl)) (i := 3) rfl)) ?_
        obtain ⟨x719, e720, hF⟩ := letO_some hF
        obtain ⟨a721, c722, q723⟩ := SlF.len ((H.item (i := 2) rfl))
        refine RL_do rfl rfl (Do_as (Do_len u24 q723) (congrArg (Value.int .i64) e720)) ?_
        obtain ⟨x724, e725, hF⟩ := letO_some hF
        refine RL_do rfl rfl (Do_as (Do_gtr (a := x719) (b := 30) rfl rfl) (congrArg Value.bool e725)) ?_
        refine (RL_nil (thenQ_n (hK718 _ _ ?_)))
        refine WP_ifb (b := x724) rfl (fun c726 => ?_) (fun c726 => ?_)
        · have hF := iteB_t c726 hF
          refine WP_seq_k fun K727 hK727 => ?_
          refine WP_region ?_
          refine RL_do rfl rfl (Do_assign (v := .int .i64 3) rfl) ?_
          refine (RL_nil (thenQ_n (hK727 _ _ ?_)))
          have hR := Option.some.inj hF
          subst hR
          refine (WP_ret (thenQ_r (post1 (v1 := .int .i64 3) rfl rfl ?_)))
          exact ⟨rfl, H.pick [] (by decide)⟩
        · have hF := iteB_f c726 hF
          refine (WP_skip (thenQ_n (hK717 _ _ ?_)))
          refine WP_seq_k fun K728 hK728 => ?_
          refine WP_region ?_
          refine RL_do rfl rfl (Do_assign (v := .slice none 0 0) rfl) ?_
          refine (RL_nil (thenQ_n (hK728 _ _ ?_)))
          obtain ⟨k1196, ek1197, hF⟩ := joinO_some hF
          refine WP_seqS [2, 4, 5, 35, 36, 37, 38, 39, 40, 41, 42, 43, 44, 45, 46, 47, 48, 49, 50, 51, 52, 53, 54, 55, 56, 57, 58, 59, 60, 61, 62, 63, 64, 65, 66] (fun (g : Unit) => []) (fun g wl => Hd O w wl S [.blk b6 [.bool p0.Tails, .int .i64 p0.Days, v1, v2, .int .i64 p0.Least] 26, .fz (.sl Rp.str v1 p0.Hide), .fz (.sl rGrain v2 p0.Grains)] ∧ k1196 () = some r) ?_ ?_
          · skip
            refine WP_seq_k fun K1198 hK1198 => ?_
            refine WP_region ?_
            refine RL_do rfl rfl (Do_assign (v := .int .i64 0) rfl) ?_
            refine (RL_nil (thenQ_n (hK1198 _ _ ?_)))
            refine WP_block ?_
            have H := own_nil H Rp.str 9
            unfold F_ref9_CheckMask_L2 at hF
            obtain ⟨B1662, n1663, eB1664, hF⟩ := loopO_some hF
            refine WP_loopS [2, 4, 5, 35, 36, 37, 38, 39, 40, 41, 42, 43, 44, 45, 46, 47, 48, 49, 50, 51, 52, 53, 54, 55, 56, 57, 58, 59, 60, 61, 62, 63, 64, 65, 66] (fun (g : Nat × (List Str) × Int × Value) => [(4, g.2.2.2), (5, .int .i64 g.2.2.1)]) (fun g wl => Hd O w wl S [.own Rp.str g.2.2.2 9 g.2.1, .blk b6 [.bool p0.Tails, .int .i64 p0.Days, v1, v2, .int .i64 p0.Least] 26, .fz (.sl Rp.str v1 p0.Hide), .fz (.sl rGrain v2 p0.Grains)] ∧ loopN B1662 g.1 (g.2.1, g.2.2.1) = some r) (fun g => g.1) (n1663, [], 0, .slice none 0 0) (Sl_cons rfl (Sl_cons rfl Sl_nil)) ⟨H.pick [3, 0, 1, 2] (by decide), hF⟩ ?_
            clear H hF
            rintro ⟨n1663, g1658, g1660, v1659⟩ ρ w1666 ⟨H, hF⟩
            obtain ⟨n1667, rfl, hF⟩ := loopN_pos hF
            have hF := loop_body eB1664 hF
            refine WP_seq_k fun K1677 hK1677 => ?_
            refine WP_seq_k fun K1678 hK1678 => ?_
            refine WP_region ?_
            refine RL_do rfl rfl (Do_move (v := .int .i64 g1660) rfl) ?_
            refine RL_do rfl rfl (fa26_3 rfl) ?_
            refine RL_do rfl rfl (Do_load one24 rfl (Cells.get (Blk.cells (H.item (i := 1) rfl)) (i := 3) rfl)) ?_
            obtain ⟨x1679, e1680, hF⟩ := letO_some hF
            obtain ⟨a1681, c1682, q1683⟩ := SlF.len ((H.item (i := 3) rfl))
            refine RL_do rfl rfl (Do_as (Do_len u24 q1683) (congrArg (Value.int .i64) e1680)) ?_
            obtain ⟨x1684, e1685, hF⟩ := letO_some hF
            refine RL_do rfl rfl (Do_as (Do_lss (a := g1660) (b := x1679) rfl rfl) (congrArg Value.bool e1685)) ?_
            refine (RL_nil (thenQ_n (hK1678 _ _ ?_)))
            refine WP_ifb (b := x1684) rfl (fun c1686 => ?_) (fun c1686 => ?_)
            · have hF := iteB_t c1686 hF
              refine (WP_skip (thenQ_n (hK1677 _ _ ?_)))
              refine WP_seq_k fun K1789 hK1789 => ?_
              refine WP_block ?_
              refine WP_seq_k fun K1790 hK1790 => ?_
              refine WP_region ?_
              refine RL_do rfl rfl (Do_move (v := v1659) rfl) ?_
              refine RL_do rfl rfl (fa26_3 rfl) ?_
              refine RL_do rfl rfl (Do_load one24 rfl (Cells.get (Blk.cells (H.item (i := 1) rfl)) (i := 3) rfl)) ?_
              refine RL_do rfl rfl (Do_move (v := .int .i64 g1660) rfl) ?_
              obtain ⟨x1791, e1792, hF⟩ := bindO_some hF
              obtain ⟨b1793, o1794, c1795, cs1796, q1797, h1800, h1798, h1799, h1801⟩ := rd_at (H.item (i := 3) rfl) e1792
              obtain rfl := rGrain_open h1800
              have H := H.fz (.at b1793 (o1794 + g1660.toNat * 2) _) ⟨h1798, h1799, h1801⟩
              refine RL_do rfl rfl (Do_idx u24 sz91 q1797 rfl (at_some e1792).1 (at_some e1792).2.1 rfl rfl) ?_
              refine RL_do rfl rfl (fa91_0 rfl) ?_
              refine RL_do rfl rfl (Do_load one9 rfl (Cells.get (H.item (i := 4) rfl).2.2 (i := 0) rfl)) ?_
              obtain ⟨x1803, e1804, hF⟩ := letO_some hF
              subst e1804
              refine RL_ex rfl rfl (Lx_bs (r := Rp.str) (xl := [x1791.Track]) (cs := [.string (bs x1791.Track)]) u23 el9 (by decide) (by decide) rfl (fillB_parts (vs := [.string (bs x1791.Track)]) (by decide) rfl rfl ⟨rfl, trivial⟩ rfl) H ⟨[.string (bs x1791.Track)], [], rfl, rfl, rfl⟩) ?_
              rintro v1806 w1807 H
              obtain ⟨x1808, e1809, hF⟩ := bindO_some hF
              refine RL_ex rfl rfl (Lx_app H (i := 0) rfl u23 el9 rfl rfl (Sr.of_own (H.item (i := 5) rfl)) e1809) ?_
              rintro v1810 w1811 H
              refine RL_do rfl rfl (Do_assign (v := v1810) rfl) ?_
              refine (RL_nil (thenQ_n (hK1790 _ _ ?_)))
              refine WP_seq_k fun K1833 hK1833 => ?_
              refine WP_seq_k fun K1834 hK1834 => ?_
              refine WP_region ?_
              refine RL_do rfl rfl (Do_move (v := v1810) rfl) ?_
              refine RL_do rfl rfl (Do_move (v := .int .i64 g1660) rfl) ?_
              obtain ⟨x1835, e1836, hF⟩ := bindO_some hF
              obtain ⟨b1837, c1839, cs1840, q1841, h1844, h1845⟩ := own_at (H.item (i := 0) rfl) e1836
              obtain rfl : cs1840 = [.string (bs x1835)] := h1844
              refine RL_do rfl rfl (Do_idx u23 sz9 q1841 rfl (at_some e1836).1 (at_some e1836).2.1 rfl rfl) ?_
              refine RL_do rfl rfl (Do_load one9 rfl (Cells.get h1845 (i := 0) rfl)) ?_
              have H1846 := H
              obtain ⟨x1847, e1848, hF⟩ := bindO_some hF
              refine RL_call rfl rfl (DoC_func en34 rfl) (F_ref6_IsName_w x1835 _ e1848 _ _ _ (H.enter [] [] (by decide) rfl)) ?_
              rintro _ w1849 ⟨rfl, G1850⟩
              have H := H1846.step (G1850.only : Only [] _ _)
              refine ⟨_, rfl, ?_⟩
              obtain ⟨x1851, e1852, hF⟩ := letO_some hF
              refine RL_do rfl rfl (Do_as (Do_not (p := x1847) rfl) (congrArg Value.bool e1852)) ?_
              refine (RL_nil (thenQ_n (hK1834 _ _ ?_)))
              refine WP_ifb (b := x1851) rfl (fun c1853 => ?_) (fun c1853 => ?_)
              · have hF := iteB_t c1853 hF
                refine WP_seq_k fun K1854 hK1854 => ?_
                refine WP_region ?_
                refine RL_do rfl rfl (Do_assign (v := .int .i64 8) rfl) ?_
                refine (RL_nil (thenQ_n (hK1854 _ _ ?_)))
                have hR := Option.some.inj hF
                subst hR
                refine (WP_ret (thenQ_r (blockQ_r (thenQ_r (thenQ_r (blockQ_r (thenQ_r (post1 (v1 := .int .i64 8) rfl rfl ?_))))))))
                exact ⟨rfl, H.pick [] (by decide)⟩
              · have hF := iteB_f c1853 hF
                refine (WP_skip (thenQ_n (hK1833 _ _ ?_)))
                refine WP_seq_k fun K1863 hK1863 => ?_
                refine WP_seq_k fun K1864 hK1864 => ?_
                refine WP_region ?_
                refine RL_do rfl rfl (Do_move (v := v1810) rfl) ?_
                refine RL_do rfl rfl (Do_move (v := .int .i64 g1660) rfl) ?_
                have H1865 := H
                have H := H.freeze (i := 0) rfl
                obtain ⟨x1866, e1867, hF⟩ := bindO_some hF
                refine RL_call rfl rfl (DoC_func en54 rfl) (F_ref9_twice_w x1808 g1660 v1810 _ e1867 _ _ _ (H.enter [] [0] (by decide) rfl)) ?_
                rintro _ w1868 ⟨rfl, G1869⟩
                have H := H1865.step (G1869.only : Only [] _ _)
                refine ⟨_, rfl, ?_⟩
                refine (RL_nil (thenQ_n (hK1864 _ _ ?_)))
                refine WP_ifb (b := x1866) rfl (fun c1870 => ?_) (fun c1870 => ?_)
                · have hF := iteB_t c1870 hF
                  refine WP_seq_k fun K1871 hK1871 => ?_
                  refine WP_region ?_
                  refine RL_do rfl rfl (Do_assign (v := .int .i64 5) rfl) ?_
                  refine (RL_nil (thenQ_n (hK1871 _ _ ?_)))
                  have hR := Option.some.inj hF
                  subst hR
                  refine (WP_ret (thenQ_r (blockQ_r (thenQ_r (thenQ_r (blockQ_r (thenQ_r (post1 (v1 := .int .i64 5) rfl rfl ?_))))))))
                  exact ⟨rfl, H.pick [] (by decide)⟩
                · have hF := iteB_f c1870 hF
                  refine (WP_skip (thenQ_n (hK1863 _ _ ?_)))
                  refine WP_seq_k fun K1872 hK1872 => ?_
                  refine WP_region ?_
                  refine RL_do rfl rfl (fa26_3 rfl) ?_
                  refine RL_do rfl rfl (Do_load one24 rfl (Cells.get (Blk.cells (H.item (i := 1) rfl)) (i := 3) rfl)) ?_
                  refine RL_do rfl rfl (Do_move (v := .int .i64 g1660) rfl) ?_
                  obtain ⟨x1873, e1874, hF⟩ := bindO_some hF
                  obtain ⟨b1875, o1876, c1877, cs1878, q1879, h1882, h1880, h1881, h1883⟩ := rd_at (H.item (i := 3) rfl) e1874
                  obtain rfl := rGrain_open h1882
                  have H := H.fz (.at b1875 (o1876 + g1660.toNat * 2) _) ⟨h1880, h1881, h1883⟩
                  refine RL_do rfl rfl (Do_idx u24 sz91 q1879 rfl (at_some e1874).1 (at_some e1874).2.1 rfl rfl) ?_
                  refine RL_do rfl rfl (fa91_1 rfl) ?_
                  refine RL_do rfl rfl (Do_load one3 rfl (Cells.get (H.item (i := 6) rfl).2.2 (i := 1) rfl)) ?_
                  have H1885 := H
                  obtain ⟨x1886, e1887, hF⟩ := bindO_some hF
                  refine RL_call rfl rfl (DoC_func en14 rfl) (F_ref9_outside_w x1873.N 1 1125899906842624 _ e1887 _ _ _ (H.enter [] [] (by decide) rfl)) ?_
                  rintro _ w1888 ⟨rfl, G1889⟩
                  have H := H1885.step (G1889.only : Only [] _ _)
                  refine ⟨_, rfl, ?_⟩
                  refine (RL_nil (thenQ_n (hK1872 _ _ ?_)))
                  refine WP_ifb (b := x1886) rfl (fun c1890 => ?_) (fun c1890 => ?_)
                  · have hF := iteB_t c1890 hF
                    refine WP_seq_k fun K1891 hK1891 => ?_
                    refine WP_region ?_
                    refine RL_do rfl rfl (Do_assign (v := .int .i64 9) rfl) ?_
                    refine (RL_nil (thenQ_n (hK1891 _ _ ?_)))
                    have hR := Option.some.inj hF
                    subst hR
                    refine (WP_ret (blockQ_r (thenQ_r (thenQ_r (blockQ_r (thenQ_r (post1 (v1 := .int .i64 9) rfl rfl ?_)))))))
                    exact ⟨rfl, H.pick [] (by decide)⟩
                  · have hF := iteB_f c1890 hF
                    refine (WP_skip (blockQ_n (thenQ_n (hK1789 _ _ ?_))))
                    refine WP_region ?_
                    refine RL_do rfl rfl (Do_move (v := .int .i64 g1660) rfl) ?_
                    obtain ⟨x1892, e1893, hF⟩ := letO_some hF
                    refine RL_do rfl rfl (Do_add (a := g1660) (b := 1) rfl rfl e1893) ?_
                    refine RL_do rfl rfl (Do_assign (v := .int .i64 x1892) rfl) ?_
                    refine (RL_nil (thenQ_n (And.intro ?_ ?_)))
                    · repeat' (first | with_reducible exact Fr_refl | refine Fr_upd rfl ?_ | refine Fr_over rfl rfl ?_)
                    · exact ⟨(n1667, x1808, x1892, v1810), (Sl_cons rfl (Sl_cons rfl Sl_nil)), ⟨H.pick [0, 1, 2, 3] (by decide), hF⟩, Nat.lt_succ_self _⟩
            · have hF := iteB_f c1686 hF
              refine (WP_exit (thenQ_x (thenQ_x (blockQ_eq (thenQ_n (And.intro ?_ ?_))))))
              · repeat' (first | with_reducible exact Fr_refl | refine Fr_upd rfl ?_ | refine Fr_over rfl rfl ?_)
              · exact ⟨(), Sl_nil, ⟨H.pick [1, 2, 3] (by decide), hF⟩⟩
          · rintro _ ρ w1195 ⟨H, hF⟩
            have hF := join_body ek1197 hF
            refine WP_seq_k fun K1902 hK1902 => ?_
            refine WP_seq_k fun K1903 hK1903 => ?_
            refine WP_region ?_
            refine RL_do rfl rfl (fa26_4 rfl) ?_
            refine RL_do rfl rfl (Do_load one3 rfl (Cells.get (Blk.cells (H.item (i := 0) rfl)) (i := 4) rfl)) ?_
            have H1904 := H
            obtain ⟨x1905, e1906, hF⟩ := bindO_some hF
            refine RL_call rfl rfl (DoC_func en14 rfl) (F_ref9_outside_w p0.Least 1 1000 _ e1906 _ _ _ (H.enter [] [] (by decide) rfl)) ?_
            rintro _ w1907 ⟨rfl, G1908⟩
            have H := H1904.step (G1908.only : Only [] _ _)
            refine ⟨_, rfl, ?_⟩
            refine (RL_nil (thenQ_n (hK1903 _ _ ?_)))
            refine WP_ifb (b := x1905) rfl (fun c1909 => ?_) (fun c1909 => ?_)
            · have hF := iteB_t c1909 hF
              refine WP_seq_k fun K1910 hK1910 => ?_
              refine WP_region ?_
              refine RL_do rfl rfl (Do_assign (v := .int .i64 9) rfl) ?_
              refine (RL_nil (thenQ_n (hK1910 _ _ ?_)))
              have hR := Option.some.inj hF
              subst hR
              refine (WP_ret (thenQ_r (post1 (v1 := .int .i64 9) rfl rfl ?_)))
              exact ⟨rfl, H.pick [] (by decide)⟩
            · have hF := iteB_f c1909 hF
              refine (WP_skip (thenQ_n (hK1902 _ _ ?_)))
              refine WP_seq_k fun K1911 hK1911 => ?_
              refine WP_region ?_
              refine RL_do rfl rfl (Do_assign (v := .int .i64 0) rfl) ?_
              refine (RL_nil (thenQ_n (hK1911 _ _ ?_)))
              have hR := Option.some.inj hF
              subst hR
              refine (WP_ret (post1 (v1 := .int .i64 0) rfl rfl ?_))
              exact ⟨rfl, H.pick [] (by decide)⟩
end Go.Proofs.YtbjhondbheijiaaGreat.L
namespace Go.Proofs.YtbjhondbheijiaaGreat.L
open Go.RowKit Go.OB Go.Lf
/- orangebox/orangeboxref9.peaksFault -/
set_option maxHeartbeats 4000000 in
theorem F_ref9_peaksFault_w (p0 : List Flight) (p1 : Mask) (p2 : Str) (v1 : Value) (v3 : Value) (v4 : Value) (r : Int) (hF : F_ref9_peaksFault p0 p1 p2 = some r) (O S : List Nat) (w : World) (H : Hd O w w S [.fz (.sl rFlight v1 p0), .fz (.sl Rp.str v3 p1.Hide), .fz (.sl rGrain v4 p1.Grains)]) :
    Calls Tryz.prog 12 ([v1, .agg [.bool p1.Tails, .int .i64 p1.Days, v3, v4, .int .i64 p1.Least].toArray, .string (bs p2)] : List Value).toArray w fun e w' => e = .returned (.int .i64 r) ∧ Hd O w w' S [] := by
  unfold F_ref9_peaksFault at hF
  refine calls_of_WP 22 Tryz.func12 rfl rfl rfl ?_
  refine WP_seq_k fun K7 hK7 => ?_
  refine WP_region ?_
  refine RL_ex rfl rfl (Lx_box (cs := [.bool p1.Tails, .int .i64 p1.Days, v3, v4, .int .i64 p1.Least]) rfl H) ?_
  rintro _ w10 ⟨b8, rfl, H⟩
  refine RL_do rfl rfl (Do_assign (v := .int .i64 0) rfl) ?_
  refine (RL_nil (thenQ_n (hK7 _ _ ?_)))
  refine WP_seq_k fun K22 hK22 => ?_
  refine WP_seq_k fun K23 hK23 => ?_
  refine WP_region ?_
  refine RL_do rfl rfl (Do_move (v := v1) rfl) ?_
  have H24 := H
  obtain ⟨x25, e26, hF⟩ := bindO_some hF
  refine RL_call rfl rfl (DoC_func en32 rfl) (F_ref9_listFault_w p0 v1 _ e26 _ _ _ (H.enter [] [0] (by decide) rfl)) ?_
  rintro _ w27 ⟨rfl, G28⟩
  have H := H24.step (G28.only : Only [] _ _)
  refine ⟨_, rfl, ?_⟩
  refine RL_do rfl rfl (Do_assign (v := .int .i64 x25) rfl) ?_
  refine (RL_nil (thenQ_n (hK23 _ _ ?_)))
  refine WP_seq_k fun K29 hK29 => ?_
  refine WP_region ?_
  refine RL_do rfl rfl (Do_move (v := .int .i64 x25) rfl) ?_
  obtain ⟨x30, e31, hF⟩ := letO_some hF
  refine RL_do rfl rfl (Do_as (Do_neq (a := x25) (b := 0) rfl rfl) (congrArg Value.bool e31)) ?_
  refine (RL_nil (thenQ_n (hK29 _ _ ?_)))
  refine WP_ifb (b := x30) rfl (fun c32 => ?_) (fun c32 => ?_)
  · have hF := iteB_t c32 hF
    refine WP_seq_k fun K33 hK33 => ?_
    refine WP_region ?_
    refine RL_do rfl rfl (Do_move (v := .int .i64 x25) rfl) ?_
    refine RL_do rfl rfl (Do_assign (v := .int .i64 x25) rfl) ?_
    refine (RL_nil (thenQ_n (hK33 _ _ ?_)))
    have hR := Option.some.inj hF
    subst hR
    refine (WP_ret (thenQ_r (post1 (v1 := .int .i64 x25) rfl rfl ?_)))
    exact ⟨rfl, H.pick [] (by decide)⟩
  · have hF := iteB_f c32 hF
    refine (WP_skip (thenQ_n (hK22 _ _ ?_)))
    refine WP_seq_k fun K45 hK45 => ?_
    refine WP_seq_k fun K46 hK46 => ?_
    refine WP_region ?_
    refine RL_do rfl rfl (Do_as (Do_loads (cs := [.bool p1.Tails, .int .i64 p1.Days, v3, v4, .int .i64 p1.Least]) agg26 rfl sz26 rfl (Blk.cells (H.item (i := 3) rfl))) rfl) ?_
    have H47 := H
    obtain ⟨x48, e49, hF⟩ := bindO_some hF
    refine RL_call rfl rfl (DoC_func en33 rfl) (F_ref9_CheckMask_w p1 v3 v4 _ e49 _ _ _ (H.enter [] [1, 2] (by decide) rfl)) ?_
    rintro _ w50 ⟨rfl, G51⟩
    have H := H47.step (G51.only : Only [] _ _)
    refine ⟨_, rfl, ?_⟩
    refine RL_do rfl rfl (Do_assign (v := .int .i64 x48) rfl) ?_
    refine (RL_nil (thenQ_n (hK46 _ _ ?_)))
    refine WP_seq_k fun K52 hK52 => ?_
    refine WP_region ?_
    refine RL_do rfl rfl (Do_move (v := .int .i64 x48) rfl) ?_
    obtain ⟨x53, e54, hF⟩ := letO_some hF
    refine RL_do rfl rfl (Do_as (Do_neq (a := x48) (b := 0) rfl rfl) (congrArg Value.bool e54)) ?_
    refine (RL_nil (thenQ_n (hK52 _ _ ?_)))
    refine WP_ifb (b := x53) rfl (fun c55 => ?_) (fun c55 => ?_)
    · have hF := iteB_t c55 hF
      refine WP_seq_k fun K56 hK56 => ?_
      refine WP_region ?_
      refine RL_do rfl rfl (Do_move (v := .int .i64 x48) rfl) ?_
      refine RL_do rfl rfl (Do_assign (v := .int .i64 x48) rfl) ?_
      refine (RL_nil (thenQ_n (hK56 _ _ ?_)))
      have hR := Option.some.inj hF
      subst hR
      refine (WP_ret (thenQ_r (post1 (v1 := .int .i64 x48) rfl rfl ?_)))
      exact ⟨rfl, H.pick [] (by decide)⟩
    · have hF := iteB_f c55 hF
      refine (WP_skip (thenQ_n (hK45 _ _ ?_)))
      refine WP_seq_k fun K67 hK67 => ?_
      refine WP_seq_k fun K68 hK68 => ?_
      refine WP_region ?_
      refine RL_do rfl rfl (Do_move (v := .string (bs p2)) rfl) ?_
      have H69 := H
      obtain ⟨x70, e71, hF⟩ := bindO_some hF
      refine RL_call rfl rfl (DoC_func en34 rfl) (F_ref6_IsName_w p2 _ e71 _ _ _ (H.enter [] [] (by decide) rfl)) ?_
      rintro _ w72 ⟨rfl, G73⟩
      have H := H69.step (G73.only : Only [] _ _)
      refine ⟨_, rfl, ?_⟩
      obtain ⟨x74, e75, hF⟩ := letO_some hF
      refine RL_do rfl rfl (Do_as (Do_not (p := x70) rfl) (congrArg Value.bool e75)) ?_
      refine (RL_nil (thenQ_n (hK68 _ _ ?_)))
      refine WP_ifb (b := x74) rfl (fun c76 => ?_) (fun c76 => ?_)
      · have hF := iteB_t c76 hF
        refine WP_seq_k fun K77 hK77 => ?_
        refine WP_region ?_
        refine RL_do rfl rfl (Do_assign (v := .int .i64 8) rfl) ?_
        refine (RL_nil (thenQ_n (hK77 _ _ ?_)))
        have hR := Option.some.inj hF
        subst hR
        refine (WP_ret (thenQ_r (post1 (v1 := .int .i64 8) rfl rfl ?_)))
        exact ⟨rfl, H.pick [] (by decide)⟩
      · have hF := iteB_f c76 hF
        refine (WP_skip (thenQ_n (hK67 _ _ ?_)))
        refine WP_seq_k fun K78 hK78 => ?_
        refine WP_region ?_
        refine RL_do rfl rfl (Do_assign (v := .int .i64 0) rfl) ?_
        refine (RL_nil (thenQ_n (hK78 _ _ ?_)))
        have hR := Option.some.inj hF
        subst hR
        refine (WP_ret (post1 (v1 := .int .i64 0) rfl rfl ?_))
        exact ⟨rfl, H.pick [] (by decide)⟩
end Go.Proofs.YtbjhondbheijiaaGreat.L
namespace Go.Proofs.YtbjhondbheijiaaGreat.L
open Go.RowKit Go.OB Go.Lf
/- orangebox/orangeboxref9.floor -/
set_option maxHeartbeats 4000000 in
theorem F_ref9_floor_w (p0 : Int) (p1 : Int) (r : Int) (hF : F_ref9_floor p0 p1 = some r) (O S : List Nat) (w : World) (H : Hd O w w S []) :
    Calls Tryz.prog 56 ([.int .i64 p0, .int .i64 p1] : List Value).toArray w fun e w' => e = .returned (.int .i64 r) ∧ Hd O w w' S [] := by
  unfold F_ref9_floor at hF
  refine calls_of_WP 19 Tryz.func56 rfl rfl rfl ?_
  refine WP_seq_k fun K1 hK1 => ?_
  refine WP_region ?_
  refine RL_do rfl rfl (Do_assign (v := .int .i64 0) rfl) ?_
  refine (RL_nil (thenQ_n (hK1 _ _ ?_)))
  refine WP_seq_k fun K2 hK2 => ?_
  refine WP_region ?_
  refine RL_do rfl rfl (Do_move (v := .int .i64 p0) rfl) ?_
  refine RL_do rfl rfl (Do_move (v := .int .i64 p1) rfl) ?_
  obtain ⟨x3, e4, hF⟩ := bindO_some hF
  refine RL_do rfl rfl (Do_quo' (j := p0) (q := p1) rfl rfl e4) ?_
  refine RL_do rfl rfl (Do_assign (v := .int .i64 x3) rfl) ?_
  refine (RL_nil (thenQ_n (hK2 _ _ ?_)))
  obtain ⟨g13, hF, hK15⟩ := bindO_some hF
  refine WP_seqS [5, 9, 10, 11, 12, 13, 14] (fun (g : Unit) => [(5, .int .i64 g13)]) (fun g wl => Hd O w wl S []) ?_ ?_
  · skip
    refine WP_seq_k fun K16 hK16 => ?_
    refine WP_region ?_
    refine RL_do rfl rfl (Do_move (v := .int .i64 p0) rfl) ?_
    refine RL_do rfl rfl (Do_move (v := .int .i64 p1) rfl) ?_
    obtain ⟨x17, e18, hF⟩ := bindO_some hF
    refine RL_do rfl rfl (Do_rem' (j := p0) (q := p1) rfl rfl e18) ?_
    obtain ⟨x19, e20, hF⟩ := letO_some hF
    refine RL_do rfl rfl (Do_as (Do_lss (a := x17) (b := 0) rfl rfl) (congrArg Value.bool e20)) ?_
    refine (RL_nil (thenQ_n (hK16 _ _ ?_)))
    refine WP_ifb (b := x19) rfl (fun c21 => ?_) (fun c21 => ?_)
    · have hF := iteB_t c21 hF
      refine WP_region ?_
      refine RL_do rfl rfl (Do_move (v := .int .i64 x3) rfl) ?_
      obtain ⟨x22, e23, hF⟩ := letO_some hF
      refine RL_do rfl rfl (Do_sub (a := x3) (b := 1) rfl rfl e23) ?_
      refine RL_do rfl rfl (Do_assign (v := .int .i64 x22) rfl) ?_
      have hR := Option.some.inj hF
      subst hR
      refine (RL_nil (thenQ_n (And.intro ?_ ?_)))
      · repeat' (first | with_reducible exact Fr_refl | refine Fr_upd rfl ?_ | refine Fr_over rfl rfl ?_)
      · exact ⟨(), (Sl_cons rfl Sl_nil), H.pick [] (by decide)⟩
    · have hF := iteB_f c21 hF
      have hR := Option.some.inj hF
      subst hR
      refine (WP_skip (thenQ_n (And.intro ?_ ?_)))
      · repeat' (first | with_reducible exact Fr_refl | refine Fr_upd rfl ?_ | refine Fr_over rfl rfl ?_)
      · exact ⟨(), (Sl_cons rfl Sl_nil), H.pick [] (by decide)⟩
  · rintro _ ρ w14 H
    have hF := hK15
    refine WP_seq_k fun K24 hK24 => ?_
    refine WP_region ?_
    refine RL_do rfl rfl (Do_move (v := .int .i64 g13) rfl) ?_
    refine RL_do rfl rfl (Do_move (v := .int .i64 p1) rfl) ?_
    obtain ⟨x25, e26, hF⟩ := letO_some hF
    refine RL_do rfl rfl (Do_mul (a := g13) (b := p1) rfl rfl e26) ?_
    obtain ⟨x27, e28, hF⟩ := letO_some hF
    refine RL_do rfl rfl (Do_max (j := x25) (q := (-1125899906842624)) rfl rfl e28) ?_
    refine RL_do rfl rfl (Do_assign (v := .int .i64 x27) rfl) ?_
    refine (RL_nil (thenQ_n (hK24 _ _ ?_)))
    have hR := Option.some.inj hF
    subst hR
    refine (WP_ret (post1 (v1 := .int .i64 x27) rfl rfl ?_))
    exact ⟨rfl, H.pick [] (by decide)⟩
end Go.Proofs.YtbjhondbheijiaaGreat.L
