/- Walks: what each function computes, for every argument; no condition but those that stand in the statements. -/
import Derived.Test.YtbjhondbheijiaaQV0
namespace Go.Proofs.Ytbjhondbheijiaa
open Go.RowKit Go.OB Go.Lf
/- orangebox/orangeboxref6.words -/
set_option maxHeartbeats 4000000 in
theorem F_ref6_words_w (r : (List Str)) (hF : F_ref6_words = some r) (O S : List Nat) (w : World) (H : Hd O w w S []) :
    Calls Try.prog 39 ([] : List Value).toArray w fun e w' => ∃ u1, e = .returned (u1) ∧ Hd O w w' S [.own Rp.str u1 9 r] := by
  unfold F_ref6_words at hF
  refine calls_of_WP 2 Try.func39 rfl rfl rfl ?_
  refine WP_seq_k fun K2 hK2 => ?_
  refine WP_region ?_
  refine RL_do rfl rfl (Do_assign (v := .slice none 0 0) rfl) ?_
  refine (RL_nil (thenQ_n (hK2 _ _ ?_)))
  refine WP_seq_k fun K3 hK3 => ?_
  refine WP_region ?_
  obtain ⟨x4, e5, hF⟩ := letO_some hF
  subst e5
  refine RL_ex rfl rfl (Lx_bs (r := Rp.str) (xl := [[112, 104, 97, 115, 101], [109, 111, 118, 101], [114, 117, 108, 101], [105, 102], [111, 114], [97, 110, 100], [116, 114, 117, 101], [102, 97, 108, 115, 101], [115, 116, 101, 97, 100, 121], [110, 111, 116], [102, 111, 114], [119, 105, 116, 104, 105, 110], [99, 111, 117, 110, 116], [111, 102], [114, 105, 115, 101, 115], [115, 105, 110, 99, 101]]) (cs := [.string (bs [112, 104, 97, 115, 101]), .string (bs [109, 111, 118, 101]), .string (bs [114, 117, 108, 101]), .string (bs [105, 102]), .string (bs [111, 114]), .string (bs [97, 110, 100]), .string (bs [116, 114, 117, 101]), .string (bs [102, 97, 108, 115, 101]), .string (bs [115, 116, 101, 97, 100, 121]), .string (bs [110, 111, 116]), .string (bs [102, 111, 114]), .string (bs [119, 105, 116, 104, 105, 110]), .string (bs [99, 111, 117, 110, 116]), .string (bs [111, 102]), .string (bs [114, 105, 115, 101, 115]), .string (bs [115, 105, 110, 99, 101])]) u32 el9 (by decide) (by decide) rfl (fillB_parts (vs := [.string (bs [112, 104, 97, 115, 101]), .string (bs [109, 111, 118, 101]), .string (bs [114, 117, 108, 101]), .string (bs [105, 102]), .string (bs [111, 114]), .string (bs [97, 110, 100]), .string (bs [116, 114, 117, 101]), .string (bs [102, 97, 108, 115, 101]), .string (bs [115, 116, 101, 97, 100, 121]), .string (bs [110, 111, 116]), .string (bs [102, 111, 114]), .string (bs [119, 105, 116, 104, 105, 110]), .string (bs [99, 111, 117, 110, 116]), .string (bs [111, 102]), .string (bs [114, 105, 115, 101, 115]), .string (bs [115, 105, 110, 99, 101])]) (by decide) rfl rfl ⟨rfl, rfl, rfl, rfl, rfl, rfl, rfl, rfl, rfl, rfl, rfl, rfl, rfl, rfl, rfl, rfl, trivial⟩ rfl) H ⟨[.string (bs [112, 104, 97, 115, 101])], [.string (bs [109, 111, 118, 101]), .string (bs [114, 117, 108, 101]), .string (bs [105, 102]), .string (bs [111, 114]), .string (bs [97, 110, 100]), .string (bs [116, 114, 117, 101]), .string (bs [102, 97, 108, 115, 101]), .string (bs [115, 116, 101, 97, 100, 121]), .string (bs [110, 111, 116]), .string (bs [102, 111, 114]), .string (bs [119, 105, 116, 104, 105, 110]), .string (bs [99, 111, 117, 110, 116]), .string (bs [111, 102]), .string (bs [114, 105, 115, 101, 115]), .string (bs [115, 105, 110, 99, 101])], rfl, rfl, ⟨[.string (bs [109, 111, 118, 101])], [.string (bs [114, 117, 108, 101]), .string (bs [105, 102]), .string (bs [111, 114]), .string (bs [97, 110, 100]), .string (bs [116, 114, 117, 101]), .string (bs [102, 97, 108, 115, 101]), .string (bs [115, 116, 101, 97, 100, 121]), .string (bs [110, 111, 116]), .string (bs [102, 111, 114]), .string (bs [119, 105, 116, 104, 105, 110]), .string (bs [99, 111, 117, 110, 116]), .string (bs [111, 102]), .string (bs [114, 105, 115, 101, 115]), .string (bs [115, 105, 110, 99, 101])], rfl, rfl, ⟨[.string (bs [114, 117, 108, 101])], [.string (bs [105, 102]), .string (bs [111, 114]), .string (bs [97, 110, 100]), .string (bs [116, 114, 117, 101]), .string (bs [102, 97, 108, 115, 101]), .string (bs [115, 116, 101, 97, 100, 121]), .string (bs [110, 111, 116]), .string (bs [102, 111, 114]), .string (bs [119, 105, 116, 104, 105, 110]), .string (bs [99, 111, 117, 110, 116]), .string (bs [111, 102]), .string (bs [114, 105, 115, 101, 115]), .string (bs [115, 105, 110, 99, 101])], rfl, rfl, ⟨[.string (bs [105, 102])], [.string (bs [111, 114]), .string (bs [97, 110, 100]), .string (bs [116, 114, 117, 101]), .string (bs [102, 97, 108, 115, 101]), .string (bs [115, 116, 101, 97, 100, 121]), .string (bs [110, 111, 116]), .string (bs [102, 111, 114]), .string (bs [119, 105, 116, 104, 105, 110]), .string (bs [99, 111, 117, 110, 116]), .string (bs [111, 102]), .string (bs [114, 105, 115, 101, 115]), .string (bs [115, 105, 110, 99, 101])], rfl, rfl, ⟨[.string (bs [111, 114])], [.string (bs [97, 110, 100]), .string (bs [116, 114, 117, 101]), .string (bs [102, 97, 108, 115, 101]), .string (bs [115, 116, 101, 97, 100, 121]), .string (bs [110, 111, 116]), .string (bs [102, 111, 114]), .string (bs [119, 105, 116, 104, 105, 110]), .string (bs [99, 111, 117, 110, 116]), .string (bs [111, 102]), .string (bs [114, 105, 115, 101, 115]), .string (bs [115, 105, 110, 99, 101])], rfl, rfl, ⟨[.string (bs [97, 110, 100])], [.string (bs [116, 114, 117, 101]), .string (bs [102, 97, 108, 115, 101]), .string (bs [115, 116, 101, 97, 100, 121]), .string (bs [110, 111, 116]), .string (bs [102, 111, 114]), .string (bs [119, 105, 116, 104, 105, 110]), .string (bs [99, 111, 117, 110, 116]), .string (bs [111, 102]), .string (bs [114, 105, 115, 101, 115]), .string (bs [115, 105, 110, 99, 101])], rfl, rfl, ⟨[.string (bs [116, 114, 117, 101])], [.string (bs [102, 97, 108, 115, 101]), .string (bs [115, 116, 101, 97, 100, 121]), .string (bs [110, 111, 116]), .string (bs [102, 111, 114]), .string (bs [119, 105, 116, 104, 105, 110]), .string (bs [99, 111, 117, 110, 116]), .string (bs [111, 102]), .string (bs [114, 105, 115, 101, 115]), .string (bs [115, 105, 110, 99, 101])], rfl, rfl, ⟨[.string (bs [102, 97, 108, 115, 101])], [.string (bs [115, 116, 101, 97, 100, 121]), .string (bs [110, 111, 116]), .string (bs [102, 111, 114]), .string (bs [119, 105, 116, 104, 105, 110]), .string (bs [99, 111, 117, 110, 116]), .string (bs [111, 102]), .string (bs [114, 105, 115, 101, 115]), .string (bs [115, 105, 110, 99, 101])], rfl, rfl, ⟨[.string (bs [115, 116, 101, 97, 100, 121])], [.string (bs [110, 111, 116]), .string (bs [102, 111, 114]), .string (bs [119, 105, 116, 104, 105, 110]), .string (bs [99, 111, 117, 110, 116]), .string (bs [111, 102]), .string (bs [114, 105, 115, 101, 115]), .string (bs [115, 105, 110, 99, 101])], rfl, rfl, ⟨[.string (bs [110, 111, 116])], [.string (bs [102, 111, 114]), .string (bs [119, 105, 116, 104, 105, 110]), .string (bs [99, 111, 117, 110, 116]), .string (bs [111, 102]), .string (bs [114, 105, 115, 101, 115]), .string (bs [115, 105, 110, 99, 101])], rfl, rfl, ⟨[.string (bs [102, 111, 114])], [.string (bs [119, 105, 116, 104, 105, 110]), .string (bs [99, 111, 117, 110, 116]), .string (bs [111, 102]), .string (bs [114, 105, 115, 101, 115]), .string (bs [115, 105, 110, 99, 101])], rfl, rfl, ⟨[.string (bs [119, 105, 116, 104, 105, 110])], [.string (bs [99, 111, 117, 110, 116]), .string (bs [111, 102]), .string (bs [114, 105, 115, 101, 115]), .string (bs [115, 105, 110, 99, 101])], rfl, rfl, ⟨[.string (bs [99, 111, 117, 110, 116])], [.string (bs [111, 102]), .string (bs [114, 105, 115, 101, 115]), .string (bs [115, 105, 110, 99, 101])], rfl, rfl, ⟨[.string (bs [111, 102])], [.string (bs [114, 105, 115, 101, 115]), .string (bs [115, 105, 110, 99, 101])], rfl, rfl, ⟨[.string (bs [114, 105, 115, 101, 115])], [.string (bs [115, 105, 110, 99, 101])], rfl, rfl, ⟨[.string (bs [115, 105, 110, 99, 101])], [], rfl, rfl, rfl⟩⟩⟩⟩⟩⟩⟩⟩⟩⟩⟩⟩⟩⟩⟩⟩) ?_
  rintro v7 w8 H
  refine RL_do rfl rfl (Do_assign (v := v7) rfl) ?_
  refine (RL_nil (thenQ_n (hK3 _ _ ?_)))
  have hR := Option.some.inj hF
  subst hR
  refine (WP_ret (post1 (v1 := v7) rfl rfl ?_))
  exact ⟨v7, rfl, H.pick [0] (by decide)⟩
end Go.Proofs.Ytbjhondbheijiaa
namespace Go.Proofs.Ytbjhondbheijiaa
open Go.RowKit Go.OB Go.Lf
/- orangebox/orangeboxref6.Reserved -/
set_option maxHeartbeats 4000000 in
theorem F_ref6_Reserved_w (p0 : Str) (r : Bool) (hF : F_ref6_Reserved p0 = some r) (O S : List Nat) (w : World) (H : Hd O w w S []) :
    Calls Try.prog 23 ([.string (bs p0)] : List Value).toArray w fun e w' => e = .returned (.bool r) ∧ Hd O w w' S [] := by
  unfold F_ref6_Reserved at hF
  refine calls_of_WP 18 Try.func23 rfl rfl rfl ?_
  refine WP_seq_k fun K1 hK1 => ?_
  refine WP_region ?_
  refine RL_do rfl rfl (Do_assign (v := .bool false) rfl) ?_
  refine (RL_nil (thenQ_n (hK1 _ _ ?_)))
  refine WP_seq_k fun K2 hK2 => ?_
  refine WP_region ?_
  obtain ⟨x3, e4, hF⟩ := bindO_some hF
  refine RL_call rfl rfl (DoC_func en39 rfl) (F_ref6_words_w _ e4 _ _ _ (H.enter [] [] (by decide) rfl)) ?_
  rintro _ w7 ⟨v5, rfl, G8⟩
  have H := H.back1 [] rfl G8
  refine ⟨_, rfl, ?_⟩
  refine RL_do rfl rfl (Do_assign (v := v5) rfl) ?_
  refine (RL_nil (thenQ_n (hK2 _ _ ?_)))
  obtain ⟨k181, ek182, hF⟩ := joinO_some hF
  refine WP_seqS [2, 4, 6, 7, 8, 9, 10, 11, 12, 13, 14, 15, 16, 17] (fun (g : Unit) => []) (fun g wl => Hd O w wl S [] ∧ k181 () = some r) ?_ ?_
  · skip
    refine WP_seq_k fun K183 hK183 => ?_
    refine WP_region ?_
    refine RL_do rfl rfl (Do_assign (v := .int .i64 0) rfl) ?_
    refine (RL_nil (thenQ_n (hK183 _ _ ?_)))
    refine WP_block ?_
    unfold F_ref6_Reserved_L1 at hF
    obtain ⟨B294, n295, eB296, hF⟩ := loopO_some hF
    refine WP_loopS [2, 4, 6, 7, 8, 9, 10, 11, 12, 13, 14, 15, 16, 17] (fun (g : Nat × Int) => [(4, .int .i64 g.2)]) (fun g wl => Hd O w wl S [.own Rp.str v5 9 x3] ∧ loopN B294 g.1 g.2 = some r) (fun g => g.1) (n295, 0) (Sl_cons rfl Sl_nil) ⟨H.pick [0] (by decide), hF⟩ ?_
    clear H hF
    rintro ⟨n295, g293⟩ ρ w298 ⟨H, hF⟩
    obtain ⟨n299, rfl, hF⟩ := loopN_pos hF
    have hF := loop_body eB296 hF
    refine WP_seq_k fun K309 hK309 => ?_
    refine WP_seq_k fun K310 hK310 => ?_
    refine WP_region ?_
    refine RL_do rfl rfl (Do_move (v := .int .i64 g293) rfl) ?_
    refine RL_do rfl rfl (Do_move (v := v5) rfl) ?_
    obtain ⟨x311, e312, hF⟩ := letO_some hF
    obtain ⟨a313, c314, q315⟩ := Sr.len (Sr.of_own (H.item (i := 0) rfl))
    refine RL_do rfl rfl (Do_as (Do_len u32 q315) (congrArg (Value.int .i64) e312)) ?_
    obtain ⟨x316, e317, hF⟩ := letO_some hF
    refine RL_do rfl rfl (Do_as (Do_lss (a := g293) (b := x311) rfl rfl) (congrArg Value.bool e317)) ?_
    refine (RL_nil (thenQ_n (hK310 _ _ ?_)))
    refine WP_ifb (b := x316) rfl (fun c318 => ?_) (fun c318 => ?_)
    · have hF := iteB_t c318 hF
      refine (WP_skip (thenQ_n (hK309 _ _ ?_)))
      refine WP_seq_k fun K335 hK335 => ?_
      refine WP_block ?_
      refine WP_seq_k fun K336 hK336 => ?_
      refine WP_region ?_
      refine RL_do rfl rfl (Do_move (v := v5) rfl) ?_
      refine RL_do rfl rfl (Do_move (v := .int .i64 g293) rfl) ?_
      obtain ⟨x337, e338, hF⟩ := bindO_some hF
      obtain ⟨b339, c341, cs342, q343, h346, h347⟩ := own_at (H.item (i := 0) rfl) e338
      obtain rfl : cs342 = [.string (bs x337)] := h346
      refine RL_do rfl rfl (Do_idx u32 sz9 q343 rfl (at_some e338).1 (at_some e338).2.1 rfl rfl) ?_
      refine RL_do rfl rfl (Do_load one9 rfl (Cells.get h347 (i := 0) rfl)) ?_
      refine RL_do rfl rfl (Do_move (v := .string (bs p0)) rfl) ?_
      obtain ⟨x348, e349, hF⟩ := letO_some hF
      refine RL_do rfl rfl (Do_as (Do_eqls (s1 := x337) (s2 := p0) rfl rfl) (congrArg Value.bool e349)) ?_
      refine (RL_nil (thenQ_n (hK336 _ _ ?_)))
      refine WP_ifb (b := x348) rfl (fun c350 => ?_) (fun c350 => ?_)
      · have hF := iteB_t c350 hF
        refine WP_seq_k fun K351 hK351 => ?_
        refine WP_region ?_
        refine RL_do rfl rfl (Do_assign (v := .bool true) rfl) ?_
        refine (RL_nil (thenQ_n (hK351 _ _ ?_)))
        have hR := Option.some.inj hF
        subst hR
        refine (WP_ret (blockQ_r (thenQ_r (thenQ_r (blockQ_r (thenQ_r (post1 (v1 := .bool true) rfl rfl ?_)))))))
        exact ⟨rfl, H.pick [] (by decide)⟩
      · have hF := iteB_f c350 hF
        refine (WP_skip (blockQ_n (thenQ_n (hK335 _ _ ?_))))
        refine WP_region ?_
        refine RL_do rfl rfl (Do_move (v := .int .i64 g293) rfl) ?_
        obtain ⟨x352, e353, hF⟩ := letO_some hF
        refine RL_do rfl rfl (Do_add (a := g293) (b := 1) rfl rfl e353) ?_
        refine RL_do rfl rfl (Do_assign (v := .int .i64 x352) rfl) ?_
        refine (RL_nil (thenQ_n (And.intro ?_ ?_)))
        · repeat' (first | with_reducible exact Fr_refl | refine Fr_upd rfl ?_ | refine Fr_over rfl rfl ?_)
        · exact ⟨(n299, x352), (Sl_cons rfl Sl_nil), ⟨H.pick [0] (by decide), hF⟩, Nat.lt_succ_self _⟩
    · have hF := iteB_f c318 hF
      refine (WP_exit (thenQ_x (thenQ_x (blockQ_eq (thenQ_n (And.intro ?_ ?_))))))
      · repeat' (first | with_reducible exact Fr_refl | refine Fr_upd rfl ?_ | refine Fr_over rfl rfl ?_)
      · exact ⟨(), Sl_nil, ⟨H.pick [] (by decide), hF⟩⟩
  · rintro _ ρ w180 ⟨H, hF⟩
    have hF := join_body ek182 hF
    refine WP_seq_k fun K354 hK354 => ?_
    refine WP_region ?_
    refine RL_do rfl rfl (Do_assign (v := .bool false) rfl) ?_
    refine (RL_nil (thenQ_n (hK354 _ _ ?_)))
    have hR := Option.some.inj hF
    subst hR
    refine (WP_ret (post1 (v1 := .bool false) rfl rfl ?_))
    exact ⟨rfl, H.pick [] (by decide)⟩
end Go.Proofs.Ytbjhondbheijiaa
namespace Go.Proofs.Ytbjhondbheijiaa
open Go.RowKit Go.OB Go.Lf
/- orangebox/orangeboxref6.IsName -/
set_option maxHeartbeats 4000000 in
theorem F_ref6_IsName_w (p0 : Str) (r : Bool) (hF : F_ref6_IsName p0 = some r) (O S : List Nat) (w : World) (H : Hd O w w S []) :
    Calls Try.prog 12 ([.string (bs p0)] : List Value).toArray w fun e w' => e = .returned (.bool r) ∧ Hd O w w' S [] := by
  unfold F_ref6_IsName at hF
  refine calls_of_WP 49 Try.func12 rfl rfl rfl ?_
  refine WP_seq_k fun K1 hK1 => ?_
  refine WP_region ?_
  refine RL_do rfl rfl (Do_assign (v := .bool false) rfl) ?_
  refine (RL_nil (thenQ_n (hK1 _ _ ?_)))
  obtain ⟨k588, ek589, hF⟩ := joinO_some hF
  refine WP_seqS [2, 3, 4, 5, 6, 7, 8, 9, 10, 11, 12, 13, 14, 15, 16, 17, 18, 19, 20, 21, 22, 23, 24, 25, 26, 27, 28, 29, 30, 31, 32, 33, 34, 35, 36] (fun (g : Unit) => []) (fun g wl => Hd O w wl S [] ∧ k588 () = some r) ?_ ?_
  · skip
    refine WP_seq_k fun K590 hK590 => ?_
    refine WP_region ?_
    refine RL_do rfl rfl (Do_assign (v := .int .i64 0) rfl) ?_
    refine (RL_nil (thenQ_n (hK590 _ _ ?_)))
    refine WP_block ?_
    unfold F_ref6_IsName_L1 at hF
    obtain ⟨B977, n978, eB979, hF⟩ := loopO_some hF
    refine WP_loopS [2, 3, 4, 5, 6, 7, 8, 9, 10, 11, 12, 13, 14, 15, 16, 17, 18, 19, 20, 21, 22, 23, 24, 25, 26, 27, 28, 29, 30, 31, 32, 33, 34, 35, 36] (fun (g : Nat × Int) => [(3, .int .i64 g.2)]) (fun g wl => Hd O w wl S [] ∧ loopN B977 g.1 g.2 = some r) (fun g => g.1) (n978, 0) (Sl_cons rfl Sl_nil) ⟨H.pick [] (by decide), hF⟩ ?_
    clear H hF
    rintro ⟨n978, g976⟩ ρ w981 ⟨H, hF⟩
    obtain ⟨n982, rfl, hF⟩ := loopN_pos hF
    have hF := loop_body eB979 hF
    refine WP_seq_k fun K989 hK989 => ?_
    refine WP_seq_k fun K990 hK990 => ?_
    refine WP_region ?_
    refine RL_do rfl rfl (Do_move (v := .int .i64 g976) rfl) ?_
    refine RL_do rfl rfl (Do_move (v := .string (bs p0)) rfl) ?_
    obtain ⟨x991, e992, hF⟩ := letO_some hF
    refine RL_do rfl rfl (Do_as (Do_slen (s1 := p0) u9 rfl) (congrArg (Value.int .i64) e992)) ?_
    obtain ⟨x993, e994, hF⟩ := letO_some hF
    refine RL_do rfl rfl (Do_as (Do_lss (a := g976) (b := x991) rfl rfl) (congrArg Value.bool e994)) ?_
    refine (RL_nil (thenQ_n (hK990 _ _ ?_)))
    refine WP_ifb (b := x993) rfl (fun c995 => ?_) (fun c995 => ?_)
    · have hF := iteB_t c995 hF
      refine (WP_skip (thenQ_n (hK989 _ _ ?_)))
      refine WP_seq_k fun K1084 hK1084 => ?_
      refine WP_block ?_
      refine WP_seq_k fun K1085 hK1085 => ?_
      refine WP_region ?_
      refine RL_do rfl rfl (Do_move (v := .string (bs p0)) rfl) ?_
      refine RL_do rfl rfl (Do_move (v := .int .i64 g976) rfl) ?_
      obtain ⟨x1086, e1087, hF⟩ := bindO_some hF
      refine RL_do rfl rfl (Do_sidx (s1 := p0) (q := g976) u9 rfl rfl e1087) ?_
      refine RL_do rfl rfl (Do_assign (v := .int .u8 x1086) rfl) ?_
      refine (RL_nil (thenQ_n (hK1085 _ _ ?_)))
      obtain ⟨g1128, hF, hK1130⟩ := bindO_some hF
      refine WP_seqS [14, 15, 16, 17, 18, 19, 20, 21, 22, 23, 24, 25, 26, 27, 28, 29, 30, 31, 32, 33, 34, 35, 36] (fun (g : Unit) => [(36, .bool g1128)]) (fun g wl => Hd O w wl S []) ?_ ?_
      · skip
        refine WP_region ?_
        refine RL_do rfl rfl (Do_move (v := .int .u8 x1086) rfl) ?_
        obtain ⟨x1131, e1132, hF⟩ := letO_some hF
        refine RL_do rfl rfl (Do_as (Do_geq (a := x1086) (b := 97) rfl rfl) (congrArg Value.bool e1132)) ?_
        refine RL_splitb (b := x1131) rfl rfl rfl (fun c1133 => ?_) (fun c1133 => ?_)
        · have hF := iteB_t c1133 hF
          refine RL_do rfl rfl (Do_move (v := .int .u8 x1086) rfl) ?_
          obtain ⟨x1134, e1135, hF⟩ := letO_some hF
          refine RL_do rfl rfl (Do_as (Do_leq (a := x1086) (b := 122) rfl rfl) (congrArg Value.bool e1135)) ?_
          refine RL_do rfl rfl (Do_pick_t (v := .bool x1134) rfl rfl) ?_
          refine RL_splitb (b := x1134) rfl rfl rfl (fun c1136 => ?_) (fun c1136 => ?_)
          · have hF := iteB_t c1136 hF
            refine RL_off rfl rfl ?_
            refine RL_off rfl rfl ?_
            refine RL_off rfl rfl ?_
            refine RL_off rfl rfl ?_
            refine RL_off rfl rfl ?_
            refine RL_off rfl rfl ?_
            refine RL_off rfl rfl ?_
            refine RL_off rfl rfl ?_
            refine RL_off rfl rfl ?_
            refine RL_off rfl rfl ?_
            refine RL_off rfl rfl ?_
            refine RL_off rfl rfl ?_
            refine RL_off rfl rfl ?_
            refine RL_off rfl rfl ?_
            refine RL_do rfl rfl (Do_pick_t (v := .bool true) rfl rfl) ?_
            refine RL_do rfl rfl (Do_not (p := true) rfl) ?_
            have hR := Option.some.inj hF
            subst hR
            refine (RL_nil (thenQ_n (And.intro ?_ ?_)))
            · repeat' (first | with_reducible exact Fr_refl | refine Fr_upd rfl ?_ | refine Fr_over rfl rfl ?_)
            · exact ⟨(), (Sl_cons rfl Sl_nil), H.pick [] (by decide)⟩
          · have hF := iteB_f c1136 hF
            refine RL_do rfl rfl (Do_move (v := .int .i64 g976) rfl) ?_
            obtain ⟨x1137, e1138, hF⟩ := letO_some hF
            refine RL_do rfl rfl (Do_as (Do_gtr (a := g976) (b := 0) rfl rfl) (congrArg Value.bool e1138)) ?_
            refine RL_splitb (b := x1137) rfl rfl rfl (fun c1139 => ?_) (fun c1139 => ?_)
            · have hF := iteB_t c1139 hF
              refine RL_do rfl rfl (Do_move (v := .int .u8 x1086) rfl) ?_
              obtain ⟨x1140, e1141, hF⟩ := letO_some hF
              refine RL_do rfl rfl (Do_as (Do_geq (a := x1086) (b := 48) rfl rfl) (congrArg Value.bool e1141)) ?_
              refine RL_splitb (b := x1140) rfl rfl rfl (fun c1142 => ?_) (fun c1142 => ?_)
              · have hF := iteB_t c1142 hF
                refine RL_do rfl rfl (Do_move (v := .int .u8 x1086) rfl) ?_
                obtain ⟨x1143, e1144, hF⟩ := letO_some hF
                refine RL_do rfl rfl (Do_as (Do_leq (a := x1086) (b := 57) rfl rfl) (congrArg Value.bool e1144)) ?_
                refine RL_do rfl rfl (Do_pick_t (v := .bool x1143) rfl rfl) ?_
                refine RL_splitb (b := x1143) rfl rfl rfl (fun c1145 => ?_) (fun c1145 => ?_)
                · have hF := iteB_t c1145 hF
                  refine RL_off rfl rfl ?_
                  refine RL_off rfl rfl ?_
                  refine RL_do rfl rfl (Do_pick_t (v := .bool true) rfl rfl) ?_
                  refine RL_do rfl rfl (Do_pick_t (v := .bool true) rfl rfl) ?_
                  refine RL_do rfl rfl (Do_pick_f (v := .bool true) rfl rfl) ?_
                  refine RL_do rfl rfl (Do_not (p := true) rfl) ?_
                  have hR := Option.some.inj hF
                  subst hR
                  refine (RL_nil (thenQ_n (And.intro ?_ ?_)))
                  · repeat' (first | with_reducible exact Fr_refl | refine Fr_upd rfl ?_ | refine Fr_over rfl rfl ?_)
                  · exact ⟨(), (Sl_cons rfl Sl_nil), H.pick [] (by decide)⟩
                · have hF := iteB_f c1145 hF
                  refine RL_do rfl rfl (Do_move (v := .int .u8 x1086) rfl) ?_
                  obtain ⟨x1146, e1147, hF⟩ := letO_some hF
                  refine RL_do rfl rfl (Do_as (Do_eql (a := x1086) (b := 45) rfl rfl) (congrArg Value.bool e1147)) ?_
                  refine RL_do rfl rfl (Do_pick_f (v := .bool x1146) rfl rfl) ?_
                  refine RL_do rfl rfl (Do_pick_t (v := .bool x1146) rfl rfl) ?_
                  refine RL_do rfl rfl (Do_pick_f (v := .bool x1146) rfl rfl) ?_
                  obtain ⟨x1148, e1149, hF⟩ := letO_some hF
                  refine RL_do rfl rfl (Do_as (Do_not (p := x1146) rfl) (congrArg Value.bool e1149)) ?_
                  have hR := Option.some.inj hF
                  subst hR
                  refine (RL_nil (thenQ_n (And.intro ?_ ?_)))
                  · repeat' (first | with_reducible exact Fr_refl | refine Fr_upd rfl ?_ | refine Fr_over rfl rfl ?_)
                  · exact ⟨(), (Sl_cons rfl Sl_nil), H.pick [] (by decide)⟩
              · have hF := iteB_f c1142 hF
                refine RL_off rfl rfl ?_
                refine RL_off rfl rfl ?_
                refine RL_do rfl rfl (Do_pick_f (v := .bool false) rfl rfl) ?_
                refine RL_do rfl rfl (Do_move (v := .bool false) rfl) ?_
                refine RL_do rfl rfl (Do_move (v := .int .u8 x1086) rfl) ?_
                obtain ⟨x1150, e1151, hF⟩ := letO_some hF
                refine RL_do rfl rfl (Do_as (Do_eql (a := x1086) (b := 45) rfl rfl) (congrArg Value.bool e1151)) ?_
                refine RL_do rfl rfl (Do_pick_f (v := .bool x1150) rfl rfl) ?_
                refine RL_do rfl rfl (Do_pick_t (v := .bool x1150) rfl rfl) ?_
                refine RL_do rfl rfl (Do_pick_f (v := .bool x1150) rfl rfl) ?_
                obtain ⟨x1152, e1153, hF⟩ := letO_some hF
                refine RL_do rfl rfl (Do_as (Do_not (p := x1150) rfl) (congrArg Value.bool e1153)) ?_
                have hR := Option.some.inj hF
                subst hR
                refine (RL_nil (thenQ_n (And.intro ?_ ?_)))
                · repeat' (first | with_reducible exact Fr_refl | refine Fr_upd rfl ?_ | refine Fr_over rfl rfl ?_)
                · exact ⟨(), (Sl_cons rfl Sl_nil), H.pick [] (by decide)⟩
            · have hF := iteB_f c1139 hF
              refine RL_off rfl rfl ?_
              refine RL_off rfl rfl ?_
              refine RL_off rfl rfl ?_
              refine RL_off rfl rfl ?_
              refine RL_off rfl rfl ?_
              refine RL_off rfl rfl ?_
              refine RL_off rfl rfl ?_
              refine RL_off rfl rfl ?_
              refine RL_off rfl rfl ?_
              refine RL_off rfl rfl ?_
              refine RL_do rfl rfl (Do_pick_f (v := .bool false) rfl rfl) ?_
              refine RL_do rfl rfl (Do_pick_f (v := .bool false) rfl rfl) ?_
              refine RL_do rfl rfl (Do_not (p := false) rfl) ?_
              have hR := Option.some.inj hF
              subst hR
              refine (RL_nil (thenQ_n (And.intro ?_ ?_)))
              · repeat' (first | with_reducible exact Fr_refl | refine Fr_upd rfl ?_ | refine Fr_over rfl rfl ?_)
              · exact ⟨(), (Sl_cons rfl Sl_nil), H.pick [] (by decide)⟩
        · have hF := iteB_f c1133 hF
          refine RL_off rfl rfl ?_
          refine RL_off rfl rfl ?_
          refine RL_do rfl rfl (Do_pick_f (v := .bool false) rfl rfl) ?_
          refine RL_do rfl rfl (Do_move (v := .bool false) rfl) ?_
          refine RL_do rfl rfl (Do_move (v := .int .i64 g976) rfl) ?_
          obtain ⟨x1154, e1155, hF⟩ := letO_some hF
          refine RL_do rfl rfl (Do_as (Do_gtr (a := g976) (b := 0) rfl rfl) (congrArg Value.bool e1155)) ?_
          refine RL_splitb (b := x1154) rfl rfl rfl (fun c1156 => ?_) (fun c1156 => ?_)
          · have hF := iteB_t c1156 hF
            refine RL_do rfl rfl (Do_move (v := .int .u8 x1086) rfl) ?_
            obtain ⟨x1157, e1158, hF⟩ := letO_some hF
            refine RL_do rfl rfl (Do_as (Do_geq (a := x1086) (b := 48) rfl rfl) (congrArg Value.bool e1158)) ?_
            refine RL_splitb (b := x1157) rfl rfl rfl (fun c1159 => ?_) (fun c1159 => ?_)
            · have hF := iteB_t c1159 hF
              refine RL_do rfl rfl (Do_move (v := .int .u8 x1086) rfl) ?_
              obtain ⟨x1160, e1161, hF⟩ := letO_some hF
              refine RL_do rfl rfl (Do_as (Do_leq (a := x1086) (b := 57) rfl rfl) (congrArg Value.bool e1161)) ?_
              refine RL_do rfl rfl (Do_pick_t (v := .bool x1160) rfl rfl) ?_
              refine RL_splitb (b := x1160) rfl rfl rfl (fun c1162 => ?_) (fun c1162 => ?_)
              · have hF := iteB_t c1162 hF
                refine RL_off rfl rfl ?_
                refine RL_off rfl rfl ?_
                refine RL_do rfl rfl (Do_pick_t (v := .bool true) rfl rfl) ?_
                refine RL_do rfl rfl (Do_pick_t (v := .bool true) rfl rfl) ?_
                refine RL_do rfl rfl (Do_pick_f (v := .bool true) rfl rfl) ?_
                refine RL_do rfl rfl (Do_not (p := true) rfl) ?_
                have hR := Option.some.inj hF
                subst hR
                refine (RL_nil (thenQ_n (And.intro ?_ ?_)))
                · repeat' (first | with_reducible exact Fr_refl | refine Fr_upd rfl ?_ | refine Fr_over rfl rfl ?_)
                · exact ⟨(), (Sl_cons rfl Sl_nil), H.pick [] (by decide)⟩
              · have hF := iteB_f c1162 hF
                refine RL_do rfl rfl (Do_move (v := .int .u8 x1086) rfl) ?_
                obtain ⟨x1163, e1164, hF⟩ := letO_some hF
                refine RL_do rfl rfl (Do_as (Do_eql (a := x1086) (b := 45) rfl rfl) (congrArg Value.bool e1164)) ?_
                refine RL_do rfl rfl (Do_pick_f (v := .bool x1163) rfl rfl) ?_
                refine RL_do rfl rfl (Do_pick_t (v := .bool x1163) rfl rfl) ?_
                refine RL_do rfl rfl (Do_pick_f (v := .bool x1163) rfl rfl) ?_
                obtain ⟨x1165, e1166, hF⟩ := letO_some hF
                refine RL_do rfl rfl (Do_as (Do_not (p := x1163) rfl) (congrArg Value.bool e1166)) ?_
                have hR := Option.some.inj hF
                subst hR
                refine (RL_nil (thenQ_n (And.intro ?_ ?_)))
                · repeat' (first | with_reducible exact Fr_refl | refine Fr_upd rfl ?_ | refine Fr_over rfl rfl ?_)
                · exact ⟨(), (Sl_cons rfl Sl_nil), H.pick [] (by decide)⟩
            · have hF := iteB_f c1159 hF
              refine RL_off rfl rfl ?_
              refine RL_off rfl rfl ?_
              refine RL_do rfl rfl (Do_pick_f (v := .bool false) rfl rfl) ?_
              refine RL_do rfl rfl (Do_move (v := .bool false) rfl) ?_
              refine RL_do rfl rfl (Do_move (v := .int .u8 x1086) rfl) ?_
              obtain ⟨x1167, e1168, hF⟩ := letO_some hF
              refine RL_do rfl rfl (Do_as (Do_eql (a := x1086) (b := 45) rfl rfl) (congrArg Value.bool e1168)) ?_
              refine RL_do rfl rfl (Do_pick_f (v := .bool x1167) rfl rfl) ?_
              refine RL_do rfl rfl (Do_pick_t (v := .bool x1167) rfl rfl) ?_
              refine RL_do rfl rfl (Do_pick_f (v := .bool x1167) rfl rfl) ?_
              obtain ⟨x1169, e1170, hF⟩ := letO_some hF
              refine RL_do rfl rfl (Do_as (Do_not (p := x1167) rfl) (congrArg Value.bool e1170)) ?_
              have hR := Option.some.inj hF
              subst hR
              refine (RL_nil (thenQ_n (And.intro ?_ ?_)))
              · repeat' (first | with_reducible exact Fr_refl | refine Fr_upd rfl ?_ | refine Fr_over rfl rfl ?_)
              · exact ⟨(), (Sl_cons rfl Sl_nil), H.pick [] (by decide)⟩
          · have hF := iteB_f c1156 hF
            refine RL_off rfl rfl ?_
            refine RL_off rfl rfl ?_
            refine RL_off rfl rfl ?_
            refine RL_off rfl rfl ?_
            refine RL_off rfl rfl ?_
            refine RL_off rfl rfl ?_
            refine RL_off rfl rfl ?_
            refine RL_off rfl rfl ?_
            refine RL_off rfl rfl ?_
            refine RL_off rfl rfl ?_
            refine RL_do rfl rfl (Do_pick_f (v := .bool false) rfl rfl) ?_
            refine RL_do rfl rfl (Do_pick_f (v := .bool false) rfl rfl) ?_
            refine RL_do rfl rfl (Do_not (p := false) rfl) ?_
            have hR := Option.some.inj hF
            subst hR
            refine (RL_nil (thenQ_n (And.intro ?_ ?_)))
            · repeat' (first | with_reducible exact Fr_refl | refine Fr_upd rfl ?_ | refine Fr_over rfl rfl ?_)
            · exact ⟨(), (Sl_cons rfl Sl_nil), H.pick [] (by decide)⟩
      · rintro _ ρ w1129 H
        have hF := hK1130
        refine WP_ifb (b := g1128) rfl (fun c1171 => ?_) (fun c1171 => ?_)
        · have hF := iteB_t c1171 hF
          refine WP_seq_k fun K1172 hK1172 => ?_
          refine WP_region ?_
          refine RL_do rfl rfl (Do_assign (v := .bool false) rfl) ?_
          refine (RL_nil (thenQ_n (hK1172 _ _ ?_)))
          have hR := Option.some.inj hF
          subst hR
          refine (WP_ret (blockQ_r (thenQ_r (thenQ_r (blockQ_r (thenQ_r (post1 (v1 := .bool false) rfl rfl ?_)))))))
          exact ⟨rfl, H.pick [] (by decide)⟩
        · have hF := iteB_f c1171 hF
          refine (WP_skip (blockQ_n (thenQ_n (hK1084 _ _ ?_))))
          refine WP_region ?_
          refine RL_do rfl rfl (Do_move (v := .int .i64 g976) rfl) ?_
          obtain ⟨x1173, e1174, hF⟩ := letO_some hF
          refine RL_do rfl rfl (Do_add (a := g976) (b := 1) rfl rfl e1174) ?_
          refine RL_do rfl rfl (Do_assign (v := .int .i64 x1173) rfl) ?_
          refine (RL_nil (thenQ_n (And.intro ?_ ?_)))
          · repeat' (first | with_reducible exact Fr_refl | refine Fr_upd rfl ?_ | refine Fr_over rfl rfl ?_)
          · exact ⟨(n982, x1173), (Sl_cons rfl Sl_nil), ⟨H.pick [] (by decide), hF⟩, Nat.lt_succ_self _⟩
    · have hF := iteB_f c995 hF
      refine (WP_exit (thenQ_x (thenQ_x (blockQ_eq (thenQ_n (And.intro ?_ ?_))))))
      · repeat' (first | with_reducible exact Fr_refl | refine Fr_upd rfl ?_ | refine Fr_over rfl rfl ?_)
      · exact ⟨(), Sl_nil, ⟨H.pick [] (by decide), hF⟩⟩
  · rintro _ ρ w587 ⟨H, hF⟩
    have hF := join_body ek589 hF
    obtain ⟨g1189, hF, hK1191⟩ := bindO_some hF
    refine WP_seqS [2, 37, 38, 39, 40, 41, 42, 43, 44, 45, 46, 47, 48] (fun (g : Unit) => [(2, .bool g1189)]) (fun g wl => Hd O w wl S []) ?_ ?_
    · skip
      refine WP_region ?_
      refine RL_do rfl rfl (Do_move (v := .string (bs p0)) rfl) ?_
      obtain ⟨x1192, e1193, hF⟩ := letO_some hF
      refine RL_do rfl rfl (Do_as (Do_neqs (s1 := p0) (s2 := []) rfl rfl) (congrArg Value.bool e1193)) ?_
      refine RL_splitb (b := x1192) rfl rfl rfl (fun c1194 => ?_) (fun c1194 => ?_)
      · have hF := iteB_t c1194 hF
        refine RL_do rfl rfl (Do_move (v := .string (bs p0)) rfl) ?_
        obtain ⟨x1195, e1196, hF⟩ := letO_some hF
        refine RL_do rfl rfl (Do_as (Do_slen (s1 := p0) u9 rfl) (congrArg (Value.int .i64) e1196)) ?_
        obtain ⟨x1197, e1198, hF⟩ := letO_some hF
        refine RL_do rfl rfl (Do_as (Do_leq (a := x1195) (b := 30) rfl rfl) (congrArg Value.bool e1198)) ?_
        refine RL_do rfl rfl (Do_pick_t (v := .bool x1197) rfl rfl) ?_
        refine RL_splitb (b := x1197) rfl rfl rfl (fun c1199 => ?_) (fun c1199 => ?_)
        · have hF := iteB_t c1199 hF
          refine RL_do rfl rfl (Do_move (v := .string (bs p0)) rfl) ?_
          obtain ⟨x1200, e1201, hF⟩ := bindO_some hF
          refine RL_call rfl rfl (DoC_func en23 rfl) (F_ref6_Reserved_w p0 _ e1201 _ _ _ (H.enter [] [] (by decide) rfl)) ?_
          rintro _ w1202 ⟨rfl, G1203⟩
          have H := H.back0 [] rfl G1203
          refine ⟨_, rfl, ?_⟩
          obtain ⟨x1204, e1205, hF⟩ := letO_some hF
          refine RL_do rfl rfl (Do_as (Do_not (p := x1200) rfl) (congrArg Value.bool e1205)) ?_
          refine RL_do rfl rfl (Do_pick_t (v := .bool x1204) rfl rfl) ?_
          refine RL_do rfl rfl (Do_assign (v := .bool x1204) rfl) ?_
          have hR := Option.some.inj hF
          subst hR
          refine (RL_nil (thenQ_n (And.intro ?_ ?_)))
          · repeat' (first | with_reducible exact Fr_refl | refine Fr_upd rfl ?_ | refine Fr_over rfl rfl ?_)
          · exact ⟨(), (Sl_cons rfl Sl_nil), H.pick [] (by decide)⟩
        · have hF := iteB_f c1199 hF
          refine RL_off rfl rfl ?_
          refine RL_off rfl rfl ?_
          refine RL_off rfl rfl ?_
          refine RL_do rfl rfl (Do_pick_f (v := .bool false) rfl rfl) ?_
          refine RL_do rfl rfl (Do_assign (v := .bool false) rfl) ?_
          have hR := Option.some.inj hF
          subst hR
          refine (RL_nil (thenQ_n (And.intro ?_ ?_)))
          · repeat' (first | with_reducible exact Fr_refl | refine Fr_upd rfl ?_ | refine Fr_over rfl rfl ?_)
          · exact ⟨(), (Sl_cons rfl Sl_nil), H.pick [] (by decide)⟩
      · have hF := iteB_f c1194 hF
        refine RL_off rfl rfl ?_
        refine RL_off rfl rfl ?_
        refine RL_off rfl rfl ?_
        refine RL_do rfl rfl (Do_pick_f (v := .bool false) rfl rfl) ?_
        refine RL_do rfl rfl (Do_move (v := .bool false) rfl) ?_
        refine RL_off rfl rfl ?_
        refine RL_off rfl rfl ?_
        refine RL_off rfl rfl ?_
        refine RL_do rfl rfl (Do_pick_f (v := .bool false) rfl rfl) ?_
        refine RL_do rfl rfl (Do_assign (v := .bool false) rfl) ?_
        have hR := Option.some.inj hF
        subst hR
        refine (RL_nil (thenQ_n (And.intro ?_ ?_)))
        · repeat' (first | with_reducible exact Fr_refl | refine Fr_upd rfl ?_ | refine Fr_over rfl rfl ?_)
        · exact ⟨(), (Sl_cons rfl Sl_nil), H.pick [] (by decide)⟩
    · rintro _ ρ w1190 H
      have hF := hK1191
      have hR := Option.some.inj hF
      subst hR
      refine (WP_ret (post1 (v1 := .bool g1189) rfl rfl ?_))
      exact ⟨rfl, H.pick [] (by decide)⟩
end Go.Proofs.Ytbjhondbheijiaa
namespace Go.Proofs.Ytbjhondbheijiaa
open Go.RowKit Go.OB Go.Lf
/- orangebox/orangeboxref9.outside -/
set_option maxHeartbeats 4000000 in
theorem F_ref9_outside_w (p0 : Int) (p1 : Int) (p2 : Int) (r : Bool) (hF : F_ref9_outside p0 p1 p2 = some r) (O S : List Nat) (w : World) (H : Hd O w w S []) :
    Calls Try.prog 21 ([.int .i64 p0, .int .i64 p1, .int .i64 p2] : List Value).toArray w fun e w' => e = .returned (.bool r) ∧ Hd O w w' S [] := by
  unfold F_ref9_outside at hF
  refine calls_of_WP 15 Try.func21 rfl rfl rfl ?_
  refine WP_seq_k fun K1 hK1 => ?_
  refine WP_region ?_
  refine RL_do rfl rfl (Do_assign (v := .bool false) rfl) ?_
  refine (RL_nil (thenQ_n (hK1 _ _ ?_)))
  obtain ⟨g7, hF, hK9⟩ := bindO_some hF
  refine WP_seqS [6, 7, 8, 9, 10, 11, 12, 13, 14] (fun (g : Unit) => [(6, .bool g7)]) (fun g wl => Hd O w wl S []) ?_ ?_
  · skip
    refine WP_region ?_
    refine RL_do rfl rfl (Do_move (v := .int .i64 p0) rfl) ?_
    refine RL_do rfl rfl (Do_move (v := .int .i64 p1) rfl) ?_
    obtain ⟨x10, e11, hF⟩ := letO_some hF
    refine RL_do rfl rfl (Do_as (Do_lss (a := p0) (b := p1) rfl rfl) (congrArg Value.bool e11)) ?_
    refine RL_splitb (b := x10) rfl rfl rfl (fun c12 => ?_) (fun c12 => ?_)
    · have hF := iteB_t c12 hF
      refine RL_off rfl rfl ?_
      refine RL_off rfl rfl ?_
      refine RL_off rfl rfl ?_
      refine RL_do rfl rfl (Do_pick_t (v := .bool true) rfl rfl) ?_
      refine RL_do rfl rfl (Do_assign (v := .bool true) rfl) ?_
      have hR := Option.some.inj hF
      subst hR
      refine (RL_nil (thenQ_n (And.intro ?_ ?_)))
      · repeat' (first | with_reducible exact Fr_refl | refine Fr_upd rfl ?_ | refine Fr_over rfl rfl ?_)
      · exact ⟨(), (Sl_cons rfl Sl_nil), H.pick [] (by decide)⟩
    · have hF := iteB_f c12 hF
      refine RL_do rfl rfl (Do_move (v := .int .i64 p0) rfl) ?_
      refine RL_do rfl rfl (Do_move (v := .int .i64 p2) rfl) ?_
      obtain ⟨x13, e14, hF⟩ := letO_some hF
      refine RL_do rfl rfl (Do_as (Do_gtr (a := p0) (b := p2) rfl rfl) (congrArg Value.bool e14)) ?_
      refine RL_do rfl rfl (Do_pick_f (v := .bool x13) rfl rfl) ?_
      refine RL_do rfl rfl (Do_assign (v := .bool x13) rfl) ?_
      have hR := Option.some.inj hF
      subst hR
      refine (RL_nil (thenQ_n (And.intro ?_ ?_)))
      · repeat' (first | with_reducible exact Fr_refl | refine Fr_upd rfl ?_ | refine Fr_over rfl rfl ?_)
      · exact ⟨(), (Sl_cons rfl Sl_nil), H.pick [] (by decide)⟩
  · rintro _ ρ w8 H
    have hF := hK9
    have hR := Option.some.inj hF
    subst hR
    refine (WP_ret (post1 (v1 := .bool g7) rfl rfl ?_))
    exact ⟨rfl, H.pick [] (by decide)⟩
end Go.Proofs.Ytbjhondbheijiaa
namespace Go.Proofs.Ytbjhondbheijiaa
open Go.RowKit Go.OB Go.Lf
/- orangebox/orangeboxref5.outside -/
set_option maxHeartbeats 4000000 in
theorem F_ref5_outside_w (p0 : Int) (p1 : Int) (p2 : Int) (r : Bool) (hF : F_ref5_outside p0 p1 p2 = some r) (O S : List Nat) (w : World) (H : Hd O w w S []) :
    Calls Try.prog 53 ([.int .i64 p0, .int .i64 p1, .int .i64 p2] : List Value).toArray w fun e w' => e = .returned (.bool r) ∧ Hd O w w' S [] := by
  unfold F_ref5_outside at hF
  refine calls_of_WP 15 Try.func53 rfl rfl rfl ?_
  refine WP_seq_k fun K1 hK1 => ?_
  refine WP_region ?_
  refine RL_do rfl rfl (Do_assign (v := .bool false) rfl) ?_
  refine (RL_nil (thenQ_n (hK1 _ _ ?_)))
  obtain ⟨g7, hF, hK9⟩ := bindO_some hF
  refine WP_seqS [6, 7, 8, 9, 10, 11, 12, 13, 14] (fun (g : Unit) => [(6, .bool g7)]) (fun g wl => Hd O w wl S []) ?_ ?_
  · skip
    refine WP_region ?_
    refine RL_do rfl rfl (Do_move (v := .int .i64 p0) rfl) ?_
    refine RL_do rfl rfl (Do_move (v := .int .i64 p1) rfl) ?_
    obtain ⟨x10, e11, hF⟩ := letO_some hF
    refine RL_do rfl rfl (Do_as (Do_lss (a := p0) (b := p1) rfl rfl) (congrArg Value.bool e11)) ?_
    refine RL_splitb (b := x10) rfl rfl rfl (fun c12 => ?_) (fun c12 => ?_)
    · have hF := iteB_t c12 hF
      refine RL_off rfl rfl ?_
      refine RL_off rfl rfl ?_
      refine RL_off rfl rfl ?_
      refine RL_do rfl rfl (Do_pick_t (v := .bool true) rfl rfl) ?_
      refine RL_do rfl rfl (Do_assign (v := .bool true) rfl) ?_
      have hR := Option.some.inj hF
      subst hR
      refine (RL_nil (thenQ_n (And.intro ?_ ?_)))
      · repeat' (first | with_reducible exact Fr_refl | refine Fr_upd rfl ?_ | refine Fr_over rfl rfl ?_)
      · exact ⟨(), (Sl_cons rfl Sl_nil), H.pick [] (by decide)⟩
    · have hF := iteB_f c12 hF
      refine RL_do rfl rfl (Do_move (v := .int .i64 p0) rfl) ?_
      refine RL_do rfl rfl (Do_move (v := .int .i64 p2) rfl) ?_
      obtain ⟨x13, e14, hF⟩ := letO_some hF
      refine RL_do rfl rfl (Do_as (Do_gtr (a := p0) (b := p2) rfl rfl) (congrArg Value.bool e14)) ?_
      refine RL_do rfl rfl (Do_pick_f (v := .bool x13) rfl rfl) ?_
      refine RL_do rfl rfl (Do_assign (v := .bool x13) rfl) ?_
      have hR := Option.some.inj hF
      subst hR
      refine (RL_nil (thenQ_n (And.intro ?_ ?_)))
      · repeat' (first | with_reducible exact Fr_refl | refine Fr_upd rfl ?_ | refine Fr_over rfl rfl ?_)
      · exact ⟨(), (Sl_cons rfl Sl_nil), H.pick [] (by decide)⟩
  · rintro _ ρ w8 H
    have hF := hK9
    have hR := Option.some.inj hF
    subst hR
    refine (WP_ret (post1 (v1 := .bool g7) rfl rfl ?_))
    exact ⟨rfl, H.pick [] (by decide)⟩
end Go.Proofs.Ytbjhondbheijiaa
namespace Go.Proofs.Ytbjhondbheijiaa
open Go.RowKit Go.OB Go.Lf
/- orangebox/orangeboxref5.numbered -/
set_option maxHeartbeats 4000000 in
theorem F_ref5_numbered_w (p0 : Int) (r : Bool) (hF : F_ref5_numbered p0 = some r) (O S : List Nat) (w : World) (H : Hd O w w S []) :
    Calls Try.prog 55 ([.int .i64 p0] : List Value).toArray w fun e w' => e = .returned (.bool r) ∧ Hd O w w' S [] := by
  unfold F_ref5_numbered at hF
  refine calls_of_WP 5 Try.func55 rfl rfl rfl ?_
  refine WP_seq_k fun K1 hK1 => ?_
  refine WP_region ?_
  refine RL_do rfl rfl (Do_assign (v := .bool false) rfl) ?_
  refine (RL_nil (thenQ_n (hK1 _ _ ?_)))
  refine WP_seq_k fun K2 hK2 => ?_
  refine WP_region ?_
  refine RL_do rfl rfl (Do_move (v := .int .i64 p0) rfl) ?_
  obtain ⟨x3, e4, hF⟩ := letO_some hF
  refine RL_do rfl rfl (Do_as (Do_geq (a := p0) (b := 2) rfl rfl) (congrArg Value.bool e4)) ?_
  refine RL_do rfl rfl (Do_assign (v := .bool x3) rfl) ?_
  refine (RL_nil (thenQ_n (hK2 _ _ ?_)))
  have hR := Option.some.inj hF
  subst hR
  refine (WP_ret (post1 (v1 := .bool x3) rfl rfl ?_))
  exact ⟨rfl, H.pick [] (by decide)⟩
end Go.Proofs.Ytbjhondbheijiaa
namespace Go.Proofs.Ytbjhondbheijiaa
open Go.RowKit Go.OB Go.Lf
/- orangebox/orangeboxref5.sampleFault -/
set_option maxHeartbeats 4000000 in
theorem F_ref5_sampleFault_w (p0 : Sample) (r : Int) (hF : F_ref5_sampleFault p0 = some r) (O S : List Nat) (w : World) (H : Hd O w w S []) :
    Calls Try.prog 54 ([.agg [.int .i64 p0.At, .int .i64 p0.N, .int .i64 p0.Mark].toArray] : List Value).toArray w fun e w' => e = .returned (.int .i64 r) ∧ Hd O w w' S [] := by
  unfold F_ref5_sampleFault at hF
  refine calls_of_WP 25 Try.func54 rfl rfl rfl ?_
  refine WP_seq_k fun K1 hK1 => ?_
  refine WP_region ?_
  refine RL_ex rfl rfl (Lx_box (cs := [.int .i64 p0.At, .int .i64 p0.N, .int .i64 p0.Mark]) rfl H) ?_
  rintro _ w4 ⟨b2, rfl, H⟩
  refine RL_do rfl rfl (Do_assign (v := .int .i64 0) rfl) ?_
  refine (RL_nil (thenQ_n (hK1 _ _ ?_)))
  refine WP_seq_k fun K38 hK38 => ?_
  obtain ⟨g53, hF, hK55⟩ := bindO_some hF
  refine WP_seqS [3, 4, 5, 6, 7, 8, 9, 10, 11, 12, 13, 14, 15] (fun (g : Unit) => [(15, .bool g53)]) (fun g wl => Hd O w wl S [.blk b2 [.int .i64 p0.At, .int .i64 p0.N, .int .i64 p0.Mark] 62]) ?_ ?_
  · skip
    refine WP_region ?_
    refine RL_do rfl rfl (fa62_0 rfl) ?_
    refine RL_do rfl rfl (Do_load one3 rfl (Cells.get (Blk.cells (H.item (i := 0) rfl)) (i := 0) rfl)) ?_
    obtain ⟨x56, e57, hF⟩ := bindO_some hF
    refine RL_call rfl rfl (DoC_func en53 rfl) (F_ref5_outside_w p0.At 0 1099511627776 _ e57 _ _ _ (H.enter [] [] (by decide) rfl)) ?_
    rintro _ w58 ⟨rfl, G59⟩
    have H := H.back0 [] rfl G59
    refine ⟨_, rfl, ?_⟩
    refine RL_splitb (b := x56) rfl rfl rfl (fun c60 => ?_) (fun c60 => ?_)
    · have hF := iteB_t c60 hF
      refine RL_off rfl rfl ?_
      refine RL_off rfl rfl ?_
      refine RL_off rfl rfl ?_
      refine RL_do rfl rfl (Do_pick_t (v := .bool true) rfl rfl) ?_
      refine RL_do rfl rfl (Do_move (v := .bool true) rfl) ?_
      refine RL_off rfl rfl ?_
      refine RL_off rfl rfl ?_
      refine RL_off rfl rfl ?_
      refine RL_do rfl rfl (Do_pick_t (v := .bool true) rfl rfl) ?_
      have hR := Option.some.inj hF
      subst hR
      refine (RL_nil (thenQ_n (And.intro ?_ ?_)))
      · repeat' (first | with_reducible exact Fr_refl | refine Fr_upd rfl ?_ | refine Fr_over rfl rfl ?_)
      · exact ⟨(), (Sl_cons rfl Sl_nil), H.pick [0] (by decide)⟩
    · have hF := iteB_f c60 hF
      refine RL_do rfl rfl (fa62_1 rfl) ?_
      refine RL_do rfl rfl (Do_load one3 rfl (Cells.get (Blk.cells (H.item (i := 0) rfl)) (i := 1) rfl)) ?_
      obtain ⟨x61, e62, hF⟩ := bindO_some hF
      refine RL_call rfl rfl (DoC_func en53 rfl) (F_ref5_outside_w p0.N (-1125899906842624) 1125899906842624 _ e62 _ _ _ (H.enter [] [] (by decide) rfl)) ?_
      rintro _ w63 ⟨rfl, G64⟩
      have H := H.back0 [] rfl G64
      refine ⟨_, rfl, ?_⟩
      refine RL_do rfl rfl (Do_pick_f (v := .bool x61) rfl rfl) ?_
      refine RL_splitb (b := x61) rfl rfl rfl (fun c65 => ?_) (fun c65 => ?_)
      · have hF := iteB_t c65 hF
        refine RL_off rfl rfl ?_
        refine RL_off rfl rfl ?_
        refine RL_off rfl rfl ?_
        refine RL_do rfl rfl (Do_pick_t (v := .bool true) rfl rfl) ?_
        have hR := Option.some.inj hF
        subst hR
        refine (RL_nil (thenQ_n (And.intro ?_ ?_)))
        · repeat' (first | with_reducible exact Fr_refl | refine Fr_upd rfl ?_ | refine Fr_over rfl rfl ?_)
        · exact ⟨(), (Sl_cons rfl Sl_nil), H.pick [0] (by decide)⟩
      · have hF := iteB_f c65 hF
        refine RL_do rfl rfl (fa62_2 rfl) ?_
        refine RL_do rfl rfl (Do_load one3 rfl (Cells.get (Blk.cells (H.item (i := 0) rfl)) (i := 2) rfl)) ?_
        obtain ⟨x66, e67, hF⟩ := bindO_some hF
        refine RL_call rfl rfl (DoC_func en53 rfl) (F_ref5_outside_w p0.Mark 0 4 _ e67 _ _ _ (H.enter [] [] (by decide) rfl)) ?_
        rintro _ w68 ⟨rfl, G69⟩
        have H := H.back0 [] rfl G69
        refine ⟨_, rfl, ?_⟩
        refine RL_do rfl rfl (Do_pick_f (v := .bool x66) rfl rfl) ?_
        have hR := Option.some.inj hF
        subst hR
        refine (RL_nil (thenQ_n (And.intro ?_ ?_)))
        · repeat' (first | with_reducible exact Fr_refl | refine Fr_upd rfl ?_ | refine Fr_over rfl rfl ?_)
        · exact ⟨(), (Sl_cons rfl Sl_nil), H.pick [0] (by decide)⟩
  · rintro _ ρ w54 H
    have hF := hK55
    refine WP_ifb (b := g53) rfl (fun c70 => ?_) (fun c70 => ?_)
    · have hF := iteB_t c70 hF
      refine WP_seq_k fun K71 hK71 => ?_
      refine WP_region ?_
      refine RL_do rfl rfl (Do_assign (v := .int .i64 9) rfl) ?_
      refine (RL_nil (thenQ_n (hK71 _ _ ?_)))
      have hR := Option.some.inj hF
      subst hR
      refine (WP_ret (thenQ_r (post1 (v1 := .int .i64 9) rfl rfl ?_)))
      exact ⟨rfl, H.pick [] (by decide)⟩
    · have hF := iteB_f c70 hF
      refine (WP_skip (thenQ_n (hK38 _ _ ?_)))
      refine WP_seq_k fun K95 hK95 => ?_
      obtain ⟨g105, hF, hK107⟩ := bindO_some hF
      refine WP_seqS [16, 17, 18, 19, 20, 21, 22, 23, 24] (fun (g : Unit) => [(24, .bool g105)]) (fun g wl => Hd O w wl S []) ?_ ?_
      · skip
        refine WP_region ?_
        refine RL_do rfl rfl (fa62_1 rfl) ?_
        refine RL_do rfl rfl (Do_load one3 rfl (Cells.get (Blk.cells (H.item (i := 0) rfl)) (i := 1) rfl)) ?_
        obtain ⟨x108, e109, hF⟩ := letO_some hF
        refine RL_do rfl rfl (Do_as (Do_neq (a := p0.N) (b := 0) rfl rfl) (congrArg Value.bool e109)) ?_
        refine RL_splitb (b := x108) rfl rfl rfl (fun c110 => ?_) (fun c110 => ?_)
        · have hF := iteB_t c110 hF
          refine RL_do rfl rfl (fa62_2 rfl) ?_
          refine RL_do rfl rfl (Do_load one3 rfl (Cells.get (Blk.cells (H.item (i := 0) rfl)) (i := 2) rfl)) ?_
          obtain ⟨x111, e112, hF⟩ := bindO_some hF
          refine RL_call rfl rfl (DoC_func en55 rfl) (F_ref5_numbered_w p0.Mark _ e112 _ _ _ (H.enter [] [] (by decide) rfl)) ?_
          rintro _ w113 ⟨rfl, G114⟩
          have H := H.back0 [] rfl G114
          refine ⟨_, rfl, ?_⟩
          obtain ⟨x115, e116, hF⟩ := letO_some hF
          refine RL_do rfl rfl (Do_as (Do_not (p := x111) rfl) (congrArg Value.bool e116)) ?_
          refine RL_do rfl rfl (Do_pick_t (v := .bool x115) rfl rfl) ?_
          have hR := Option.some.inj hF
          subst hR
          refine (RL_nil (thenQ_n (And.intro ?_ ?_)))
          · repeat' (first | with_reducible exact Fr_refl | refine Fr_upd rfl ?_ | refine Fr_over rfl rfl ?_)
          · exact ⟨(), (Sl_cons rfl Sl_nil), H.pick [] (by decide)⟩
        · have hF := iteB_f c110 hF
          refine RL_off rfl rfl ?_
          refine RL_off rfl rfl ?_
          refine RL_off rfl rfl ?_
          refine RL_off rfl rfl ?_
          refine RL_do rfl rfl (Do_pick_f (v := .bool false) rfl rfl) ?_
          have hR := Option.some.inj hF
          subst hR
          refine (RL_nil (thenQ_n (And.intro ?_ ?_)))
          · repeat' (first | with_reducible exact Fr_refl | refine Fr_upd rfl ?_ | refine Fr_over rfl rfl ?_)
          · exact ⟨(), (Sl_cons rfl Sl_nil), H.pick [] (by decide)⟩
      · rintro _ ρ w106 H
        have hF := hK107
        refine WP_ifb (b := g105) rfl (fun c117 => ?_) (fun c117 => ?_)
        · have hF := iteB_t c117 hF
          refine WP_seq_k fun K118 hK118 => ?_
          refine WP_region ?_
          refine RL_do rfl rfl (Do_assign (v := .int .i64 2) rfl) ?_
          refine (RL_nil (thenQ_n (hK118 _ _ ?_)))
          have hR := Option.some.inj hF
          subst hR
          refine (WP_ret (thenQ_r (post1 (v1 := .int .i64 2) rfl rfl ?_)))
          exact ⟨rfl, H.pick [] (by decide)⟩
        · have hF := iteB_f c117 hF
          refine (WP_skip (thenQ_n (hK95 _ _ ?_)))
          refine WP_seq_k fun K119 hK119 => ?_
          refine WP_region ?_
          refine RL_do rfl rfl (Do_assign (v := .int .i64 0) rfl) ?_
          refine (RL_nil (thenQ_n (hK119 _ _ ?_)))
          have hR := Option.some.inj hF
          subst hR
          refine (WP_ret (post1 (v1 := .int .i64 0) rfl rfl ?_))
          exact ⟨rfl, H.pick [] (by decide)⟩
end Go.Proofs.Ytbjhondbheijiaa
namespace Go.Proofs.Ytbjhondbheijiaa
open Go.RowKit Go.OB Go.Lf
/- orangebox/orangeboxref5.fault -/
set_option maxHeartbeats 4000000 in
theorem F_ref5_fault_w (p0 : Series) (v1 : Value) (r : Int × Int) (hF : F_ref5_fault p0 = some r) (O S : List Nat) (w : World) (H : Hd O w w S [.fz (.sl rSample v1 p0.Samples)]) :
    Calls Try.prog 50 ([.agg [.int .i64 p0.Den, v1].toArray] : List Value).toArray w fun e w' => e = .returned (.tuple #[.int .i64 r.1, .int .i64 r.2]) ∧ Hd O w w' S [] := by
  unfold F_ref5_fault at hF
  refine calls_of_WP 49 Try.func50 rfl rfl rfl ?_
  refine WP_seq_k fun K3 hK3 => ?_
  refine WP_region ?_
  refine RL_ex rfl rfl (Lx_box (cs := [.int .i64 p0.Den, v1]) rfl H) ?_
  rintro _ w6 ⟨b4, rfl, H⟩
  refine RL_do rfl rfl (Do_assign (v := .int .i64 0) rfl) ?_
  refine RL_do rfl rfl (Do_assign (v := .int .i64 0) rfl) ?_
  refine (RL_nil (thenQ_n (hK3 _ _ ?_)))
  refine WP_seq_k fun K14 hK14 => ?_
  refine WP_seq_k fun K15 hK15 => ?_
  refine WP_region ?_
  refine RL_do rfl rfl (fa58_0 rfl) ?_
  refine RL_do rfl rfl (Do_load one3 rfl (Cells.get (Blk.cells (H.item (i := 1) rfl)) (i := 0) rfl)) ?_
  obtain ⟨x16, e17, hF⟩ := bindO_some hF
  refine RL_call rfl rfl (DoC_func en53 rfl) (F_ref5_outside_w p0.Den 1 1000000 _ e17 _ _ _ (H.enter [] [] (by decide) rfl)) ?_
  rintro _ w18 ⟨rfl, G19⟩
  have H := H.back0 [] rfl G19
  refine ⟨_, rfl, ?_⟩
  refine (RL_nil (thenQ_n (hK15 _ _ ?_)))
  refine WP_ifb (b := x16) rfl (fun c20 => ?_) (fun c20 => ?_)
  · have hF := iteB_t c20 hF
    refine WP_seq_k fun K21 hK21 => ?_
    refine WP_region ?_
    refine RL_do rfl rfl (Do_assign (v := .int .i64 (-1)) rfl) ?_
    refine RL_do rfl rfl (Do_assign (v := .int .i64 9) rfl) ?_
    refine (RL_nil (thenQ_n (hK21 _ _ ?_)))
    have hR := Option.some.inj hF
    subst hR
    refine (WP_ret (thenQ_r (post2 (v1 := .int .i64 (-1)) (v2 := .int .i64 9) rfl rfl rfl ?_)))
    exact ⟨rfl, H.pick [] (by decide)⟩
  · have hF := iteB_f c20 hF
    refine (WP_skip (thenQ_n (hK14 _ _ ?_)))
    refine WP_seq_k fun K32 hK32 => ?_
    refine WP_seq_k fun K33 hK33 => ?_
    refine WP_region ?_
    refine RL_do rfl rfl (fa58_1 rfl) ?_
    refine RL_do rfl rfl (Do_load one56 rfl (Cells.get (Blk.cells (H.item (i := 1) rfl)) (i := 1) rfl)) ?_
    obtain ⟨x34, e35, hF⟩ := letO_some hF
    obtain ⟨a36, c37, q38⟩ := SlF.len ((H.item (i := 0) rfl))
    refine RL_do rfl rfl (Do_as (Do_len u56 q38) (congrArg (Value.int .i64) e35)) ?_
    obtain ⟨x39, e40, hF⟩ := letO_some hF
    refine RL_do rfl rfl (Do_as (Do_gtr (a := x34) (b := 20000) rfl rfl) (congrArg Value.bool e40)) ?_
    refine (RL_nil (thenQ_n (hK33 _ _ ?_)))
    refine WP_ifb (b := x39) rfl (fun c41 => ?_) (fun c41 => ?_)
    · have hF := iteB_t c41 hF
      refine WP_seq_k fun K42 hK42 => ?_
      refine WP_region ?_
      refine RL_do rfl rfl (Do_assign (v := .int .i64 (-1)) rfl) ?_
      refine RL_do rfl rfl (Do_assign (v := .int .i64 3) rfl) ?_
      refine (RL_nil (thenQ_n (hK42 _ _ ?_)))
      have hR := Option.some.inj hF
      subst hR
      refine (WP_ret (thenQ_r (post2 (v1 := .int .i64 (-1)) (v2 := .int .i64 3) rfl rfl rfl ?_)))
      exact ⟨rfl, H.pick [] (by decide)⟩
    · have hF := iteB_f c41 hF
      refine (WP_skip (thenQ_n (hK32 _ _ ?_)))
      obtain ⟨k815, ek816, hF⟩ := joinO_some hF
      refine WP_seqS [2, 3, 4, 5, 13, 14, 15, 16, 17, 18, 19, 20, 21, 22, 23, 24, 25, 26, 27, 28, 29, 30, 31, 32, 33, 34, 35, 36, 37, 38, 39, 40, 41, 42, 43, 44, 45, 46, 47, 48] (fun (g : Unit) => []) (fun g wl => Hd O w wl S [] ∧ k815 () = some r) ?_ ?_
      · skip
        refine WP_seq_k fun K817 hK817 => ?_
        refine WP_region ?_
        refine RL_do rfl rfl (Do_assign (v := .int .i64 0) rfl) ?_
        refine (RL_nil (thenQ_n (hK817 _ _ ?_)))
        refine WP_block ?_
        unfold F_ref5_fault_L1 at hF
        obtain ⟨B1328, n1329, eB1330, hF⟩ := loopO_some hF
        refine WP_loopS [2, 3, 4, 5, 13, 14, 15, 16, 17, 18, 19, 20, 21, 22, 23, 24, 25, 26, 27, 28, 29, 30, 31, 32, 33, 34, 35, 36, 37, 38, 39, 40, 41, 42, 43, 44, 45, 46, 47, 48] (fun (g : Nat × Int) => [(4, .int .i64 g.2)]) (fun g wl => Hd O w wl S [.blk b4 [.int .i64 p0.Den, v1] 58, .fz (.sl rSample v1 p0.Samples)] ∧ loopN B1328 g.1 g.2 = some r) (fun g => g.1) (n1329, 0) (Sl_cons rfl Sl_nil) ⟨H.pick [1, 0] (by decide), hF⟩ ?_
        clear H hF
        rintro ⟨n1329, g1327⟩ ρ w1332 ⟨H, hF⟩
        obtain ⟨n1333, rfl, hF⟩ := loopN_pos hF
        have hF := loop_body eB1330 hF
        refine WP_seq_k fun K1343 hK1343 => ?_
        refine WP_seq_k fun K1344 hK1344 => ?_
        refine WP_region ?_
        refine RL_do rfl rfl (Do_move (v := .int .i64 g1327) rfl) ?_
        refine RL_do rfl rfl (fa58_1 rfl) ?_
        refine RL_do rfl rfl (Do_load one56 rfl (Cells.get (Blk.cells (H.item (i := 0) rfl)) (i := 1) rfl)) ?_
        obtain ⟨x1345, e1346, hF⟩ := letO_some hF
        obtain ⟨a1347, c1348, q1349⟩ := SlF.len ((H.item (i := 1) rfl))
        refine RL_do rfl rfl (Do_as (Do_len u56 q1349) (congrArg (Value.int .i64) e1346)) ?_
        obtain ⟨x1350, e1351, hF⟩ := letO_some hF
        refine RL_do rfl rfl (Do_as (Do_lss (a := g1327) (b := x1345) rfl rfl) (congrArg Value.bool e1351)) ?_
        refine (RL_nil (thenQ_n (hK1344 _ _ ?_)))
        refine WP_ifb (b := x1350) rfl (fun c1352 => ?_) (fun c1352 => ?_)
        · have hF := iteB_t c1352 hF
          refine (WP_skip (thenQ_n (hK1343 _ _ ?_)))
          refine WP_seq_k fun K1469 hK1469 => ?_
          refine WP_block ?_
          refine WP_seq_k fun K1492 hK1492 => ?_
          refine WP_seq_k fun K1493 hK1493 => ?_
          refine WP_region ?_
          refine RL_do rfl rfl (fa58_1 rfl) ?_
          refine RL_do rfl rfl (Do_load one56 rfl (Cells.get (Blk.cells (H.item (i := 0) rfl)) (i := 1) rfl)) ?_
          refine RL_do rfl rfl (Do_move (v := .int .i64 g1327) rfl) ?_
          obtain ⟨x1494, e1495, hF⟩ := bindO_some hF
          obtain ⟨b1496, o1497, c1498, cs1499, q1500, h1503, h1501, h1502, h1504⟩ := rd_at (H.item (i := 1) rfl) e1495
          obtain rfl := rSample_open h1503
          have H := H.fz (.at b1496 (o1497 + g1327.toNat * 3) _) ⟨h1501, h1502, h1504⟩
          refine RL_do rfl rfl (Do_idx u56 sz62 q1500 rfl (at_some e1495).1 (at_some e1495).2.1 rfl rfl) ?_
          refine RL_do rfl rfl (Do_as (Do_loads (cs := [.int .i64 x1494.At, .int .i64 x1494.N, .int .i64 x1494.Mark]) agg62 rfl sz62 rfl (H.item (i := 2) rfl).2.2) rfl) ?_
          obtain ⟨x1506, e1507, hF⟩ := bindO_some hF
          refine RL_call rfl rfl (DoC_func en54 rfl) (F_ref5_sampleFault_w x1494 _ e1507 _ _ _ (H.enter [] [] (by decide) rfl)) ?_
          rintro _ w1508 ⟨rfl, G1509⟩
          have H := H.back0 [] rfl G1509
          refine ⟨_, rfl, ?_⟩
          refine RL_do rfl rfl (Do_assign (v := .int .i64 x1506) rfl) ?_
          refine (RL_nil (thenQ_n (hK1493 _ _ ?_)))
          refine WP_seq_k fun K1510 hK1510 => ?_
          refine WP_region ?_
          refine RL_do rfl rfl (Do_move (v := .int .i64 x1506) rfl) ?_
          obtain ⟨x1511, e1512, hF⟩ := letO_some hF
          refine RL_do rfl rfl (Do_as (Do_neq (a := x1506) (b := 0) rfl rfl) (congrArg Value.bool e1512)) ?_
          refine (RL_nil (thenQ_n (hK1510 _ _ ?_)))
          refine WP_ifb (b := x1511) rfl (fun c1513 => ?_) (fun c1513 => ?_)
          · have hF := iteB_t c1513 hF
            refine WP_seq_k fun K1514 hK1514 => ?_
            refine WP_region ?_
            refine RL_do rfl rfl (Do_move (v := .int .i64 g1327) rfl) ?_
            refine RL_do rfl rfl (Do_move (v := .int .i64 x1506) rfl) ?_
            refine RL_do rfl rfl (Do_assign (v := .int .i64 g1327) rfl) ?_
            refine RL_do rfl rfl (Do_assign (v := .int .i64 x1506) rfl) ?_
            refine (RL_nil (thenQ_n (hK1514 _ _ ?_)))
            have hR := Option.some.inj hF
            subst hR
            refine (WP_ret (thenQ_r (blockQ_r (thenQ_r (thenQ_r (blockQ_r (thenQ_r (post2 (v1 := .int .i64 g1327) (v2 := .int .i64 x1506) rfl rfl rfl ?_))))))))
            exact ⟨rfl, H.pick [] (by decide)⟩
          · have hF := iteB_f c1513 hF
            refine (WP_skip (thenQ_n (hK1492 _ _ ?_)))
            obtain ⟨g1548, hF, hK1550⟩ := bindO_some hF
            refine WP_seqS [30, 31, 32, 33, 34, 35, 36, 37, 38, 39, 40, 41, 42, 43, 44, 45, 46, 47] (fun (g : Unit) => [(47, .bool g1548)]) (fun g wl => Hd O w wl S [.blk b4 [.int .i64 p0.Den, v1] 58, .fz (.sl rSample v1 p0.Samples)]) ?_ ?_
            · skip
              refine WP_mix [.pure, .pure, .pure, .pure, .read, .pure, .pure, .pure, .read, .pure, .read, .pure, .pure, .pure, .pure, .read, .pure, .pure] mixed (by kernel_rfl) (by kernel_rfl) (by kernel_rfl) ?_
              refine XL_pure rfl rfl rfl (fun w' => Do_move (v := .int .i64 g1327) rfl) ?_
              obtain ⟨x1551, e1552, hF⟩ := letO_some hF
              refine XL_pure rfl rfl rfl (fun w' => Do_as (Do_gtr (a := g1327) (b := 0) rfl rfl) (congrArg Value.bool e1552)) ?_
              refine XL_splitb (b := x1551) rfl rfl rfl rfl (fun c1553 => ?_) (fun c1553 => ?_)
              · have hF := iteB_t c1553 hF
                refine XL_pure rfl rfl rfl (fun w' => fa58_1 rfl) ?_
                refine XL_read rfl rfl rfl (fun w' hw' => Do_load one56 rfl (Cells.get (Blk.cells ((H.sees hw').item (i := 0) rfl)) (i := 1) rfl)) ?_
                refine XL_pure rfl rfl rfl (fun w' => Do_move (v := .int .i64 g1327) rfl) ?_
                obtain ⟨x1554, e1555, hF⟩ := bindO_some hF
                obtain ⟨b1556, o1557, c1558, cs1559, q1560, h1563, h1561, h1562, h1564⟩ := rd_at (H.item (i := 1) rfl) e1555
                obtain rfl := rSample_open h1563
                have H := H.fz (.at b1556 (o1557 + g1327.toNat * 3) _) ⟨h1561, h1562, h1564⟩
                refine XL_pure rfl rfl rfl (fun w' => Do_idx u56 sz62 q1560 rfl (at_some e1555).1 (at_some e1555).2.1 rfl rfl) ?_
                refine XL_pure rfl rfl rfl (fun w' => fa62_0 rfl) ?_
                refine XL_read rfl rfl rfl (fun w' hw' => Do_load one3 rfl (Cells.get ((H.sees hw').item (i := 3) rfl).2.2 (i := 0) rfl)) ?_
                refine XL_pure rfl rfl rfl (fun w' => fa58_1 rfl) ?_
                refine XL_read rfl rfl rfl (fun w' hw' => Do_load one56 rfl (Cells.get (Blk.cells ((H.sees hw').item (i := 0) rfl)) (i := 1) rfl)) ?_
                refine XL_pure rfl rfl rfl (fun w' => Do_move (v := .int .i64 g1327) rfl) ?_
                obtain ⟨x1566, e1567, hF⟩ := letO_some hF
                refine XL_pure rfl rfl rfl (fun w' => Do_sub (a := g1327) (b := 1) rfl rfl e1567) ?_
                obtain ⟨x1568, e1569, hF⟩ := bindO_some hF
                obtain ⟨b1570, o1571, c1572, cs1573, q1574, h1577, h1575, h1576, h1578⟩ := rd_at (H.item (i := 1) rfl) e1569
                obtain rfl := rSample_open h1577
                have H := H.fz (.at b1570 (o1571 + x1566.toNat * 3) _) ⟨h1575, h1576, h1578⟩
                refine XL_pure rfl rfl rfl (fun w' => Do_idx u56 sz62 q1574 rfl (at_some e1569).1 (at_some e1569).2.1 rfl rfl) ?_
                refine XL_pure rfl rfl rfl (fun w' => fa62_0 rfl) ?_
                refine XL_read rfl rfl rfl (fun w' hw' => Do_load one3 rfl (Cells.get ((H.sees hw').item (i := 4) rfl).2.2 (i := 0) rfl)) ?_
                obtain ⟨x1580, e1581, hF⟩ := letO_some hF
                refine XL_pure rfl rfl rfl (fun w' => Do_as (Do_leq (a := x1554.At) (b := x1568.At) rfl rfl) (congrArg Value.bool e1581)) ?_
                refine XL_pure rfl rfl rfl (fun w' => Do_pick_t (v := .bool x1580) rfl rfl) ?_
                refine XL_nil fun w1582 hS => ?_
                have H := H.sees hS
                have hR := Option.some.inj hF
                subst hR
                refine (thenQ_n (And.intro ?_ ?_))
                · repeat' (first | with_reducible exact Fr_refl | refine Fr_upd rfl ?_ | refine Fr_over rfl rfl ?_)
                · exact ⟨(), (Sl_cons rfl Sl_nil), H.pick [0, 1] (by decide)⟩
              · have hF := iteB_f c1553 hF
                refine XL_offp rfl rfl rfl ?_
                refine XL_offr rfl rfl rfl ?_
                refine XL_offp rfl rfl rfl ?_
                refine XL_offp rfl rfl rfl ?_
                refine XL_offp rfl rfl rfl ?_
                refine XL_offr rfl rfl rfl ?_
                refine XL_offp rfl rfl rfl ?_
                refine XL_offr rfl rfl rfl ?_
                refine XL_offp rfl rfl rfl ?_
                refine XL_offp rfl rfl rfl ?_
                refine XL_offp rfl rfl rfl ?_
                refine XL_offp rfl rfl rfl ?_
                refine XL_offr rfl rfl rfl ?_
                refine XL_offp rfl rfl rfl ?_
                refine XL_pure rfl rfl rfl (fun w' => Do_pick_f (v := .bool false) rfl rfl) ?_
                refine XL_nil fun w1583 hS => ?_
                have H := H.sees hS
                have hR := Option.some.inj hF
                subst hR
                refine (thenQ_n (And.intro ?_ ?_))
                · repeat' (first | with_reducible exact Fr_refl | refine Fr_upd rfl ?_ | refine Fr_over rfl rfl ?_)
                · exact ⟨(), (Sl_cons rfl Sl_nil), H.pick [0, 1] (by decide)⟩
            · rintro _ ρ w1549 H
              have hF := hK1550
              refine WP_ifb (b := g1548) rfl (fun c1584 => ?_) (fun c1584 => ?_)
              · have hF := iteB_t c1584 hF
                refine WP_seq_k fun K1585 hK1585 => ?_
                refine WP_region ?_
                refine RL_do rfl rfl (Do_move (v := .int .i64 g1327) rfl) ?_
                refine RL_do rfl rfl (Do_assign (v := .int .i64 g1327) rfl) ?_
                refine RL_do rfl rfl (Do_assign (v := .int .i64 10) rfl) ?_
                refine (RL_nil (thenQ_n (hK1585 _ _ ?_)))
                have hR := Option.some.inj hF
                subst hR
                refine (WP_ret (blockQ_r (thenQ_r (thenQ_r (blockQ_r (thenQ_r (post2 (v1 := .int .i64 g1327) (v2 := .int .i64 10) rfl rfl rfl ?_)))))))
                exact ⟨rfl, H.pick [] (by decide)⟩
              · have hF := iteB_f c1584 hF
                refine (WP_skip (blockQ_n (thenQ_n (hK1469 _ _ ?_))))
                refine WP_region ?_
                refine RL_do rfl rfl (Do_move (v := .int .i64 g1327) rfl) ?_
                obtain ⟨x1586, e1587, hF⟩ := letO_some hF
                refine RL_do rfl rfl (Do_add (a := g1327) (b := 1) rfl rfl e1587) ?_
                refine RL_do rfl rfl (Do_assign (v := .int .i64 x1586) rfl) ?_
                refine (RL_nil (thenQ_n (And.intro ?_ ?_)))
                · repeat' (first | with_reducible exact Fr_refl | refine Fr_upd rfl ?_ | refine Fr_over rfl rfl ?_)
                · exact ⟨(n1333, x1586), (Sl_cons rfl Sl_nil), ⟨H.pick [0, 1] (by decide), hF⟩, Nat.lt_succ_self _⟩
        · have hF := iteB_f c1352 hF
          refine (WP_exit (thenQ_x (thenQ_x (blockQ_eq (thenQ_n (And.intro ?_ ?_))))))
          · repeat' (first | with_reducible exact Fr_refl | refine Fr_upd rfl ?_ | refine Fr_over rfl rfl ?_)
          · exact ⟨(), Sl_nil, ⟨H.pick [] (by decide), hF⟩⟩
      · rintro _ ρ w814 ⟨H, hF⟩
        have hF := join_body ek816 hF
        refine WP_seq_k fun K1588 hK1588 => ?_
        refine WP_region ?_
        refine RL_do rfl rfl (Do_assign (v := .int .i64 (-1)) rfl) ?_
        refine RL_do rfl rfl (Do_assign (v := .int .i64 0) rfl) ?_
        refine (RL_nil (thenQ_n (hK1588 _ _ ?_)))
        have hR := Option.some.inj hF
        subst hR
        refine (WP_ret (post2 (v1 := .int .i64 (-1)) (v2 := .int .i64 0) rfl rfl rfl ?_))
        exact ⟨rfl, H.pick [] (by decide)⟩
end Go.Proofs.Ytbjhondbheijiaa
namespace Go.Proofs.Ytbjhondbheijiaa
open Go.RowKit Go.OB Go.Lf
/- orangebox/orangeboxref5.Check -/
set_option maxHeartbeats 4000000 in
theorem F_ref5_Check_w (p0 : Series) (v1 : Value) (r : Int) (hF : F_ref5_Check p0 = some r) (O S : List Nat) (w : World) (H : Hd O w w S [.fz (.sl rSample v1 p0.Samples)]) :
    Calls Try.prog 37 ([.agg [.int .i64 p0.Den, v1].toArray] : List Value).toArray w fun e w' => e = .returned (.int .i64 r) ∧ Hd O w w' S [] := by
  unfold F_ref5_Check at hF
  refine calls_of_WP 11 Try.func37 rfl rfl rfl ?_
  refine WP_seq_k fun K3 hK3 => ?_
  refine WP_region ?_
  refine RL_ex rfl rfl (Lx_box (cs := [.int .i64 p0.Den, v1]) rfl H) ?_
  rintro _ w6 ⟨b4, rfl, H⟩
  refine RL_do rfl rfl (Do_assign (v := .int .i64 0) rfl) ?_
  refine (RL_nil (thenQ_n (hK3 _ _ ?_)))
  refine WP_seq_k fun K7 hK7 => ?_
  refine WP_region ?_
  refine RL_do rfl rfl (Do_as (Do_loads (cs := [.int .i64 p0.Den, v1]) agg58 rfl sz58 rfl (Blk.cells (H.item (i := 1) rfl))) rfl) ?_
  obtain ⟨⟨x8, x9⟩, e10, hF⟩ := bindO_some hF
  refine RL_call rfl rfl (DoC_func en50 rfl) (F_ref5_fault_w p0 v1 _ e10 _ _ _ (H.enter [] [0] (by decide) rfl)) ?_
  rintro _ w11 ⟨rfl, G12⟩
  have H := H.back0 [0] rfl G12
  refine ⟨_, rfl, ?_⟩
  refine RL_do rfl rfl (Do_move (v := .tuple #[.int .i64 x8, .int .i64 x9]) rfl) ?_
  refine RL_do rfl rfl (Do_extract (v := .int .i64 x8) rfl rfl) ?_
  refine RL_do rfl rfl (Do_extract (v := .int .i64 x9) rfl rfl) ?_
  refine RL_do rfl rfl (Do_assign (v := .int .i64 x8) rfl) ?_
  refine RL_do rfl rfl (Do_assign (v := .int .i64 x9) rfl) ?_
  refine (RL_nil (thenQ_n (hK7 _ _ ?_)))
  refine WP_seq_k fun K13 hK13 => ?_
  refine WP_region ?_
  refine RL_do rfl rfl (Do_move (v := .int .i64 x9) rfl) ?_
  refine RL_do rfl rfl (Do_assign (v := .int .i64 x9) rfl) ?_
  refine (RL_nil (thenQ_n (hK13 _ _ ?_)))
  have hR := Option.some.inj hF
  subst hR
  refine (WP_ret (post1 (v1 := .int .i64 x9) rfl rfl ?_))
  exact ⟨rfl, H.pick [] (by decide)⟩
end Go.Proofs.Ytbjhondbheijiaa
namespace Go.Proofs.Ytbjhondbheijiaa
open Go.RowKit Go.OB Go.Lf
/- orangebox/orangeboxref6.outside -/
set_option maxHeartbeats 4000000 in
theorem F_ref6_outside_w (p0 : Int) (p1 : Int) (p2 : Int) (r : Bool) (hF : F_ref6_outside p0 p1 p2 = some r) (O S : List Nat) (w : World) (H : Hd O w w S []) :
    Calls Try.prog 38 ([.int .i64 p0, .int .i64 p1, .int .i64 p2] : List Value).toArray w fun e w' => e = .returned (.bool r) ∧ Hd O w w' S [] := by
  unfold F_ref6_outside at hF
  refine calls_of_WP 15 Try.func38 rfl rfl rfl ?_
  refine WP_seq_k fun K1 hK1 => ?_
  refine WP_region ?_
  refine RL_do rfl rfl (Do_assign (v := .bool false) rfl) ?_
  refine (RL_nil (thenQ_n (hK1 _ _ ?_)))
  obtain ⟨g7, hF, hK9⟩ := bindO_some hF
  refine WP_seqS [6, 7, 8, 9, 10, 11, 12, 13, 14] (fun (g : Unit) => [(6, .bool g7)]) (fun g wl => Hd O w wl S []) ?_ ?_
  · skip
    refine WP_region ?_
    refine RL_do rfl rfl (Do_move (v := .int .i64 p0) rfl) ?_
    refine RL_do rfl rfl (Do_move (v := .int .i64 p1) rfl) ?_
    obtain ⟨x10, e11, hF⟩ := letO_some hF
    refine RL_do rfl rfl (Do_as (Do_lss (a := p0) (b := p1) rfl rfl) (congrArg Value.bool e11)) ?_
    refine RL_splitb (b := x10) rfl rfl rfl (fun c12 => ?_) (fun c12 => ?_)
    · have hF := iteB_t c12 hF
      refine RL_off rfl rfl ?_
      refine RL_off rfl rfl ?_
      refine RL_off rfl rfl ?_
      refine RL_do rfl rfl (Do_pick_t (v := .bool true) rfl rfl) ?_
      refine RL_do rfl rfl (Do_assign (v := .bool true) rfl) ?_
      have hR := Option.some.inj hF
      subst hR
      refine (RL_nil (thenQ_n (And.intro ?_ ?_)))
      · repeat' (first | with_reducible exact Fr_refl | refine Fr_upd rfl ?_ | refine Fr_over rfl rfl ?_)
      · exact ⟨(), (Sl_cons rfl Sl_nil), H.pick [] (by decide)⟩
    · have hF := iteB_f c12 hF
      refine RL_do rfl rfl (Do_move (v := .int .i64 p0) rfl) ?_
      refine RL_do rfl rfl (Do_move (v := .int .i64 p2) rfl) ?_
      obtain ⟨x13, e14, hF⟩ := letO_some hF
      refine RL_do rfl rfl (Do_as (Do_gtr (a := p0) (b := p2) rfl rfl) (congrArg Value.bool e14)) ?_
      refine RL_do rfl rfl (Do_pick_f (v := .bool x13) rfl rfl) ?_
      refine RL_do rfl rfl (Do_assign (v := .bool x13) rfl) ?_
      have hR := Option.some.inj hF
      subst hR
      refine (RL_nil (thenQ_n (And.intro ?_ ?_)))
      · repeat' (first | with_reducible exact Fr_refl | refine Fr_upd rfl ?_ | refine Fr_over rfl rfl ?_)
      · exact ⟨(), (Sl_cons rfl Sl_nil), H.pick [] (by decide)⟩
  · rintro _ ρ w8 H
    have hF := hK9
    have hR := Option.some.inj hF
    subst hR
    refine (WP_ret (post1 (v1 := .bool g7) rfl rfl ?_))
    exact ⟨rfl, H.pick [] (by decide)⟩
end Go.Proofs.Ytbjhondbheijiaa
namespace Go.Proofs.Ytbjhondbheijiaa
open Go.RowKit Go.OB Go.Lf
/- orangebox/orangeboxref6.CheckTracks -/
set_option maxHeartbeats 4000000 in
theorem F_ref6_CheckTracks_w (p0 : List Track) (v1 : Value) (r : Int) (hF : F_ref6_CheckTracks p0 = some r) (O S : List Nat) (w : World) (H : Hd O w w S [.fz (.sl rTrack v1 p0)]) :
    Calls Try.prog 22 ([v1] : List Value).toArray w fun e w' => e = .returned (.int .i64 r) ∧ Hd O w w' S [] := by
  unfold F_ref6_CheckTracks at hF
  refine calls_of_WP 53 Try.func22 rfl rfl rfl ?_
  refine WP_seq_k fun K3 hK3 => ?_
  refine WP_region ?_
  refine RL_do rfl rfl (Do_assign (v := .int .i64 0) rfl) ?_
  refine (RL_nil (thenQ_n (hK3 _ _ ?_)))
  refine WP_seq_k fun K14 hK14 => ?_
  refine WP_seq_k fun K15 hK15 => ?_
  refine WP_region ?_
  refine RL_do rfl rfl (Do_move (v := v1) rfl) ?_
  obtain ⟨x16, e17, hF⟩ := letO_some hF
  obtain ⟨a18, c19, q20⟩ := SlF.len ((H.item (i := 0) rfl))
  refine RL_do rfl rfl (Do_as (Do_len u22 q20) (congrArg (Value.int .i64) e17)) ?_
  obtain ⟨x21, e22, hF⟩ := letO_some hF
  refine RL_do rfl rfl (Do_as (Do_gtr (a := x16) (b := 50) rfl rfl) (congrArg Value.bool e22)) ?_
  refine (RL_nil (thenQ_n (hK15 _ _ ?_)))
  refine WP_ifb (b := x21) rfl (fun c23 => ?_) (fun c23 => ?_)
  · have hF := iteB_t c23 hF
    refine WP_seq_k fun K24 hK24 => ?_
    refine WP_region ?_
    refine RL_do rfl rfl (Do_assign (v := .int .i64 3) rfl) ?_
    refine (RL_nil (thenQ_n (hK24 _ _ ?_)))
    have hR := Option.some.inj hF
    subst hR
    refine (WP_ret (thenQ_r (post1 (v1 := .int .i64 3) rfl rfl ?_)))
    exact ⟨rfl, H.pick [] (by decide)⟩
  · have hF := iteB_f c23 hF
    refine (WP_skip (thenQ_n (hK14 _ _ ?_)))
    obtain ⟨k3989, ek3990, hF⟩ := joinO_some hF
    refine WP_seqS [2, 3, 4, 5, 9, 10, 11, 12, 13, 14, 15, 16, 17, 18, 19, 20, 21, 22, 23, 24, 25, 26, 27, 28, 29, 30, 31, 32, 33, 34, 35, 36, 37, 38, 39, 40, 41, 42, 43, 44, 45, 46, 47, 48, 49, 50, 51, 52] (fun (g : Unit) => []) (fun g wl => Hd O w wl S [] ∧ k3989 () = some r) ?_ ?_
    · skip
      refine WP_seq_k fun K3991 hK3991 => ?_
      refine WP_region ?_
      refine RL_do rfl rfl (Do_assign (v := .int .i64 0) rfl) ?_
      refine (RL_nil (thenQ_n (hK3991 _ _ ?_)))
      refine WP_block ?_
      unfold F_ref6_CheckTracks_L1 at hF
      obtain ⟨B6630, n6631, eB6632, hF⟩ := loopO_some hF
      refine WP_loopS [2, 3, 4, 5, 9, 10, 11, 12, 13, 14, 15, 16, 17, 18, 19, 20, 21, 22, 23, 24, 25, 26, 27, 28, 29, 30, 31, 32, 33, 34, 35, 36, 37, 38, 39, 40, 41, 42, 43, 44, 45, 46, 47, 48, 49, 50, 51, 52] (fun (g : Nat × Int) => [(3, .int .i64 g.2)]) (fun g wl => Hd O w wl S [.fz (.sl rTrack v1 p0)] ∧ loopN B6630 g.1 g.2 = some r) (fun g => g.1) (n6631, 0) (Sl_cons rfl Sl_nil) ⟨H.pick [0] (by decide), hF⟩ ?_
      clear H hF
      rintro ⟨n6631, g6629⟩ ρ w6634 ⟨H, hF⟩
      obtain ⟨n6635, rfl, hF⟩ := loopN_pos hF
      have hF := loop_body eB6632 hF
      refine WP_seq_k fun K6645 hK6645 => ?_
      refine WP_seq_k fun K6646 hK6646 => ?_
      refine WP_region ?_
      refine RL_do rfl rfl (Do_move (v := .int .i64 g6629) rfl) ?_
      refine RL_do rfl rfl (Do_move (v := v1) rfl) ?_
      obtain ⟨x6647, e6648, hF⟩ := letO_some hF
      obtain ⟨a6649, c6650, q6651⟩ := SlF.len ((H.item (i := 0) rfl))
      refine RL_do rfl rfl (Do_as (Do_len u22 q6651) (congrArg (Value.int .i64) e6648)) ?_
      obtain ⟨x6652, e6653, hF⟩ := letO_some hF
      refine RL_do rfl rfl (Do_as (Do_lss (a := g6629) (b := x6647) rfl rfl) (congrArg Value.bool e6653)) ?_
      refine (RL_nil (thenQ_n (hK6646 _ _ ?_)))
      refine WP_ifb (b := x6652) rfl (fun c6654 => ?_) (fun c6654 => ?_)
      · have hF := iteB_t c6654 hF
        refine (WP_skip (thenQ_n (hK6645 _ _ ?_)))
        obtain ⟨k7303, ek7304, hF⟩ := joinO_some hF
        refine WP_seqS [2, 4, 5, 15, 16, 17, 18, 19, 20, 21, 22, 23, 24, 25, 26, 27, 28, 29, 30, 31, 32, 33, 34, 35, 36, 37, 38, 39, 40, 41, 42, 43, 44, 45, 46, 47, 48, 49, 50, 51, 52] (fun (g : Unit) => []) (fun g wl => Hd O w wl S [.fz (.sl rTrack v1 p0)] ∧ k7303 () = some r) ?_ ?_
        · skip
          refine WP_block ?_
          refine WP_seq_k fun K7329 hK7329 => ?_
          refine WP_seq_k fun K7330 hK7330 => ?_
          refine WP_region ?_
          refine RL_do rfl rfl (Do_move (v := v1) rfl) ?_
          refine RL_do rfl rfl (Do_move (v := .int .i64 g6629) rfl) ?_
          obtain ⟨x7331, e7332, hF⟩ := bindO_some hF
          obtain ⟨b7333, o7334, c7335, cs7336, q7337, h7340, h7338, h7339, h7341⟩ := rd_at (H.item (i := 0) rfl) e7332
          obtain ⟨v7342, rfl, h7343⟩ := rTrack_open h7340
          have H := H.fzs [.at b7333 (o7334 + g6629.toNat * 4) _, .sl rSample v7342 x7331.Series.Samples] ⟨⟨h7338, h7339, h7341⟩, h7343, trivial⟩
          refine RL_do rfl rfl (Do_idx u22 sz60 q7337 rfl (at_some e7332).1 (at_some e7332).2.1 rfl rfl) ?_
          refine RL_do rfl rfl (fa60_0 rfl) ?_
          refine RL_do rfl rfl (Do_load one9 rfl (Cells.get (H.item (i := 1) rfl).2.2 (i := 0) rfl)) ?_
          obtain ⟨x7346, e7347, hF⟩ := bindO_some hF
          refine RL_call rfl rfl (DoC_func en12 rfl) (F_ref6_IsName_w x7331.Name _ e7347 _ _ _ (H.enter [] [] (by decide) rfl)) ?_
          rintro _ w7348 ⟨rfl, G7349⟩
          have H := H.back0 [] rfl G7349
          refine ⟨_, rfl, ?_⟩
          obtain ⟨x7350, e7351, hF⟩ := letO_some hF
          refine RL_do rfl rfl (Do_as (Do_not (p := x7346) rfl) (congrArg Value.bool e7351)) ?_
          refine (RL_nil (thenQ_n (hK7330 _ _ ?_)))
          refine WP_ifb (b := x7350) rfl (fun c7352 => ?_) (fun c7352 => ?_)
          · have hF := iteB_t c7352 hF
            refine WP_seq_k fun K7353 hK7353 => ?_
            refine WP_region ?_
            refine RL_do rfl rfl (Do_assign (v := .int .i64 8) rfl) ?_
            refine (RL_nil (thenQ_n (hK7353 _ _ ?_)))
            have hR := Option.some.inj hF
            subst hR
            refine (WP_ret (thenQ_r (blockQ_r (thenQ_r (thenQ_r (blockQ_r (thenQ_r (post1 (v1 := .int .i64 8) rfl rfl ?_))))))))
            exact ⟨rfl, H.pick [] (by decide)⟩
          · have hF := iteB_f c7352 hF
            refine (WP_skip (thenQ_n (hK7329 _ _ ?_)))
            obtain ⟨k7616, ek7617, hF⟩ := joinO_some hF
            refine WP_seqS [2, 4, 22, 23, 24, 25, 26, 27, 28, 29, 30, 31, 32, 33, 34, 35, 36, 37] (fun (g : Unit) => []) (fun g wl => Hd O w wl S [.fz (.sl rTrack v1 p0)] ∧ k7616 () = some r) ?_ ?_
            · skip
              refine WP_seq_k fun K7618 hK7618 => ?_
              refine WP_region ?_
              refine RL_do rfl rfl (Do_assign (v := .int .i64 0) rfl) ?_
              refine (RL_nil (thenQ_n (hK7618 _ _ ?_)))
              refine WP_block ?_
              unfold F_ref6_CheckTracks_L2 at hF
              obtain ⟨B7789, n7790, eB7791, hF⟩ := loopO_some hF
              refine WP_loopS [2, 4, 22, 23, 24, 25, 26, 27, 28, 29, 30, 31, 32, 33, 34, 35, 36, 37] (fun (g : Nat × Int) => [(4, .int .i64 g.2)]) (fun g wl => Hd O w wl S [.fz (.sl rTrack v1 p0)] ∧ loopN B7789 g.1 g.2 = some r) (fun g => g.1) (n7790, 0) (Sl_cons rfl Sl_nil) ⟨H.pick [0] (by decide), hF⟩ ?_
              clear H hF
              rintro ⟨n7790, g7788⟩ ρ w7793 ⟨H, hF⟩
              obtain ⟨n7794, rfl, hF⟩ := loopN_pos hF
              have hF := loop_body eB7791 hF
              refine WP_seq_k fun K7799 hK7799 => ?_
              refine WP_seq_k fun K7800 hK7800 => ?_
              refine WP_region ?_
              refine RL_do rfl rfl (Do_move (v := .int .i64 g7788) rfl) ?_
              refine RL_do rfl rfl (Do_move (v := .int .i64 g6629) rfl) ?_
              obtain ⟨x7801, e7802, hF⟩ := letO_some hF
              refine RL_do rfl rfl (Do_as (Do_lss (a := g7788) (b := g6629) rfl rfl) (congrArg Value.bool e7802)) ?_
              refine (RL_nil (thenQ_n (hK7800 _ _ ?_)))
              refine WP_ifb (b := x7801) rfl (fun c7803 => ?_) (fun c7803 => ?_)
              · have hF := iteB_t c7803 hF
                refine (WP_skip (thenQ_n (hK7799 _ _ ?_)))
                refine WP_seq_k fun K7840 hK7840 => ?_
                refine WP_block ?_
                refine WP_seq_k fun K7841 hK7841 => ?_
                refine WP_mix [.pure, .pure, .pure, .pure, .read, .pure, .pure, .pure, .pure, .read, .pure] mixed (by kernel_rfl) (by kernel_rfl) (by kernel_rfl) ?_
                refine XL_pure rfl rfl rfl (fun w' => Do_move (v := v1) rfl) ?_
                refine XL_pure rfl rfl rfl (fun w' => Do_move (v := .int .i64 g7788) rfl) ?_
                obtain ⟨x7842, e7843, hF⟩ := bindO_some hF
                obtain ⟨b7844, o7845, c7846, cs7847, q7848, h7851, h7849, h7850, h7852⟩ := rd_at (H.item (i := 0) rfl) e7843
                obtain ⟨v7853, rfl, h7854⟩ := rTrack_open h7851
                have H := H.fzs [.at b7844 (o7845 + g7788.toNat * 4) _, .sl rSample v7853 x7842.Series.Samples] ⟨⟨h7849, h7850, h7852⟩, h7854, trivial⟩
                refine XL_pure rfl rfl rfl (fun w' => Do_idx u22 sz60 q7848 rfl (at_some e7843).1 (at_some e7843).2.1 rfl rfl) ?_
                refine XL_pure rfl rfl rfl (fun w' => fa60_0 rfl) ?_
                refine XL_read rfl rfl rfl (fun w' hw' => Do_load one9 rfl (Cells.get ((H.sees hw').item (i := 1) rfl).2.2 (i := 0) rfl)) ?_
                refine XL_pure rfl rfl rfl (fun w' => Do_move (v := v1) rfl) ?_
                refine XL_pure rfl rfl rfl (fun w' => Do_move (v := .int .i64 g6629) rfl) ?_
                obtain ⟨x7857, e7858, hF⟩ := bindO_some hF
                obtain ⟨b7859, o7860, c7861, cs7862, q7863, h7866, h7864, h7865, h7867⟩ := rd_at (H.item (i := 0) rfl) e7858
                obtain ⟨v7868, rfl, h7869⟩ := rTrack_open h7866
                have H := H.fzs [.at b7859 (o7860 + g6629.toNat * 4) _, .sl rSample v7868 x7857.Series.Samples] ⟨⟨h7864, h7865, h7867⟩, h7869, trivial⟩
                refine XL_pure rfl rfl rfl (fun w' => Do_idx u22 sz60 q7863 rfl (at_some e7858).1 (at_some e7858).2.1 rfl rfl) ?_
                refine XL_pure rfl rfl rfl (fun w' => fa60_0 rfl) ?_
                refine XL_read rfl rfl rfl (fun w' hw' => Do_load one9 rfl (Cells.get ((H.sees hw').item (i := 3) rfl).2.2 (i := 0) rfl)) ?_
                obtain ⟨x7872, e7873, hF⟩ := letO_some hF
                refine XL_pure rfl rfl rfl (fun w' => Do_as (Do_eqls (s1 := x7842.Name) (s2 := x7857.Name) rfl rfl) (congrArg Value.bool e7873)) ?_
                refine XL_nil fun w7874 hS => ?_
                have H := H.sees hS
                refine (thenQ_n (hK7841 _ _ ?_))
                refine WP_ifb (b := x7872) rfl (fun c7875 => ?_) (fun c7875 => ?_)
                · have hF := iteB_t c7875 hF
                  refine WP_seq_k fun K7876 hK7876 => ?_
                  refine WP_region ?_
                  refine RL_do rfl rfl (Do_assign (v := .int .i64 5) rfl) ?_
                  refine (RL_nil (thenQ_n (hK7876 _ _ ?_)))
                  have hR := Option.some.inj hF
                  subst hR
                  refine (WP_ret (blockQ_r (thenQ_r (thenQ_r (blockQ_r (thenQ_r (blockQ_r (thenQ_r (thenQ_r (blockQ_r (thenQ_r (post1 (v1 := .int .i64 5) rfl rfl ?_))))))))))))
                  exact ⟨rfl, H.pick [] (by decide)⟩
                · have hF := iteB_f c7875 hF
                  refine (WP_skip (blockQ_n (thenQ_n (hK7840 _ _ ?_))))
                  refine WP_region ?_
                  refine RL_do rfl rfl (Do_move (v := .int .i64 g7788) rfl) ?_
                  obtain ⟨x7877, e7878, hF⟩ := letO_some hF
                  refine RL_do rfl rfl (Do_add (a := g7788) (b := 1) rfl rfl e7878) ?_
                  refine RL_do rfl rfl (Do_assign (v := .int .i64 x7877) rfl) ?_
                  refine (RL_nil (thenQ_n (And.intro ?_ ?_)))
                  · repeat' (first | with_reducible exact Fr_refl | refine Fr_upd rfl ?_ | refine Fr_over rfl rfl ?_)
                  · exact ⟨(n7794, x7877), (Sl_cons rfl Sl_nil), ⟨H.pick [0] (by decide), hF⟩, Nat.lt_succ_self _⟩
              · have hF := iteB_f c7803 hF
                refine (WP_exit (thenQ_x (thenQ_x (blockQ_eq (thenQ_n (And.intro ?_ ?_))))))
                · repeat' (first | with_reducible exact Fr_refl | refine Fr_upd rfl ?_ | refine Fr_over rfl rfl ?_)
                · exact ⟨(), Sl_nil, ⟨H.pick [0] (by decide), hF⟩⟩
            · rintro _ ρ w7615 ⟨H, hF⟩
              have hF := join_body ek7617 hF
              refine WP_seq_k fun K7904 hK7904 => ?_
              refine WP_seq_k fun K7905 hK7905 => ?_
              refine WP_region ?_
              refine RL_do rfl rfl (Do_move (v := v1) rfl) ?_
              refine RL_do rfl rfl (Do_move (v := .int .i64 g6629) rfl) ?_
              obtain ⟨x7906, e7907, hF⟩ := bindO_some hF
              obtain ⟨b7908, o7909, c7910, cs7911, q7912, h7915, h7913, h7914, h7916⟩ := rd_at (H.item (i := 0) rfl) e7907
              obtain ⟨v7917, rfl, h7918⟩ := rTrack_open h7915
              have H := H.fzs [.at b7908 (o7909 + g6629.toNat * 4) _, .sl rSample v7917 x7906.Series.Samples] ⟨⟨h7913, h7914, h7916⟩, h7918, trivial⟩
              refine RL_do rfl rfl (Do_idx u22 sz60 q7912 rfl (at_some e7907).1 (at_some e7907).2.1 rfl rfl) ?_
              refine RL_do rfl rfl (fa60_1 rfl) ?_
              refine RL_do rfl rfl (Do_as (Do_loads (cs := [.int .i64 x7906.Series.Den, v7917]) agg58 rfl sz58 rfl (Cells.drop (H.item (i := 1) rfl).2.2 1 2)) rfl) ?_
              obtain ⟨x7921, e7922, hF⟩ := bindO_some hF
              refine RL_call rfl rfl (DoC_func en37 rfl) (F_ref5_Check_w x7906.Series v7917 _ e7922 _ _ _ (H.enter [] [2] (by decide) rfl)) ?_
              rintro _ w7923 ⟨rfl, G7924⟩
              have H := H.back0 [2] rfl G7924
              refine ⟨_, rfl, ?_⟩
              refine RL_do rfl rfl (Do_assign (v := .int .i64 x7921) rfl) ?_
              refine (RL_nil (thenQ_n (hK7905 _ _ ?_)))
              refine WP_seq_k fun K7925 hK7925 => ?_
              refine WP_region ?_
              refine RL_do rfl rfl (Do_move (v := .int .i64 x7921) rfl) ?_
              obtain ⟨x7926, e7927, hF⟩ := letO_some hF
              refine RL_do rfl rfl (Do_as (Do_neq (a := x7921) (b := 0) rfl rfl) (congrArg Value.bool e7927)) ?_
              refine (RL_nil (thenQ_n (hK7925 _ _ ?_)))
              refine WP_ifb (b := x7926) rfl (fun c7928 => ?_) (fun c7928 => ?_)
              · have hF := iteB_t c7928 hF
                refine WP_seq_k fun K7929 hK7929 => ?_
                refine WP_region ?_
                refine RL_do rfl rfl (Do_move (v := .int .i64 x7921) rfl) ?_
                refine RL_do rfl rfl (Do_assign (v := .int .i64 x7921) rfl) ?_
                refine (RL_nil (thenQ_n (hK7929 _ _ ?_)))
                have hR := Option.some.inj hF
                subst hR
                refine (WP_ret (thenQ_r (blockQ_r (thenQ_r (thenQ_r (blockQ_r (thenQ_r (post1 (v1 := .int .i64 x7921) rfl rfl ?_))))))))
                exact ⟨rfl, H.pick [] (by decide)⟩
              · have hF := iteB_f c7928 hF
                refine (WP_skip (thenQ_n (hK7904 _ _ ?_)))
                refine WP_seq_k fun K7930 hK7930 => ?_
                refine WP_region ?_
                refine RL_do rfl rfl (Do_move (v := v1) rfl) ?_
                refine RL_do rfl rfl (Do_move (v := .int .i64 g6629) rfl) ?_
                obtain ⟨x7931, e7932, hF⟩ := bindO_some hF
                obtain ⟨b7933, o7934, c7935, cs7936, q7937, h7940, h7938, h7939, h7941⟩ := rd_at (H.item (i := 0) rfl) e7932
                obtain ⟨v7942, rfl, h7943⟩ := rTrack_open h7940
                have H := H.fzs [.at b7933 (o7934 + g6629.toNat * 4) _, .sl rSample v7942 x7931.Series.Samples] ⟨⟨h7938, h7939, h7941⟩, h7943, trivial⟩
                refine RL_do rfl rfl (Do_idx u22 sz60 q7937 rfl (at_some e7932).1 (at_some e7932).2.1 rfl rfl) ?_
                refine RL_do rfl rfl (fa60_2 rfl) ?_
                refine RL_do rfl rfl (Do_load one3 rfl (Cells.get (H.item (i := 3) rfl).2.2 (i := 3) rfl)) ?_
                obtain ⟨x7946, e7947, hF⟩ := bindO_some hF
                refine RL_call rfl rfl (DoC_func en38 rfl) (F_ref6_outside_w x7931.Long 0 1099511627776 _ e7947 _ _ _ (H.enter [] [] (by decide) rfl)) ?_
                rintro _ w7948 ⟨rfl, G7949⟩
                have H := H.back0 [] rfl G7949
                refine ⟨_, rfl, ?_⟩
                refine (RL_nil (thenQ_n (hK7930 _ _ ?_)))
                refine WP_ifb (b := x7946) rfl (fun c7950 => ?_) (fun c7950 => ?_)
                · have hF := iteB_t c7950 hF
                  refine WP_seq_k fun K7951 hK7951 => ?_
                  refine WP_region ?_
                  refine RL_do rfl rfl (Do_assign (v := .int .i64 9) rfl) ?_
                  refine (RL_nil (thenQ_n (hK7951 _ _ ?_)))
                  have hR := Option.some.inj hF
                  subst hR
                  refine (WP_ret (blockQ_r (thenQ_r (thenQ_r (blockQ_r (thenQ_r (post1 (v1 := .int .i64 9) rfl rfl ?_)))))))
                  exact ⟨rfl, H.pick [] (by decide)⟩
                · have hF := iteB_f c7950 hF
                  refine (WP_skip (blockQ_n (thenQ_n (And.intro ?_ ?_))))
                  · repeat' (first | with_reducible exact Fr_refl | refine Fr_upd rfl ?_ | refine Fr_over rfl rfl ?_)
                  · exact ⟨(), Sl_nil, ⟨H.pick [0] (by decide), hF⟩⟩
        · rintro _ ρ w7302 ⟨H, hF⟩
          have hF := join_body ek7304 hF
          refine WP_region ?_
          refine RL_do rfl rfl (Do_move (v := .int .i64 g6629) rfl) ?_
          obtain ⟨x7952, e7953, hF⟩ := letO_some hF
          refine RL_do rfl rfl (Do_add (a := g6629) (b := 1) rfl rfl e7953) ?_
          refine RL_do rfl rfl (Do_assign (v := .int .i64 x7952) rfl) ?_
          refine (RL_nil (thenQ_n (And.intro ?_ ?_)))
          · repeat' (first | with_reducible exact Fr_refl | refine Fr_upd rfl ?_ | refine Fr_over rfl rfl ?_)
          · exact ⟨(n6635, x7952), (Sl_cons rfl Sl_nil), ⟨H.pick [0] (by decide), hF⟩, Nat.lt_succ_self _⟩
      · have hF := iteB_f c6654 hF
        refine (WP_exit (thenQ_x (thenQ_x (blockQ_eq (thenQ_n (And.intro ?_ ?_))))))
        · repeat' (first | with_reducible exact Fr_refl | refine Fr_upd rfl ?_ | refine Fr_over rfl rfl ?_)
        · exact ⟨(), Sl_nil, ⟨H.pick [] (by decide), hF⟩⟩
    · rintro _ ρ w3988 ⟨H, hF⟩
      have hF := join_body ek3990 hF
      refine WP_seq_k fun K7954 hK7954 => ?_
      refine WP_region ?_
      refine RL_do rfl rfl (Do_assign (v := .int .i64 0) rfl) ?_
      refine (RL_nil (thenQ_n (hK7954 _ _ ?_)))
      have hR := Option.some.inj hF
      subst hR
      refine (WP_ret (post1 (v1 := .int .i64 0) rfl rfl ?_))
      exact ⟨rfl, H.pick [] (by decide)⟩
end Go.Proofs.Ytbjhondbheijiaa
