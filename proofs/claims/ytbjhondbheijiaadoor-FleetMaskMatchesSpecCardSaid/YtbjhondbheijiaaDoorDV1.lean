/- Walks: what each function computes, for every argument; no condition but those that stand in the statements. -/
import Derived.Test.YtbjhondbheijiaaDoorDV0
namespace Go.Proofs.YtbjhondbheijiaaDoor.L
open Go.RowKit Go.OB Go.Lf
/- orangebox/event.isWord -/
set_option maxHeartbeats 4000000 in
theorem F_event_isWord_w (p0 : Str) (r : Bool) (hF : F_event_isWord p0 = some r) (O S : List Nat) (w : World) (H : Hd O w w S []) :
    Calls Tryd.prog 81 ([.string (bs p0)] : List Value).toArray w fun e w' => e = .returned (.bool r) ∧ Hd O w w' S [] := by
  unfold F_event_isWord at hF
  refine calls_of_WP 21 Tryd.func81 rfl rfl rfl ?_
  refine WP_seq_k fun K1 hK1 => ?_
  refine WP_region ?_
  refine RL_do rfl rfl (Do_assign (v := .bool false) rfl) ?_
  refine (RL_nil (thenQ_n (hK1 _ _ ?_)))
  refine WP_seq_k fun K70 hK70 => ?_
  refine WP_seq_k fun K71 hK71 => ?_
  refine WP_region ?_
  refine RL_do rfl rfl (Do_move (v := .string (bs p0)) rfl) ?_
  refine (RL_nil (thenQ_n (hK71 _ _ ?_)))
  refine WP_block ?_
  obtain ⟨g134, hF, hK136⟩ := bindO_some hF
  refine WP_seqS [4, 5, 6, 7, 8, 9, 10, 11, 12, 13, 14, 15, 16, 17, 18, 19, 20] (fun (g : Unit) => [(4, .bool g134)]) (fun g wl => Hd O w wl S []) ?_ ?_
  · skip
    refine WP_seq_k fun K137 hK137 => ?_
    refine WP_region ?_
    obtain ⟨x138, e139, hF⟩ := letO_some hF
    refine RL_do rfl rfl (Do_as (Do_eqls (s1 := p0) (s2 := [112, 104, 97, 115, 101]) rfl rfl) (congrArg Value.bool e139)) ?_
    refine RL_do rfl rfl (Do_assign (v := .bool x138) rfl) ?_
    refine (RL_nil (thenQ_n (hK137 _ _ ?_)))
    refine WP_ifb (b := x138) rfl (fun c140 => ?_) (fun c140 => ?_)
    · have hF := iteB_t c140 hF
      have hR := Option.some.inj hF
      subst hR
      refine (WP_skip (thenQ_n (And.intro ?_ ?_)))
      · repeat' (first | with_reducible exact Fr_refl | refine Fr_upd rfl ?_ | refine Fr_over rfl rfl ?_)
      · exact ⟨(), (Sl_cons rfl Sl_nil), H.pick [] (by decide)⟩
    · have hF := iteB_f c140 hF
      refine WP_seq_k fun K141 hK141 => ?_
      refine WP_region ?_
      obtain ⟨x142, e143, hF⟩ := letO_some hF
      refine RL_do rfl rfl (Do_as (Do_eqls (s1 := p0) (s2 := [109, 111, 118, 101]) rfl rfl) (congrArg Value.bool e143)) ?_
      refine RL_do rfl rfl (Do_assign (v := .bool x142) rfl) ?_
      refine (RL_nil (thenQ_n (hK141 _ _ ?_)))
      refine WP_ifb (b := x142) rfl (fun c144 => ?_) (fun c144 => ?_)
      · have hF := iteB_t c144 hF
        have hR := Option.some.inj hF
        subst hR
        refine (WP_skip (thenQ_n (And.intro ?_ ?_)))
        · repeat' (first | with_reducible exact Fr_refl | refine Fr_upd rfl ?_ | refine Fr_over rfl rfl ?_)
        · exact ⟨(), (Sl_cons rfl Sl_nil), H.pick [] (by decide)⟩
      · have hF := iteB_f c144 hF
        refine WP_seq_k fun K145 hK145 => ?_
        refine WP_region ?_
        obtain ⟨x146, e147, hF⟩ := letO_some hF
        refine RL_do rfl rfl (Do_as (Do_eqls (s1 := p0) (s2 := [114, 117, 108, 101]) rfl rfl) (congrArg Value.bool e147)) ?_
        refine RL_do rfl rfl (Do_assign (v := .bool x146) rfl) ?_
        refine (RL_nil (thenQ_n (hK145 _ _ ?_)))
        refine WP_ifb (b := x146) rfl (fun c148 => ?_) (fun c148 => ?_)
        · have hF := iteB_t c148 hF
          have hR := Option.some.inj hF
          subst hR
          refine (WP_skip (thenQ_n (And.intro ?_ ?_)))
          · repeat' (first | with_reducible exact Fr_refl | refine Fr_upd rfl ?_ | refine Fr_over rfl rfl ?_)
          · exact ⟨(), (Sl_cons rfl Sl_nil), H.pick [] (by decide)⟩
        · have hF := iteB_f c148 hF
          refine WP_seq_k fun K149 hK149 => ?_
          refine WP_region ?_
          obtain ⟨x150, e151, hF⟩ := letO_some hF
          refine RL_do rfl rfl (Do_as (Do_eqls (s1 := p0) (s2 := [105, 102]) rfl rfl) (congrArg Value.bool e151)) ?_
          refine RL_do rfl rfl (Do_assign (v := .bool x150) rfl) ?_
          refine (RL_nil (thenQ_n (hK149 _ _ ?_)))
          refine WP_ifb (b := x150) rfl (fun c152 => ?_) (fun c152 => ?_)
          · have hF := iteB_t c152 hF
            have hR := Option.some.inj hF
            subst hR
            refine (WP_skip (thenQ_n (And.intro ?_ ?_)))
            · repeat' (first | with_reducible exact Fr_refl | refine Fr_upd rfl ?_ | refine Fr_over rfl rfl ?_)
            · exact ⟨(), (Sl_cons rfl Sl_nil), H.pick [] (by decide)⟩
          · have hF := iteB_f c152 hF
            refine WP_seq_k fun K153 hK153 => ?_
            refine WP_region ?_
            obtain ⟨x154, e155, hF⟩ := letO_some hF
            refine RL_do rfl rfl (Do_as (Do_eqls (s1 := p0) (s2 := [111, 114]) rfl rfl) (congrArg Value.bool e155)) ?_
            refine RL_do rfl rfl (Do_assign (v := .bool x154) rfl) ?_
            refine (RL_nil (thenQ_n (hK153 _ _ ?_)))
            refine WP_ifb (b := x154) rfl (fun c156 => ?_) (fun c156 => ?_)
            · have hF := iteB_t c156 hF
              have hR := Option.some.inj hF
              subst hR
              refine (WP_skip (thenQ_n (And.intro ?_ ?_)))
              · repeat' (first | with_reducible exact Fr_refl | refine Fr_upd rfl ?_ | refine Fr_over rfl rfl ?_)
              · exact ⟨(), (Sl_cons rfl Sl_nil), H.pick [] (by decide)⟩
            · have hF := iteB_f c156 hF
              refine WP_seq_k fun K157 hK157 => ?_
              refine WP_region ?_
              obtain ⟨x158, e159, hF⟩ := letO_some hF
              refine RL_do rfl rfl (Do_as (Do_eqls (s1 := p0) (s2 := [97, 110, 100]) rfl rfl) (congrArg Value.bool e159)) ?_
              refine RL_do rfl rfl (Do_assign (v := .bool x158) rfl) ?_
              refine (RL_nil (thenQ_n (hK157 _ _ ?_)))
              refine WP_ifb (b := x158) rfl (fun c160 => ?_) (fun c160 => ?_)
              · have hF := iteB_t c160 hF
                have hR := Option.some.inj hF
                subst hR
                refine (WP_skip (thenQ_n (And.intro ?_ ?_)))
                · repeat' (first | with_reducible exact Fr_refl | refine Fr_upd rfl ?_ | refine Fr_over rfl rfl ?_)
                · exact ⟨(), (Sl_cons rfl Sl_nil), H.pick [] (by decide)⟩
              · have hF := iteB_f c160 hF
                refine WP_seq_k fun K161 hK161 => ?_
                refine WP_region ?_
                obtain ⟨x162, e163, hF⟩ := letO_some hF
                refine RL_do rfl rfl (Do_as (Do_eqls (s1 := p0) (s2 := [116, 114, 117, 101]) rfl rfl) (congrArg Value.bool e163)) ?_
                refine RL_do rfl rfl (Do_assign (v := .bool x162) rfl) ?_
                refine (RL_nil (thenQ_n (hK161 _ _ ?_)))
                refine WP_ifb (b := x162) rfl (fun c164 => ?_) (fun c164 => ?_)
                · have hF := iteB_t c164 hF
                  have hR := Option.some.inj hF
                  subst hR
                  refine (WP_skip (thenQ_n (And.intro ?_ ?_)))
                  · repeat' (first | with_reducible exact Fr_refl | refine Fr_upd rfl ?_ | refine Fr_over rfl rfl ?_)
                  · exact ⟨(), (Sl_cons rfl Sl_nil), H.pick [] (by decide)⟩
                · have hF := iteB_f c164 hF
                  refine WP_seq_k fun K165 hK165 => ?_
                  refine WP_region ?_
                  obtain ⟨x166, e167, hF⟩ := letO_some hF
                  refine RL_do rfl rfl (Do_as (Do_eqls (s1 := p0) (s2 := [102, 97, 108, 115, 101]) rfl rfl) (congrArg Value.bool e167)) ?_
                  refine RL_do rfl rfl (Do_assign (v := .bool x166) rfl) ?_
                  refine (RL_nil (thenQ_n (hK165 _ _ ?_)))
                  refine WP_ifb (b := x166) rfl (fun c168 => ?_) (fun c168 => ?_)
                  · have hF := iteB_t c168 hF
                    have hR := Option.some.inj hF
                    subst hR
                    refine (WP_skip (thenQ_n (And.intro ?_ ?_)))
                    · repeat' (first | with_reducible exact Fr_refl | refine Fr_upd rfl ?_ | refine Fr_over rfl rfl ?_)
                    · exact ⟨(), (Sl_cons rfl Sl_nil), H.pick [] (by decide)⟩
                  · have hF := iteB_f c168 hF
                    refine WP_seq_k fun K169 hK169 => ?_
                    refine WP_region ?_
                    obtain ⟨x170, e171, hF⟩ := letO_some hF
                    refine RL_do rfl rfl (Do_as (Do_eqls (s1 := p0) (s2 := [115, 116, 101, 97, 100, 121]) rfl rfl) (congrArg Value.bool e171)) ?_
                    refine RL_do rfl rfl (Do_assign (v := .bool x170) rfl) ?_
                    refine (RL_nil (thenQ_n (hK169 _ _ ?_)))
                    refine WP_ifb (b := x170) rfl (fun c172 => ?_) (fun c172 => ?_)
                    · have hF := iteB_t c172 hF
                      have hR := Option.some.inj hF
                      subst hR
                      refine (WP_skip (thenQ_n (And.intro ?_ ?_)))
                      · repeat' (first | with_reducible exact Fr_refl | refine Fr_upd rfl ?_ | refine Fr_over rfl rfl ?_)
                      · exact ⟨(), (Sl_cons rfl Sl_nil), H.pick [] (by decide)⟩
                    · have hF := iteB_f c172 hF
                      refine WP_seq_k fun K173 hK173 => ?_
                      refine WP_region ?_
                      obtain ⟨x174, e175, hF⟩ := letO_some hF
                      refine RL_do rfl rfl (Do_as (Do_eqls (s1 := p0) (s2 := [110, 111, 116]) rfl rfl) (congrArg Value.bool e175)) ?_
                      refine RL_do rfl rfl (Do_assign (v := .bool x174) rfl) ?_
                      refine (RL_nil (thenQ_n (hK173 _ _ ?_)))
                      refine WP_ifb (b := x174) rfl (fun c176 => ?_) (fun c176 => ?_)
                      · have hF := iteB_t c176 hF
                        have hR := Option.some.inj hF
                        subst hR
                        refine (WP_skip (thenQ_n (And.intro ?_ ?_)))
                        · repeat' (first | with_reducible exact Fr_refl | refine Fr_upd rfl ?_ | refine Fr_over rfl rfl ?_)
                        · exact ⟨(), (Sl_cons rfl Sl_nil), H.pick [] (by decide)⟩
                      · have hF := iteB_f c176 hF
                        refine WP_seq_k fun K177 hK177 => ?_
                        refine WP_region ?_
                        obtain ⟨x178, e179, hF⟩ := letO_some hF
                        refine RL_do rfl rfl (Do_as (Do_eqls (s1 := p0) (s2 := [102, 111, 114]) rfl rfl) (congrArg Value.bool e179)) ?_
                        refine RL_do rfl rfl (Do_assign (v := .bool x178) rfl) ?_
                        refine (RL_nil (thenQ_n (hK177 _ _ ?_)))
                        refine WP_ifb (b := x178) rfl (fun c180 => ?_) (fun c180 => ?_)
                        · have hF := iteB_t c180 hF
                          have hR := Option.some.inj hF
                          subst hR
                          refine (WP_skip (thenQ_n (And.intro ?_ ?_)))
                          · repeat' (first | with_reducible exact Fr_refl | refine Fr_upd rfl ?_ | refine Fr_over rfl rfl ?_)
                          · exact ⟨(), (Sl_cons rfl Sl_nil), H.pick [] (by decide)⟩
                        · have hF := iteB_f c180 hF
                          refine WP_seq_k fun K181 hK181 => ?_
                          refine WP_region ?_
                          obtain ⟨x182, e183, hF⟩ := letO_some hF
                          refine RL_do rfl rfl (Do_as (Do_eqls (s1 := p0) (s2 := [119, 105, 116, 104, 105, 110]) rfl rfl) (congrArg Value.bool e183)) ?_
                          refine RL_do rfl rfl (Do_assign (v := .bool x182) rfl) ?_
                          refine (RL_nil (thenQ_n (hK181 _ _ ?_)))
                          refine WP_ifb (b := x182) rfl (fun c184 => ?_) (fun c184 => ?_)
                          · have hF := iteB_t c184 hF
                            have hR := Option.some.inj hF
                            subst hR
                            refine (WP_skip (thenQ_n (And.intro ?_ ?_)))
                            · repeat' (first | with_reducible exact Fr_refl | refine Fr_upd rfl ?_ | refine Fr_over rfl rfl ?_)
                            · exact ⟨(), (Sl_cons rfl Sl_nil), H.pick [] (by decide)⟩
                          · have hF := iteB_f c184 hF
                            refine WP_seq_k fun K185 hK185 => ?_
                            refine WP_region ?_
                            obtain ⟨x186, e187, hF⟩ := letO_some hF
                            refine RL_do rfl rfl (Do_as (Do_eqls (s1 := p0) (s2 := [99, 111, 117, 110, 116]) rfl rfl) (congrArg Value.bool e187)) ?_
                            refine RL_do rfl rfl (Do_assign (v := .bool x186) rfl) ?_
                            refine (RL_nil (thenQ_n (hK185 _ _ ?_)))
                            refine WP_ifb (b := x186) rfl (fun c188 => ?_) (fun c188 => ?_)
                            · have hF := iteB_t c188 hF
                              have hR := Option.some.inj hF
                              subst hR
                              refine (WP_skip (thenQ_n (And.intro ?_ ?_)))
                              · repeat' (first | with_reducible exact Fr_refl | refine Fr_upd rfl ?_ | refine Fr_over rfl rfl ?_)
                              · exact ⟨(), (Sl_cons rfl Sl_nil), H.pick [] (by decide)⟩
                            · have hF := iteB_f c188 hF
                              refine WP_seq_k fun K189 hK189 => ?_
                              refine WP_region ?_
                              obtain ⟨x190, e191, hF⟩ := letO_some hF
                              refine RL_do rfl rfl (Do_as (Do_eqls (s1 := p0) (s2 := [111, 102]) rfl rfl) (congrArg Value.bool e191)) ?_
                              refine RL_do rfl rfl (Do_assign (v := .bool x190) rfl) ?_
                              refine (RL_nil (thenQ_n (hK189 _ _ ?_)))
                              refine WP_ifb (b := x190) rfl (fun c192 => ?_) (fun c192 => ?_)
                              · have hF := iteB_t c192 hF
                                have hR := Option.some.inj hF
                                subst hR
                                refine (WP_skip (thenQ_n (And.intro ?_ ?_)))
                                · repeat' (first | with_reducible exact Fr_refl | refine Fr_upd rfl ?_ | refine Fr_over rfl rfl ?_)
                                · exact ⟨(), (Sl_cons rfl Sl_nil), H.pick [] (by decide)⟩
                              · have hF := iteB_f c192 hF
                                refine WP_seq_k fun K193 hK193 => ?_
                                refine WP_region ?_
                                obtain ⟨x194, e195, hF⟩ := letO_some hF
                                refine RL_do rfl rfl (Do_as (Do_eqls (s1 := p0) (s2 := [114, 105, 115, 101, 115]) rfl rfl) (congrArg Value.bool e195)) ?_
                                refine RL_do rfl rfl (Do_assign (v := .bool x194) rfl) ?_
                                refine (RL_nil (thenQ_n (hK193 _ _ ?_)))
                                refine WP_ifb (b := x194) rfl (fun c196 => ?_) (fun c196 => ?_)
                                · have hF := iteB_t c196 hF
                                  have hR := Option.some.inj hF
                                  subst hR
                                  refine (WP_skip (thenQ_n (And.intro ?_ ?_)))
                                  · repeat' (first | with_reducible exact Fr_refl | refine Fr_upd rfl ?_ | refine Fr_over rfl rfl ?_)
                                  · exact ⟨(), (Sl_cons rfl Sl_nil), H.pick [] (by decide)⟩
                                · have hF := iteB_f c196 hF
                                  refine WP_region ?_
                                  obtain ⟨x197, e198, hF⟩ := letO_some hF
                                  refine RL_do rfl rfl (Do_as (Do_eqls (s1 := p0) (s2 := [115, 105, 110, 99, 101]) rfl rfl) (congrArg Value.bool e198)) ?_
                                  refine RL_do rfl rfl (Do_assign (v := .bool x197) rfl) ?_
                                  have hR := Option.some.inj hF
                                  subst hR
                                  refine (RL_nil (thenQ_n (And.intro ?_ ?_)))
                                  · repeat' (first | with_reducible exact Fr_refl | refine Fr_upd rfl ?_ | refine Fr_over rfl rfl ?_)
                                  · exact ⟨(), (Sl_cons rfl Sl_nil), H.pick [] (by decide)⟩
  · rintro _ ρ w135 H
    have hF := hK136
    refine WP_ifb (b := g134) rfl (fun c199 => ?_) (fun c199 => ?_)
    · have hF := iteB_t c199 hF
      refine WP_seq_k fun K200 hK200 => ?_
      refine WP_region ?_
      refine RL_do rfl rfl (Do_assign (v := .bool true) rfl) ?_
      refine (RL_nil (thenQ_n (hK200 _ _ ?_)))
      have hR := Option.some.inj hF
      subst hR
      refine (WP_ret (blockQ_r (thenQ_r (post1 (v1 := .bool true) rfl rfl ?_))))
      exact ⟨rfl, H.pick [] (by decide)⟩
    · have hF := iteB_f c199 hF
      refine (WP_skip (blockQ_n (thenQ_n (hK70 _ _ ?_))))
      refine WP_seq_k fun K201 hK201 => ?_
      refine WP_region ?_
      refine RL_do rfl rfl (Do_assign (v := .bool false) rfl) ?_
      refine (RL_nil (thenQ_n (hK201 _ _ ?_)))
      have hR := Option.some.inj hF
      subst hR
      refine (WP_ret (post1 (v1 := .bool false) rfl rfl ?_))
      exact ⟨rfl, H.pick [] (by decide)⟩
end Go.Proofs.YtbjhondbheijiaaDoor.L
namespace Go.Proofs.YtbjhondbheijiaaDoor.L
open Go.RowKit Go.OB Go.Lf
/- orangebox/event.nameByte -/
set_option maxHeartbeats 4000000 in
theorem F_event_nameByte_w (p0 : Int) (r : Bool) (hF : F_event_nameByte p0 = some r) (O S : List Nat) (w : World) (H : Hd O w w S []) :
    Calls Tryd.prog 82 ([.int .u8 p0] : List Value).toArray w fun e w' => e = .returned (.bool r) ∧ Hd O w w' S [] := by
  unfold F_event_nameByte at hF
  refine calls_of_WP 21 Tryd.func82 rfl rfl rfl ?_
  refine WP_seq_k fun K1 hK1 => ?_
  refine WP_region ?_
  refine RL_do rfl rfl (Do_assign (v := .bool false) rfl) ?_
  refine (RL_nil (thenQ_n (hK1 _ _ ?_)))
  obtain ⟨g28, hF, hK30⟩ := bindO_some hF
  refine WP_seqS [2, 3, 4, 5, 6, 7, 8, 9, 10, 11, 12, 13, 14, 15, 16, 17, 18, 19, 20] (fun (g : Unit) => [(2, .bool g28)]) (fun g wl => Hd O w wl S []) ?_ ?_
  · skip
    refine WP_region ?_
    refine RL_do rfl rfl (Do_move (v := .int .u8 p0) rfl) ?_
    obtain ⟨x31, e32, hF⟩ := letO_some hF
    refine RL_do rfl rfl (Do_as (Do_geq (a := p0) (b := 97) rfl rfl) (congrArg Value.bool e32)) ?_
    refine RL_splitb (b := x31) rfl rfl rfl (fun c33 => ?_) (fun c33 => ?_)
    · have hF := iteB_t c33 hF
      refine RL_do rfl rfl (Do_move (v := .int .u8 p0) rfl) ?_
      obtain ⟨x34, e35, hF⟩ := letO_some hF
      refine RL_do rfl rfl (Do_as (Do_leq (a := p0) (b := 122) rfl rfl) (congrArg Value.bool e35)) ?_
      refine RL_do rfl rfl (Do_pick_t (v := .bool x34) rfl rfl) ?_
      refine RL_splitb (b := x34) rfl rfl rfl (fun c36 => ?_) (fun c36 => ?_)
      · have hF := iteB_t c36 hF
        refine RL_off rfl rfl ?_
        refine RL_off rfl rfl ?_
        refine RL_off rfl rfl ?_
        refine RL_off rfl rfl ?_
        refine RL_off rfl rfl ?_
        refine RL_off rfl rfl ?_
        refine RL_do rfl rfl (Do_pick_t (v := .bool true) rfl rfl) ?_
        refine RL_do rfl rfl (Do_move (v := .bool true) rfl) ?_
        refine RL_off rfl rfl ?_
        refine RL_off rfl rfl ?_
        refine RL_do rfl rfl (Do_pick_t (v := .bool true) rfl rfl) ?_
        refine RL_do rfl rfl (Do_assign (v := .bool true) rfl) ?_
        have hR := Option.some.inj hF
        subst hR
        refine (RL_nil (thenQ_n (And.intro ?_ ?_)))
        · repeat' (first | with_reducible exact Fr_refl | refine Fr_upd rfl ?_ | refine Fr_over rfl rfl ?_)
        · exact ⟨(), (Sl_cons rfl Sl_nil), H.pick [] (by decide)⟩
      · have hF := iteB_f c36 hF
        refine RL_do rfl rfl (Do_move (v := .int .u8 p0) rfl) ?_
        obtain ⟨x37, e38, hF⟩ := letO_some hF
        refine RL_do rfl rfl (Do_as (Do_geq (a := p0) (b := 48) rfl rfl) (congrArg Value.bool e38)) ?_
        refine RL_splitb (b := x37) rfl rfl rfl (fun c39 => ?_) (fun c39 => ?_)
        · have hF := iteB_t c39 hF
          refine RL_do rfl rfl (Do_move (v := .int .u8 p0) rfl) ?_
          obtain ⟨x40, e41, hF⟩ := letO_some hF
          refine RL_do rfl rfl (Do_as (Do_leq (a := p0) (b := 57) rfl rfl) (congrArg Value.bool e41)) ?_
          refine RL_do rfl rfl (Do_pick_t (v := .bool x40) rfl rfl) ?_
          refine RL_do rfl rfl (Do_pick_f (v := .bool x40) rfl rfl) ?_
          refine RL_splitb (b := x40) rfl rfl rfl (fun c42 => ?_) (fun c42 => ?_)
          · have hF := iteB_t c42 hF
            refine RL_off rfl rfl ?_
            refine RL_off rfl rfl ?_
            refine RL_do rfl rfl (Do_pick_t (v := .bool true) rfl rfl) ?_
            refine RL_do rfl rfl (Do_assign (v := .bool true) rfl) ?_
            have hR := Option.some.inj hF
            subst hR
            refine (RL_nil (thenQ_n (And.intro ?_ ?_)))
            · repeat' (first | with_reducible exact Fr_refl | refine Fr_upd rfl ?_ | refine Fr_over rfl rfl ?_)
            · exact ⟨(), (Sl_cons rfl Sl_nil), H.pick [] (by decide)⟩
          · have hF := iteB_f c42 hF
            refine RL_do rfl rfl (Do_move (v := .int .u8 p0) rfl) ?_
            obtain ⟨x43, e44, hF⟩ := letO_some hF
            refine RL_do rfl rfl (Do_as (Do_eql (a := p0) (b := 45) rfl rfl) (congrArg Value.bool e44)) ?_
            refine RL_do rfl rfl (Do_pick_f (v := .bool x43) rfl rfl) ?_
            refine RL_do rfl rfl (Do_assign (v := .bool x43) rfl) ?_
            have hR := Option.some.inj hF
            subst hR
            refine (RL_nil (thenQ_n (And.intro ?_ ?_)))
            · repeat' (first | with_reducible exact Fr_refl | refine Fr_upd rfl ?_ | refine Fr_over rfl rfl ?_)
            · exact ⟨(), (Sl_cons rfl Sl_nil), H.pick [] (by decide)⟩
        · have hF := iteB_f c39 hF
          refine RL_off rfl rfl ?_
          refine RL_off rfl rfl ?_
          refine RL_do rfl rfl (Do_pick_f (v := .bool false) rfl rfl) ?_
          refine RL_do rfl rfl (Do_pick_f (v := .bool false) rfl rfl) ?_
          refine RL_do rfl rfl (Do_move (v := .bool false) rfl) ?_
          refine RL_do rfl rfl (Do_move (v := .int .u8 p0) rfl) ?_
          obtain ⟨x45, e46, hF⟩ := letO_some hF
          refine RL_do rfl rfl (Do_as (Do_eql (a := p0) (b := 45) rfl rfl) (congrArg Value.bool e46)) ?_
          refine RL_do rfl rfl (Do_pick_f (v := .bool x45) rfl rfl) ?_
          refine RL_do rfl rfl (Do_assign (v := .bool x45) rfl) ?_
          have hR := Option.some.inj hF
          subst hR
          refine (RL_nil (thenQ_n (And.intro ?_ ?_)))
          · repeat' (first | with_reducible exact Fr_refl | refine Fr_upd rfl ?_ | refine Fr_over rfl rfl ?_)
          · exact ⟨(), (Sl_cons rfl Sl_nil), H.pick [] (by decide)⟩
    · have hF := iteB_f c33 hF
      refine RL_off rfl rfl ?_
      refine RL_off rfl rfl ?_
      refine RL_do rfl rfl (Do_pick_f (v := .bool false) rfl rfl) ?_
      refine RL_do rfl rfl (Do_move (v := .bool false) rfl) ?_
      refine RL_do rfl rfl (Do_move (v := .int .u8 p0) rfl) ?_
      obtain ⟨x47, e48, hF⟩ := letO_some hF
      refine RL_do rfl rfl (Do_as (Do_geq (a := p0) (b := 48) rfl rfl) (congrArg Value.bool e48)) ?_
      refine RL_splitb (b := x47) rfl rfl rfl (fun c49 => ?_) (fun c49 => ?_)
      · have hF := iteB_t c49 hF
        refine RL_do rfl rfl (Do_move (v := .int .u8 p0) rfl) ?_
        obtain ⟨x50, e51, hF⟩ := letO_some hF
        refine RL_do rfl rfl (Do_as (Do_leq (a := p0) (b := 57) rfl rfl) (congrArg Value.bool e51)) ?_
        refine RL_do rfl rfl (Do_pick_t (v := .bool x50) rfl rfl) ?_
        refine RL_do rfl rfl (Do_pick_f (v := .bool x50) rfl rfl) ?_
        refine RL_splitb (b := x50) rfl rfl rfl (fun c52 => ?_) (fun c52 => ?_)
        · have hF := iteB_t c52 hF
          refine RL_off rfl rfl ?_
          refine RL_off rfl rfl ?_
          refine RL_do rfl rfl (Do_pick_t (v := .bool true) rfl rfl) ?_
          refine RL_do rfl rfl (Do_assign (v := .bool true) rfl) ?_
          have hR := Option.some.inj hF
          subst hR
          refine (RL_nil (thenQ_n (And.intro ?_ ?_)))
          · repeat' (first | with_reducible exact Fr_refl | refine Fr_upd rfl ?_ | refine Fr_over rfl rfl ?_)
          · exact ⟨(), (Sl_cons rfl Sl_nil), H.pick [] (by decide)⟩
        · have hF := iteB_f c52 hF
          refine RL_do rfl rfl (Do_move (v := .int .u8 p0) rfl) ?_
          obtain ⟨x53, e54, hF⟩ := letO_some hF
          refine RL_do rfl rfl (Do_as (Do_eql (a := p0) (b := 45) rfl rfl) (congrArg Value.bool e54)) ?_
          refine RL_do rfl rfl (Do_pick_f (v := .bool x53) rfl rfl) ?_
          refine RL_do rfl rfl (Do_assign (v := .bool x53) rfl) ?_
          have hR := Option.some.inj hF
          subst hR
          refine (RL_nil (thenQ_n (And.intro ?_ ?_)))
          · repeat' (first | with_reducible exact Fr_refl | refine Fr_upd rfl ?_ | refine Fr_over rfl rfl ?_)
          · exact ⟨(), (Sl_cons rfl Sl_nil), H.pick [] (by decide)⟩
      · have hF := iteB_f c49 hF
        refine RL_off rfl rfl ?_
        refine RL_off rfl rfl ?_
        refine RL_do rfl rfl (Do_pick_f (v := .bool false) rfl rfl) ?_
        refine RL_do rfl rfl (Do_pick_f (v := .bool false) rfl rfl) ?_
        refine RL_do rfl rfl (Do_move (v := .bool false) rfl) ?_
        refine RL_do rfl rfl (Do_move (v := .int .u8 p0) rfl) ?_
        obtain ⟨x55, e56, hF⟩ := letO_some hF
        refine RL_do rfl rfl (Do_as (Do_eql (a := p0) (b := 45) rfl rfl) (congrArg Value.bool e56)) ?_
        refine RL_do rfl rfl (Do_pick_f (v := .bool x55) rfl rfl) ?_
        refine RL_do rfl rfl (Do_assign (v := .bool x55) rfl) ?_
        have hR := Option.some.inj hF
        subst hR
        refine (RL_nil (thenQ_n (And.intro ?_ ?_)))
        · repeat' (first | with_reducible exact Fr_refl | refine Fr_upd rfl ?_ | refine Fr_over rfl rfl ?_)
        · exact ⟨(), (Sl_cons rfl Sl_nil), H.pick [] (by decide)⟩
  · rintro _ ρ w29 H
    have hF := hK30
    have hR := Option.some.inj hF
    subst hR
    refine (WP_ret (post1 (v1 := .bool g28) rfl rfl ?_))
    exact ⟨rfl, H.pick [] (by decide)⟩
end Go.Proofs.YtbjhondbheijiaaDoor.L
namespace Go.Proofs.YtbjhondbheijiaaDoor.L
open Go.RowKit Go.OB Go.Lf
/- orangebox/event.isName -/
set_option maxHeartbeats 4000000 in
theorem F_event_isName_w (p0 : Str) (r : Bool) (hF : F_event_isName p0 = some r) (O S : List Nat) (w : World) (H : Hd O w w S []) :
    Calls Tryd.prog 63 ([.string (bs p0)] : List Value).toArray w fun e w' => e = .returned (.bool r) ∧ Hd O w w' S [] := by
  unfold F_event_isName at hF
  refine calls_of_WP 33 Tryd.func63 rfl rfl rfl ?_
  refine WP_seq_k fun K1 hK1 => ?_
  refine WP_region ?_
  refine RL_do rfl rfl (Do_assign (v := .bool false) rfl) ?_
  refine (RL_nil (thenQ_n (hK1 _ _ ?_)))
  refine WP_seq_k fun K32 hK32 => ?_
  obtain ⟨g58, hF, hK60⟩ := bindO_some hF
  refine WP_seqS [4, 5, 6, 7, 8, 9, 10, 11, 12, 13, 14, 15, 16, 17, 18, 19, 20, 21] (fun (g : Unit) => [(21, .bool g58)]) (fun g wl => Hd O w wl S []) ?_ ?_
  · skip
    refine WP_region ?_
    refine RL_do rfl rfl (Do_move (v := .string (bs p0)) rfl) ?_
    obtain ⟨x61, e62, hF⟩ := letO_some hF
    refine RL_do rfl rfl (Do_as (Do_slen (s1 := p0) u9 rfl) (congrArg (Value.int .i64) e62)) ?_
    have H63 := H
    obtain ⟨x64, e65, hF⟩ := bindO_some hF
    refine RL_call rfl rfl (DoC_func en67 rfl) (F_event_within_w x61 1 30 _ e65 _ _ _ (H.enter [] [] (by decide) rfl)) ?_
    rintro _ w66 ⟨rfl, G67⟩
    have H := H63.step (G67.only : Only [] _ _)
    refine ⟨_, rfl, ?_⟩
    obtain ⟨x68, e69, hF⟩ := letO_some hF
    refine RL_do rfl rfl (Do_as (Do_not (p := x64) rfl) (congrArg Value.bool e69)) ?_
    refine RL_splitb (b := x68) rfl rfl rfl (fun c70 => ?_) (fun c70 => ?_)
    · have hF := iteB_t c70 hF
      refine RL_off rfl rfl ?_
      refine RL_off rfl rfl ?_
      refine RL_off rfl rfl ?_
      refine RL_do rfl rfl (Do_pick_t (v := .bool true) rfl rfl) ?_
      refine RL_do rfl rfl (Do_move (v := .bool true) rfl) ?_
      refine RL_off rfl rfl ?_
      refine RL_off rfl rfl ?_
      refine RL_off rfl rfl ?_
      refine RL_do rfl rfl (Do_pick_t (v := .bool true) rfl rfl) ?_
      refine RL_do rfl rfl (Do_move (v := .bool true) rfl) ?_
      refine RL_off rfl rfl ?_
      refine RL_off rfl rfl ?_
      refine RL_do rfl rfl (Do_pick_t (v := .bool true) rfl rfl) ?_
      have hR := Option.some.inj hF
      subst hR
      refine (RL_nil (thenQ_n (And.intro ?_ ?_)))
      · repeat' (first | with_reducible exact Fr_refl | refine Fr_upd rfl ?_ | refine Fr_over rfl rfl ?_)
      · exact ⟨(), (Sl_cons rfl Sl_nil), H.pick [] (by decide)⟩
    · have hF := iteB_f c70 hF
      refine RL_do rfl rfl (Do_move (v := .string (bs p0)) rfl) ?_
      obtain ⟨x71, e72, hF⟩ := bindO_some hF
      refine RL_do rfl rfl (Do_sidx (s1 := p0) (q := 0) u9 rfl rfl e72) ?_
      obtain ⟨x73, e74, hF⟩ := letO_some hF
      refine RL_do rfl rfl (Do_as (Do_lss (a := x71) (b := 97) rfl rfl) (congrArg Value.bool e74)) ?_
      refine RL_do rfl rfl (Do_pick_f (v := .bool x73) rfl rfl) ?_
      refine RL_splitb (b := x73) rfl rfl rfl (fun c75 => ?_) (fun c75 => ?_)
      · have hF := iteB_t c75 hF
        refine RL_off rfl rfl ?_
        refine RL_off rfl rfl ?_
        refine RL_off rfl rfl ?_
        refine RL_do rfl rfl (Do_pick_t (v := .bool true) rfl rfl) ?_
        refine RL_do rfl rfl (Do_move (v := .bool true) rfl) ?_
        refine RL_off rfl rfl ?_
        refine RL_off rfl rfl ?_
        refine RL_do rfl rfl (Do_pick_t (v := .bool true) rfl rfl) ?_
        have hR := Option.some.inj hF
        subst hR
        refine (RL_nil (thenQ_n (And.intro ?_ ?_)))
        · repeat' (first | with_reducible exact Fr_refl | refine Fr_upd rfl ?_ | refine Fr_over rfl rfl ?_)
        · exact ⟨(), (Sl_cons rfl Sl_nil), H.pick [] (by decide)⟩
      · have hF := iteB_f c75 hF
        refine RL_do rfl rfl (Do_move (v := .string (bs p0)) rfl) ?_
        obtain ⟨x76, e77, hF⟩ := bindO_some hF
        refine RL_do rfl rfl (Do_sidx (s1 := p0) (q := 0) u9 rfl rfl e77) ?_
        obtain ⟨x78, e79, hF⟩ := letO_some hF
        refine RL_do rfl rfl (Do_as (Do_gtr (a := x76) (b := 122) rfl rfl) (congrArg Value.bool e79)) ?_
        refine RL_do rfl rfl (Do_pick_f (v := .bool x78) rfl rfl) ?_
        refine RL_splitb (b := x78) rfl rfl rfl (fun c80 => ?_) (fun c80 => ?_)
        · have hF := iteB_t c80 hF
          refine RL_off rfl rfl ?_
          refine RL_off rfl rfl ?_
          refine RL_do rfl rfl (Do_pick_t (v := .bool true) rfl rfl) ?_
          have hR := Option.some.inj hF
          subst hR
          refine (RL_nil (thenQ_n (And.intro ?_ ?_)))
          · repeat' (first | with_reducible exact Fr_refl | refine Fr_upd rfl ?_ | refine Fr_over rfl rfl ?_)
          · exact ⟨(), (Sl_cons rfl Sl_nil), H.pick [] (by decide)⟩
        · have hF := iteB_f c80 hF
          refine RL_do rfl rfl (Do_move (v := .string (bs p0)) rfl) ?_
          have H81 := H
          obtain ⟨x82, e83, hF⟩ := bindO_some hF
          refine RL_call rfl rfl (DoC_func en81 rfl) (F_event_isWord_w p0 _ e83 _ _ _ (H.enter [] [] (by decide) rfl)) ?_
          rintro _ w84 ⟨rfl, G85⟩
          have H := H81.step (G85.only : Only [] _ _)
          refine ⟨_, rfl, ?_⟩
          refine RL_do rfl rfl (Do_pick_f (v := .bool x82) rfl rfl) ?_
          have hR := Option.some.inj hF
          subst hR
          refine (RL_nil (thenQ_n (And.intro ?_ ?_)))
          · repeat' (first | with_reducible exact Fr_refl | refine Fr_upd rfl ?_ | refine Fr_over rfl rfl ?_)
          · exact ⟨(), (Sl_cons rfl Sl_nil), H.pick [] (by decide)⟩
  · rintro _ ρ w59 H
    have hF := hK60
    refine WP_ifb (b := g58) rfl (fun c86 => ?_) (fun c86 => ?_)
    · have hF := iteB_t c86 hF
      refine WP_seq_k fun K87 hK87 => ?_
      refine WP_region ?_
      refine RL_do rfl rfl (Do_assign (v := .bool false) rfl) ?_
      refine (RL_nil (thenQ_n (hK87 _ _ ?_)))
      have hR := Option.some.inj hF
      subst hR
      refine (WP_ret (thenQ_r (post1 (v1 := .bool false) rfl rfl ?_)))
      exact ⟨rfl, H.pick [] (by decide)⟩
    · have hF := iteB_f c86 hF
      refine (WP_skip (thenQ_n (hK32 _ _ ?_)))
      obtain ⟨k169, ek170, hF⟩ := joinO_some hF
      refine WP_seqS [2, 3, 22, 23, 24, 25, 26, 27, 28, 29, 30, 31, 32] (fun (g : Unit) => []) (fun g wl => Hd O w wl S [] ∧ k169 () = some r) ?_ ?_
      · skip
        refine WP_seq_k fun K171 hK171 => ?_
        refine WP_region ?_
        refine RL_do rfl rfl (Do_move (v := .string (bs p0)) rfl) ?_
        obtain ⟨x172, e173, hF⟩ := letO_some hF
        refine RL_do rfl rfl (Do_as (Do_slen (s1 := p0) u9 rfl) (congrArg (Value.int .i64) e173)) ?_
        refine RL_do rfl rfl (Do_move (v := .int .i64 0) rfl) ?_
        refine (RL_nil (thenQ_n (hK171 _ _ ?_)))
        refine WP_block ?_
        unfold F_event_isName_L1 at hF
        obtain ⟨B246, n247, eB248, hF⟩ := loopO_some hF
        refine WP_loopS [2, 3, 24, 25, 26, 27, 28, 29, 30, 31, 32] (fun (g : Nat × Int) => [(24, .int .i64 g.2)]) (fun g wl => Hd O w wl S [] ∧ loopN B246 g.1 g.2 = some r) (fun g => g.1) (n247, 0) (Sl_cons rfl Sl_nil) ⟨H.pick [] (by decide), hF⟩ ?_
        clear H hF
        rintro ⟨n247, g245⟩ ρ w250 ⟨H, hF⟩
        obtain ⟨n251, rfl, hF⟩ := loopN_pos hF
        have hF := loop_body eB248 hF
        refine WP_seq_k fun K252 hK252 => ?_
        refine WP_region ?_
        obtain ⟨x253, e254, hF⟩ := letO_some hF
        refine RL_do rfl rfl (Do_as (Do_lss (a := g245) (b := x172) rfl rfl) (congrArg Value.bool e254)) ?_
        refine (RL_nil (thenQ_n (hK252 _ _ ?_)))
        refine WP_seq_k fun K256 hK256 => ?_
        refine WP_ifb (b := x253) rfl (fun c257 => ?_) (fun c257 => ?_)
        · have hF := iteB_t c257 hF
          refine (WP_skip (thenQ_n (hK256 _ _ ?_)))
          refine WP_seq_k fun K271 hK271 => ?_
          refine WP_block ?_
          refine WP_seq_k fun K272 hK272 => ?_
          refine WP_region ?_
          refine RL_do rfl rfl (Do_move (v := .int .i64 g245) rfl) ?_
          refine RL_do rfl rfl (Do_assign (v := .int .i64 g245) rfl) ?_
          refine (RL_nil (thenQ_n (hK272 _ _ ?_)))
          refine WP_seq_k fun K273 hK273 => ?_
          refine WP_region ?_
          refine RL_do rfl rfl (Do_move (v := .string (bs p0)) rfl) ?_
          refine RL_do rfl rfl (Do_move (v := .int .i64 g245) rfl) ?_
          obtain ⟨x274, e275, hF⟩ := bindO_some hF
          refine RL_do rfl rfl (Do_sidx (s1 := p0) (q := g245) u9 rfl rfl e275) ?_
          have H276 := H
          obtain ⟨x277, e278, hF⟩ := bindO_some hF
          refine RL_call rfl rfl (DoC_func en82 rfl) (F_event_nameByte_w x274 _ e278 _ _ _ (H.enter [] [] (by decide) rfl)) ?_
          rintro _ w279 ⟨rfl, G280⟩
          have H := H276.step (G280.only : Only [] _ _)
          refine ⟨_, rfl, ?_⟩
          obtain ⟨x281, e282, hF⟩ := letO_some hF
          refine RL_do rfl rfl (Do_as (Do_not (p := x277) rfl) (congrArg Value.bool e282)) ?_
          refine (RL_nil (thenQ_n (hK273 _ _ ?_)))
          refine WP_ifb (b := x281) rfl (fun c283 => ?_) (fun c283 => ?_)
          · have hF := iteB_t c283 hF
            refine WP_seq_k fun K284 hK284 => ?_
            refine WP_region ?_
            refine RL_do rfl rfl (Do_assign (v := .bool false) rfl) ?_
            refine (RL_nil (thenQ_n (hK284 _ _ ?_)))
            have hR := Option.some.inj hF
            subst hR
            refine (WP_ret (blockQ_r (thenQ_r (thenQ_r (blockQ_r (thenQ_r (post1 (v1 := .bool false) rfl rfl ?_)))))))
            exact ⟨rfl, H.pick [] (by decide)⟩
          · have hF := iteB_f c283 hF
            refine (WP_skip (blockQ_n (thenQ_n (hK271 _ _ ?_))))
            refine WP_region ?_
            obtain ⟨x285, e286, hF⟩ := letO_some hF
            refine RL_do rfl rfl (Do_add (a := g245) (b := 1) rfl rfl e286) ?_
            refine RL_do rfl rfl (Do_move (v := .int .i64 x285) rfl) ?_
            refine (RL_nil (thenQ_n (And.intro ?_ ?_)))
            · repeat' (first | with_reducible exact Fr_refl | refine Fr_upd rfl ?_ | refine Fr_over rfl rfl ?_)
            · exact ⟨(n251, x285), (Sl_cons rfl Sl_nil), ⟨H.pick [] (by decide), hF⟩, Nat.lt_succ_self _⟩
        · have hF := iteB_f c257 hF
          refine (WP_exit (thenQ_x (thenQ_x (blockQ_eq (thenQ_n (And.intro ?_ ?_))))))
          · repeat' (first | with_reducible exact Fr_refl | refine Fr_upd rfl ?_ | refine Fr_over rfl rfl ?_)
          · exact ⟨(), Sl_nil, ⟨H.pick [] (by decide), hF⟩⟩
      · rintro _ ρ w168 ⟨H, hF⟩
        have hF := join_body ek170 hF
        refine WP_seq_k fun K287 hK287 => ?_
        refine WP_region ?_
        refine RL_do rfl rfl (Do_assign (v := .bool true) rfl) ?_
        refine (RL_nil (thenQ_n (hK287 _ _ ?_)))
        have hR := Option.some.inj hF
        subst hR
        refine (WP_ret (post1 (v1 := .bool true) rfl rfl ?_))
        exact ⟨rfl, H.pick [] (by decide)⟩
end Go.Proofs.YtbjhondbheijiaaDoor.L
namespace Go.Proofs.YtbjhondbheijiaaDoor.L
open Go.RowKit Go.OB Go.Lf
/- orangebox/event.IsName -/
set_option maxHeartbeats 4000000 in
theorem F_event_IsName_w (p0 : Str) (r : Bool) (hF : F_event_IsName p0 = some r) (O S : List Nat) (w : World) (H : Hd O w w S []) :
    Calls Tryd.prog 44 ([.string (bs p0)] : List Value).toArray w fun e w' => e = .returned (.bool r) ∧ Hd O w w' S [] := by
  unfold F_event_IsName at hF
  refine calls_of_WP 5 Tryd.func44 rfl rfl rfl ?_
  refine WP_seq_k fun K1 hK1 => ?_
  refine WP_region ?_
  refine RL_do rfl rfl (Do_assign (v := .bool false) rfl) ?_
  refine (RL_nil (thenQ_n (hK1 _ _ ?_)))
  refine WP_seq_k fun K2 hK2 => ?_
  refine WP_region ?_
  refine RL_do rfl rfl (Do_move (v := .string (bs p0)) rfl) ?_
  have H3 := H
  obtain ⟨x4, e5, hF⟩ := bindO_some hF
  refine RL_call rfl rfl (DoC_func en63 rfl) (F_event_isName_w p0 _ e5 _ _ _ (H.enter [] [] (by decide) rfl)) ?_
  rintro _ w6 ⟨rfl, G7⟩
  have H := H3.step (G7.only : Only [] _ _)
  refine ⟨_, rfl, ?_⟩
  refine RL_do rfl rfl (Do_assign (v := .bool x4) rfl) ?_
  refine (RL_nil (thenQ_n (hK2 _ _ ?_)))
  have hR := Option.some.inj hF
  subst hR
  refine (WP_ret (post1 (v1 := .bool x4) rfl rfl ?_))
  exact ⟨rfl, H.pick [] (by decide)⟩
end Go.Proofs.YtbjhondbheijiaaDoor.L
namespace Go.Proofs.YtbjhondbheijiaaDoor.L
open Go.RowKit Go.OB Go.Lf
/- orangebox/fleet.within -/
set_option maxHeartbeats 4000000 in
theorem F_fleet_within_w (p0 : Int) (p1 : Int) (p2 : Int) (r : Bool) (hF : F_fleet_within p0 p1 p2 = some r) (O S : List Nat) (w : World) (H : Hd O w w S []) :
    Calls Tryd.prog 28 ([.int .i64 p0, .int .i64 p1, .int .i64 p2] : List Value).toArray w fun e w' => e = .returned (.bool r) ∧ Hd O w w' S [] := by
  unfold F_fleet_within at hF
  refine calls_of_WP 15 Tryd.func28 rfl rfl rfl ?_
  refine WP_seq_k fun K1 hK1 => ?_
  refine WP_region ?_
  refine RL_do rfl rfl (Do_assign (v := .bool false) rfl) ?_
  refine (RL_nil (thenQ_n (hK1 _ _ ?_)))
  obtain ⟨g7, hF, hK9⟩ := bindO_some hF
  refine WP_seqS [6, 7, 8, 9, 10, 11, 12, 13, 14] (fun (g : Unit) => [(6, .bool g7)]) (fun g wl => Hd O w wl S []) ?_ ?_
  · skip
    refine WP_region ?_
    refine RL_do rfl rfl (Do_move (v := .int .i64 p0) rfl) ?_
    refine RL_do rfl rfl (Do_move (v := .int .i64 p1) rfl) ?_
    obtain ⟨x10, e11, hF⟩ := letO_some hF
    refine RL_do rfl rfl (Do_as (Do_geq (a := p0) (b := p1) rfl rfl) (congrArg Value.bool e11)) ?_
    refine RL_splitb (b := x10) rfl rfl rfl (fun c12 => ?_) (fun c12 => ?_)
    · have hF := iteB_t c12 hF
      refine RL_do rfl rfl (Do_move (v := .int .i64 p0) rfl) ?_
      refine RL_do rfl rfl (Do_move (v := .int .i64 p2) rfl) ?_
      obtain ⟨x13, e14, hF⟩ := letO_some hF
      refine RL_do rfl rfl (Do_as (Do_leq (a := p0) (b := p2) rfl rfl) (congrArg Value.bool e14)) ?_
      refine RL_do rfl rfl (Do_pick_t (v := .bool x13) rfl rfl) ?_
      refine RL_do rfl rfl (Do_assign (v := .bool x13) rfl) ?_
      have hR := Option.some.inj hF
      subst hR
      refine (RL_nil (thenQ_n (And.intro ?_ ?_)))
      · repeat' (first | with_reducible exact Fr_refl | refine Fr_upd rfl ?_ | refine Fr_over rfl rfl ?_)
      · exact ⟨(), (Sl_cons rfl Sl_nil), H.pick [] (by decide)⟩
    · have hF := iteB_f c12 hF
      refine RL_off rfl rfl ?_
      refine RL_off rfl rfl ?_
      refine RL_off rfl rfl ?_
      refine RL_do rfl rfl (Do_pick_f (v := .bool false) rfl rfl) ?_
      refine RL_do rfl rfl (Do_assign (v := .bool false) rfl) ?_
      have hR := Option.some.inj hF
      subst hR
      refine (RL_nil (thenQ_n (And.intro ?_ ?_)))
      · repeat' (first | with_reducible exact Fr_refl | refine Fr_upd rfl ?_ | refine Fr_over rfl rfl ?_)
      · exact ⟨(), (Sl_cons rfl Sl_nil), H.pick [] (by decide)⟩
  · rintro _ ρ w8 H
    have hF := hK9
    have hR := Option.some.inj hF
    subst hR
    refine (WP_ret (post1 (v1 := .bool g7) rfl rfl ?_))
    exact ⟨rfl, H.pick [] (by decide)⟩
end Go.Proofs.YtbjhondbheijiaaDoor.L
namespace Go.Proofs.YtbjhondbheijiaaDoor.L
open Go.RowKit Go.OB Go.Lf
/- orangebox/event.CheckTracks$1 -/
set_option maxHeartbeats 4000000 in
theorem F_event_CheckTracks_1_w (p0 : Track) (c0 : Track) (v1 : Value) (b3 : Nat) (v4 : Value) (r : Bool) (hF : F_event_CheckTracks_1 p0 c0 = some r) (O S : List Nat) (w : World) (H : Hd O w w S [.blk b3 [.string (bs c0.Name), .int .i64 c0.Series.Den, v4, .int .i64 c0.Long] 95, .fz (.sl rSample v1 p0.Series.Samples), .fz (.sl rSample v4 c0.Series.Samples)]) :
    Calls Tryd.prog 65 ([.agg [.string (bs p0.Name), .int .i64 p0.Series.Den, v1, .int .i64 p0.Long].toArray, .pointer (some ⟨b3, 0, none⟩)] : List Value).toArray w fun e w' => e = .returned (.bool r) ∧ Hd O w w' S [.blk b3 [.string (bs c0.Name), .int .i64 c0.Series.Den, v4, .int .i64 c0.Long] 95] := by
  unfold F_event_CheckTracks_1 at hF
  refine calls_of_WP 9 Tryd.func65 rfl rfl rfl ?_
  refine WP_seq_k fun K7 hK7 => ?_
  refine WP_region ?_
  refine RL_ex rfl rfl (Lx_box (cs := [.string (bs p0.Name), .int .i64 p0.Series.Den, v1, .int .i64 p0.Long]) rfl H) ?_
  rintro _ w10 ⟨b8, rfl, H⟩
  refine RL_do rfl rfl (Do_assign (v := .bool false) rfl) ?_
  refine (RL_nil (thenQ_n (hK7 _ _ ?_)))
  refine WP_seq_k fun K11 hK11 => ?_
  refine WP_region ?_
  refine RL_do rfl rfl (fa95_0 rfl) ?_
  refine RL_do rfl rfl (Do_load one9 rfl (Cells.get (Blk.cells (H.item (i := 3) rfl)) (i := 0) rfl)) ?_
  refine RL_do rfl rfl (fa95_0 rfl) ?_
  refine RL_do rfl rfl (Do_load one9 rfl (Cells.get (Blk.cells (H.item (i := 0) rfl)) (i := 0) rfl)) ?_
  obtain ⟨x12, e13, hF⟩ := letO_some hF
  refine RL_do rfl rfl (Do_as (Do_eqls (s1 := p0.Name) (s2 := c0.Name) rfl rfl) (congrArg Value.bool e13)) ?_
  refine RL_do rfl rfl (Do_assign (v := .bool x12) rfl) ?_
  refine (RL_nil (thenQ_n (hK11 _ _ ?_)))
  have hR := Option.some.inj hF
  subst hR
  refine (WP_ret (post1 (v1 := .bool x12) rfl rfl ?_))
  exact ⟨rfl, H.pick [0] (by decide)⟩
end Go.Proofs.YtbjhondbheijiaaDoor.L
namespace Go.Proofs.YtbjhondbheijiaaDoor.L
open Go.RowKit Go.OB Go.Lf
/- slices.IndexFunc[[]orangebox/api.Track,orangebox/api.Track]@orangebox/event.CheckTracks$1 -/
set_option maxHeartbeats 4000000 in
theorem F_slices_IndexFunc___api_Track_api_Track__event_CheckTracks_1_w (p0 : List Track) (p1c0 : Track) (v1 : Value) (b3 : Nat) (v4 : Value) (r : Int) (hF : F_slices_IndexFunc___api_Track_api_Track__event_CheckTracks_1 p0 p1c0 = some r) (O S : List Nat) (w : World) (H : Hd O w w S [.blk b3 [.string (bs p1c0.Name), .int .i64 p1c0.Series.Den, v4, .int .i64 p1c0.Long] 95, .fz (.sl rTrack v1 p0), .fz (.sl rSample v4 p1c0.Series.Samples)]) :
    Calls Tryd.prog 83 ([v1, .func (.func 65) #[] [.pointer (some ⟨b3, 0, none⟩)].toArray] : List Value).toArray w fun e w' => e = .returned (.int .i64 r) ∧ Hd O w w' S [.blk b3 [.string (bs p1c0.Name), .int .i64 p1c0.Series.Den, v4, .int .i64 p1c0.Long] 95] := by
  unfold F_slices_IndexFunc___api_Track_api_Track__event_CheckTracks_1 at hF
  refine calls_of_WP 19 Tryd.func83 rfl rfl rfl ?_
  refine WP_seq_k fun K7 hK7 => ?_
  refine WP_region ?_
  refine RL_do rfl rfl (Do_assign (v := .int .i64 0) rfl) ?_
  refine (RL_nil (thenQ_n (hK7 _ _ ?_)))
  obtain ⟨k132, ek133, hF⟩ := joinO_some hF
  refine WP_seqS [4, 5, 6, 7, 8, 9, 10, 11, 12, 13, 14, 15, 16, 17, 18] (fun (g : Unit) => []) (fun g wl => Hd O w wl S [.blk b3 [.string (bs p1c0.Name), .int .i64 p1c0.Series.Den, v4, .int .i64 p1c0.Long] 95, .fz (.sl rSample v4 p1c0.Series.Samples)] ∧ k132 () = some r) ?_ ?_
  · skip
    refine WP_seq_k fun K134 hK134 => ?_
    refine WP_region ?_
    refine RL_do rfl rfl (Do_move (v := v1) rfl) ?_
    obtain ⟨x135, e136, hF⟩ := letO_some hF
    obtain ⟨a137, c138, q139⟩ := SlF.len ((H.item (i := 1) rfl))
    refine RL_do rfl rfl (Do_as (Do_len u45 q139) (congrArg (Value.int .i64) e136)) ?_
    refine RL_do rfl rfl (Do_move (v := .int .i64 0) rfl) ?_
    refine (RL_nil (thenQ_n (hK134 _ _ ?_)))
    refine WP_block ?_
    unfold F_slices_IndexFunc___api_Track_api_Track__event_CheckTracks_1_L1 at hF
    obtain ⟨B252, n253, eB254, hF⟩ := loopO_some hF
    refine WP_loopS [4, 5, 8, 9, 10, 11, 12, 13, 14, 15, 16, 17, 18] (fun (g : Nat × Int) => [(8, .int .i64 g.2)]) (fun g wl => Hd O w wl S [.blk b3 [.string (bs p1c0.Name), .int .i64 p1c0.Series.Den, v4, .int .i64 p1c0.Long] 95, .fz (.sl rSample v4 p1c0.Series.Samples), .fz (.sl rTrack v1 p0)] ∧ loopN B252 g.1 g.2 = some r) (fun g => g.1) (n253, 0) (Sl_cons rfl Sl_nil) ⟨H.pick [0, 2, 1] (by decide), hF⟩ ?_
    clear H hF
    rintro ⟨n253, g251⟩ ρ w256 ⟨H, hF⟩
    obtain ⟨n257, rfl, hF⟩ := loopN_pos hF
    have hF := loop_body eB254 hF
    refine WP_seq_k fun K258 hK258 => ?_
    refine WP_region ?_
    obtain ⟨x259, e260, hF⟩ := letO_some hF
    refine RL_do rfl rfl (Do_as (Do_lss (a := g251) (b := x135) rfl rfl) (congrArg Value.bool e260)) ?_
    refine (RL_nil (thenQ_n (hK258 _ _ ?_)))
    refine WP_seq_k fun K262 hK262 => ?_
    refine WP_ifb (b := x259) rfl (fun c263 => ?_) (fun c263 => ?_)
    · have hF := iteB_t c263 hF
      refine (WP_skip (thenQ_n (hK262 _ _ ?_)))
      refine WP_seq_k fun K287 hK287 => ?_
      refine WP_block ?_
      refine WP_seq_k fun K288 hK288 => ?_
      refine WP_region ?_
      refine RL_do rfl rfl (Do_move (v := .int .i64 g251) rfl) ?_
      refine RL_do rfl rfl (Do_assign (v := .int .i64 g251) rfl) ?_
      refine (RL_nil (thenQ_n (hK288 _ _ ?_)))
      refine WP_seq_k fun K289 hK289 => ?_
      refine WP_region ?_
      refine RL_do rfl rfl (Do_move (v := .func (.func 65) #[] [.pointer (some ⟨b3, 0, none⟩)].toArray) rfl) ?_
      refine RL_do rfl rfl (Do_move (v := v1) rfl) ?_
      refine RL_do rfl rfl (Do_move (v := .int .i64 g251) rfl) ?_
      obtain ⟨x290, e291, hF⟩ := bindO_some hF
      obtain ⟨b292, o293, c294, cs295, q296, h299, h297, h298, h300⟩ := rd_at (H.item (i := 2) rfl) e291
      obtain ⟨v301, rfl, h302⟩ := rTrack_open h299
      have H := H.fzs [.at b292 (o293 + g251.toNat * 4) _, .sl rSample v301 x290.Series.Samples] ⟨⟨h297, h298, h300⟩, h302, trivial⟩
      refine RL_do rfl rfl (Do_idx u45 sz95 q296 rfl (at_some e291).1 (at_some e291).2.1 rfl rfl) ?_
      refine RL_do rfl rfl (Do_as (Do_loads (cs := [.string (bs x290.Name), .int .i64 x290.Series.Den, v301, .int .i64 x290.Long]) agg95 rfl sz95 rfl (H.item (i := 3) rfl).2.2) rfl) ?_
      obtain ⟨x305, e306, hF⟩ := bindO_some hF
      refine RL_call rfl rfl (DoC_clo en65 rfl rfl) (F_event_CheckTracks_1_w x290 p1c0 v301 b3 v4 _ e306 _ _ _ (H.enter [0] [4, 1] (by decide) rfl)) ?_
      rintro _ w307 ⟨rfl, G308⟩
      have H : Hd O _ w307 _ [.fz (.sl rSample v4 p1c0.Series.Samples), .fz (.sl rTrack v1 p0), .fz (.at b292 (o293 + g251.toNat * 4) [.string (bs x290.Name), .int .i64 x290.Series.Den, v301, .int .i64 x290.Long]), .fz (.sl rSample v301 x290.Series.Samples), .blk b3 [.string (bs p1c0.Name), .int .i64 p1c0.Series.Den, v4, .int .i64 p1c0.Long] 95] := H.back [0] [4, 1] rfl G308
      refine ⟨_, rfl, ?_⟩
      refine (RL_nil (thenQ_n (hK289 _ _ ?_)))
      refine WP_ifb (b := x305) rfl (fun c309 => ?_) (fun c309 => ?_)
      · have hF := iteB_t c309 hF
        refine WP_seq_k fun K310 hK310 => ?_
        refine WP_region ?_
        refine RL_do rfl rfl (Do_move (v := .int .i64 g251) rfl) ?_
        refine RL_do rfl rfl (Do_assign (v := .int .i64 g251) rfl) ?_
        refine (RL_nil (thenQ_n (hK310 _ _ ?_)))
        have hR := Option.some.inj hF
        subst hR
        refine (WP_ret (blockQ_r (thenQ_r (thenQ_r (blockQ_r (thenQ_r (post1 (v1 := .int .i64 g251) rfl rfl ?_)))))))
        exact ⟨rfl, H.pick [4] (by decide)⟩
      · have hF := iteB_f c309 hF
        refine (WP_skip (blockQ_n (thenQ_n (hK287 _ _ ?_))))
        refine WP_region ?_
        obtain ⟨x311, e312, hF⟩ := letO_some hF
        refine RL_do rfl rfl (Do_add (a := g251) (b := 1) rfl rfl e312) ?_
        refine RL_do rfl rfl (Do_move (v := .int .i64 x311) rfl) ?_
        refine (RL_nil (thenQ_n (And.intro ?_ ?_)))
        · repeat' (first | with_reducible exact Fr_refl | refine Fr_upd rfl ?_ | refine Fr_over rfl rfl ?_)
        · exact ⟨(n257, x311), (Sl_cons rfl Sl_nil), ⟨H.pick [4, 0, 1] (by decide), hF⟩, Nat.lt_succ_self _⟩
    · have hF := iteB_f c263 hF
      refine (WP_exit (thenQ_x (thenQ_x (blockQ_eq (thenQ_n (And.intro ?_ ?_))))))
      · repeat' (first | with_reducible exact Fr_refl | refine Fr_upd rfl ?_ | refine Fr_over rfl rfl ?_)
      · exact ⟨(), Sl_nil, ⟨H.pick [0, 1] (by decide), hF⟩⟩
  · rintro _ ρ w131 ⟨H, hF⟩
    have hF := join_body ek133 hF
    refine WP_seq_k fun K313 hK313 => ?_
    refine WP_region ?_
    refine RL_do rfl rfl (Do_assign (v := .int .i64 (-1)) rfl) ?_
    refine (RL_nil (thenQ_n (hK313 _ _ ?_)))
    have hR := Option.some.inj hF
    subst hR
    refine (WP_ret (post1 (v1 := .int .i64 (-1)) rfl rfl ?_))
    exact ⟨rfl, H.pick [0] (by decide)⟩
end Go.Proofs.YtbjhondbheijiaaDoor.L
namespace Go.Proofs.YtbjhondbheijiaaDoor.L
open Go.RowKit Go.OB Go.Lf
/- slices.ContainsFunc[[]orangebox/api.Track,orangebox/api.Track]@orangebox/event.CheckTracks$1 -/
set_option maxHeartbeats 4000000 in
theorem F_slices_ContainsFunc___api_Track_api_Track__event_CheckTracks_1_w (p0 : List Track) (p1c0 : Track) (v1 : Value) (b3 : Nat) (v4 : Value) (r : Bool) (hF : F_slices_ContainsFunc___api_Track_api_Track__event_CheckTracks_1 p0 p1c0 = some r) (O S : List Nat) (w : World) (H : Hd O w w S [.blk b3 [.string (bs p1c0.Name), .int .i64 p1c0.Series.Den, v4, .int .i64 p1c0.Long] 95, .fz (.sl rTrack v1 p0), .fz (.sl rSample v4 p1c0.Series.Samples)]) :
    Calls Tryd.prog 64 ([v1, .func (.func 65) #[] [.pointer (some ⟨b3, 0, none⟩)].toArray] : List Value).toArray w fun e w' => e = .returned (.bool r) ∧ Hd O w w' S [.blk b3 [.string (bs p1c0.Name), .int .i64 p1c0.Series.Den, v4, .int .i64 p1c0.Long] 95] := by
  unfold F_slices_ContainsFunc___api_Track_api_Track__event_CheckTracks_1 at hF
  refine calls_of_WP 9 Tryd.func64 rfl rfl rfl ?_
  refine WP_seq_k fun K7 hK7 => ?_
  refine WP_region ?_
  refine RL_do rfl rfl (Do_assign (v := .bool false) rfl) ?_
  refine (RL_nil (thenQ_n (hK7 _ _ ?_)))
  refine WP_seq_k fun K8 hK8 => ?_
  refine WP_region ?_
  refine RL_do rfl rfl (Do_move (v := v1) rfl) ?_
  refine RL_do rfl rfl (Do_move (v := .func (.func 65) #[] [.pointer (some ⟨b3, 0, none⟩)].toArray) rfl) ?_
  obtain ⟨x9, e10, hF⟩ := bindO_some hF
  refine RL_call rfl rfl (DoC_func en83 rfl) (F_slices_IndexFunc___api_Track_api_Track__event_CheckTracks_1_w p0 p1c0 v1 b3 v4 _ e10 _ _ _ (H.enter [0] [1, 2] (by decide) rfl)) ?_
  rintro _ w11 ⟨rfl, G12⟩
  have H : Hd O _ w11 _ [.fz (.sl rTrack v1 p0), .fz (.sl rSample v4 p1c0.Series.Samples), .blk b3 [.string (bs p1c0.Name), .int .i64 p1c0.Series.Den, v4, .int .i64 p1c0.Long] 95] := H.back [0] [1, 2] rfl G12
  refine ⟨_, rfl, ?_⟩
  obtain ⟨x13, e14, hF⟩ := letO_some hF
  refine RL_do rfl rfl (Do_as (Do_geq (a := x9) (b := 0) rfl rfl) (congrArg Value.bool e14)) ?_
  refine RL_do rfl rfl (Do_assign (v := .bool x13) rfl) ?_
  refine (RL_nil (thenQ_n (hK8 _ _ ?_)))
  have hR := Option.some.inj hF
  subst hR
  refine (WP_ret (post1 (v1 := .bool x13) rfl rfl ?_))
  exact ⟨rfl, H.pick [2] (by decide)⟩
end Go.Proofs.YtbjhondbheijiaaDoor.L
namespace Go.Proofs.YtbjhondbheijiaaDoor.L
open Go.RowKit Go.OB Go.Lf
/- orangebox/series.within -/
set_option maxHeartbeats 4000000 in
theorem F_series_within_w (p0 : Int) (p1 : Int) (p2 : Int) (r : Bool) (hF : F_series_within p0 p1 p2 = some r) (O S : List Nat) (w : World) (H : Hd O w w S []) :
    Calls Tryd.prog 95 ([.int .i64 p0, .int .i64 p1, .int .i64 p2] : List Value).toArray w fun e w' => e = .returned (.bool r) ∧ Hd O w w' S [] := by
  unfold F_series_within at hF
  refine calls_of_WP 15 Tryd.func95 rfl rfl rfl ?_
  refine WP_seq_k fun K1 hK1 => ?_
  refine WP_region ?_
  refine RL_do rfl rfl (Do_assign (v := .bool false) rfl) ?_
  refine (RL_nil (thenQ_n (hK1 _ _ ?_)))
  obtain ⟨g7, hF, hK9⟩ := bindO_some hF
  refine WP_seqS [6, 7, 8, 9, 10, 11, 12, 13, 14] (fun (g : Unit) => [(6, .bool g7)]) (fun g wl => Hd O w wl S []) ?_ ?_
  · skip
    refine WP_region ?_
    refine RL_do rfl rfl (Do_move (v := .int .i64 p0) rfl) ?_
    refine RL_do rfl rfl (Do_move (v := .int .i64 p1) rfl) ?_
    obtain ⟨x10, e11, hF⟩ := letO_some hF
    refine RL_do rfl rfl (Do_as (Do_geq (a := p0) (b := p1) rfl rfl) (congrArg Value.bool e11)) ?_
    refine RL_splitb (b := x10) rfl rfl rfl (fun c12 => ?_) (fun c12 => ?_)
    · have hF := iteB_t c12 hF
      refine RL_do rfl rfl (Do_move (v := .int .i64 p0) rfl) ?_
      refine RL_do rfl rfl (Do_move (v := .int .i64 p2) rfl) ?_
      obtain ⟨x13, e14, hF⟩ := letO_some hF
      refine RL_do rfl rfl (Do_as (Do_leq (a := p0) (b := p2) rfl rfl) (congrArg Value.bool e14)) ?_
      refine RL_do rfl rfl (Do_pick_t (v := .bool x13) rfl rfl) ?_
      refine RL_do rfl rfl (Do_assign (v := .bool x13) rfl) ?_
      have hR := Option.some.inj hF
      subst hR
      refine (RL_nil (thenQ_n (And.intro ?_ ?_)))
      · repeat' (first | with_reducible exact Fr_refl | refine Fr_upd rfl ?_ | refine Fr_over rfl rfl ?_)
      · exact ⟨(), (Sl_cons rfl Sl_nil), H.pick [] (by decide)⟩
    · have hF := iteB_f c12 hF
      refine RL_off rfl rfl ?_
      refine RL_off rfl rfl ?_
      refine RL_off rfl rfl ?_
      refine RL_do rfl rfl (Do_pick_f (v := .bool false) rfl rfl) ?_
      refine RL_do rfl rfl (Do_assign (v := .bool false) rfl) ?_
      have hR := Option.some.inj hF
      subst hR
      refine (RL_nil (thenQ_n (And.intro ?_ ?_)))
      · repeat' (first | with_reducible exact Fr_refl | refine Fr_upd rfl ?_ | refine Fr_over rfl rfl ?_)
      · exact ⟨(), (Sl_cons rfl Sl_nil), H.pick [] (by decide)⟩
  · rintro _ ρ w8 H
    have hF := hK9
    have hR := Option.some.inj hF
    subst hR
    refine (WP_ret (post1 (v1 := .bool g7) rfl rfl ?_))
    exact ⟨rfl, H.pick [] (by decide)⟩
end Go.Proofs.YtbjhondbheijiaaDoor.L
namespace Go.Proofs.YtbjhondbheijiaaDoor.L
open Go.RowKit Go.OB Go.Lf
/- orangebox/series.check -/
set_option maxHeartbeats 4000000 in
theorem F_series_check_w (p0 : Series) (v1 : Value) (r : Int × Int) (hF : F_series_check p0 = some r) (O S : List Nat) (w : World) (H : Hd O w w S [.fz (.sl rSample v1 p0.Samples)]) :
    Calls Tryd.prog 84 ([.agg [.int .i64 p0.Den, v1].toArray] : List Value).toArray w fun e w' => e = .returned (.tuple #[.int .i64 r.1, .int .i64 r.2]) ∧ Hd O w w' S [] := by
  unfold F_series_check at hF
  refine calls_of_WP 67 Tryd.func84 rfl rfl rfl ?_
  refine WP_seq_k fun K3 hK3 => ?_
  refine WP_region ?_
  refine RL_ex rfl rfl (Lx_box (cs := [.int .i64 p0.Den, v1]) rfl H) ?_
  rintro _ w6 ⟨b4, rfl, H⟩
  refine RL_do rfl rfl (Do_assign (v := .int .i64 0) rfl) ?_
  refine RL_do rfl rfl (Do_assign (v := .int .i64 0) rfl) ?_
  refine (RL_nil (thenQ_n (hK3 _ _ ?_)))
  refine WP_seq_k fun K17 hK17 => ?_
  refine WP_seq_k fun K18 hK18 => ?_
  refine WP_region ?_
  refine RL_do rfl rfl (fa93_0 rfl) ?_
  refine RL_do rfl rfl (Do_load one3 rfl (Cells.get (Blk.cells (H.item (i := 1) rfl)) (i := 0) rfl)) ?_
  have H19 := H
  obtain ⟨x20, e21, hF⟩ := bindO_some hF
  refine RL_call rfl rfl (DoC_func en95 rfl) (F_series_within_w p0.Den 1 1000000 _ e21 _ _ _ (H.enter [] [] (by decide) rfl)) ?_
  rintro _ w22 ⟨rfl, G23⟩
  have H := H19.step (G23.only : Only [] _ _)
  refine ⟨_, rfl, ?_⟩
  obtain ⟨x24, e25, hF⟩ := letO_some hF
  refine RL_do rfl rfl (Do_as (Do_not (p := x20) rfl) (congrArg Value.bool e25)) ?_
  refine (RL_nil (thenQ_n (hK18 _ _ ?_)))
  refine WP_ifb (b := x24) rfl (fun c26 => ?_) (fun c26 => ?_)
  · have hF := iteB_t c26 hF
    refine WP_seq_k fun K27 hK27 => ?_
    refine WP_region ?_
    refine RL_do rfl rfl (Do_assign (v := .int .i64 (-1)) rfl) ?_
    refine RL_do rfl rfl (Do_assign (v := .int .i64 9) rfl) ?_
    refine (RL_nil (thenQ_n (hK27 _ _ ?_)))
    have hR := Option.some.inj hF
    subst hR
    refine (WP_ret (thenQ_r (post2 (v1 := .int .i64 (-1)) (v2 := .int .i64 9) rfl rfl rfl ?_)))
    exact ⟨rfl, H.pick [] (by decide)⟩
  · have hF := iteB_f c26 hF
    refine (WP_skip (thenQ_n (hK17 _ _ ?_)))
    refine WP_seq_k fun K38 hK38 => ?_
    refine WP_seq_k fun K39 hK39 => ?_
    refine WP_region ?_
    refine RL_do rfl rfl (fa93_1 rfl) ?_
    refine RL_do rfl rfl (Do_load one91 rfl (Cells.get (Blk.cells (H.item (i := 1) rfl)) (i := 1) rfl)) ?_
    obtain ⟨x40, e41, hF⟩ := letO_some hF
    obtain ⟨a42, c43, q44⟩ := SlF.len ((H.item (i := 0) rfl))
    refine RL_do rfl rfl (Do_as (Do_len u91 q44) (congrArg (Value.int .i64) e41)) ?_
    obtain ⟨x45, e46, hF⟩ := letO_some hF
    refine RL_do rfl rfl (Do_as (Do_gtr (a := x40) (b := 20000) rfl rfl) (congrArg Value.bool e46)) ?_
    refine (RL_nil (thenQ_n (hK39 _ _ ?_)))
    refine WP_ifb (b := x45) rfl (fun c47 => ?_) (fun c47 => ?_)
    · have hF := iteB_t c47 hF
      refine WP_seq_k fun K48 hK48 => ?_
      refine WP_region ?_
      refine RL_do rfl rfl (Do_assign (v := .int .i64 (-1)) rfl) ?_
      refine RL_do rfl rfl (Do_assign (v := .int .i64 3) rfl) ?_
      refine (RL_nil (thenQ_n (hK48 _ _ ?_)))
      have hR := Option.some.inj hF
      subst hR
      refine (WP_ret (thenQ_r (post2 (v1 := .int .i64 (-1)) (v2 := .int .i64 3) rfl rfl rfl ?_)))
      exact ⟨rfl, H.pick [] (by decide)⟩
    · have hF := iteB_f c47 hF
      refine (WP_skip (thenQ_n (hK38 _ _ ?_)))
      obtain ⟨k413, ek414, hF⟩ := joinO_some hF
      refine WP_seqS [2, 3, 4, 5, 14, 15, 16, 17, 18, 19, 20, 21, 22, 23, 24, 25, 26, 27, 28, 29, 30, 31, 32, 33, 34, 35, 36, 37, 38, 39, 40, 41, 42, 43, 44, 45, 46, 47, 48, 49, 50, 51, 52, 53, 54, 55, 56, 57, 58, 59, 60, 61, 62, 63, 64, 65, 66] (fun (g : Unit) => []) (fun g wl => Hd O w wl S [] ∧ k413 () = some r) ?_ ?_
      · skip
        refine WP_seq_k fun K415 hK415 => ?_
        refine WP_region ?_
        refine RL_do rfl rfl (fa93_1 rfl) ?_
        refine RL_do rfl rfl (Do_load one91 rfl (Cells.get (Blk.cells (H.item (i := 1) rfl)) (i := 1) rfl)) ?_
        obtain ⟨x416, e417, hF⟩ := letO_some hF
        obtain ⟨a418, c419, q420⟩ := SlF.len ((H.item (i := 0) rfl))
        refine RL_do rfl rfl (Do_as (Do_len u91 q420) (congrArg (Value.int .i64) e417)) ?_
        refine RL_do rfl rfl (Do_move (v := .int .i64 0) rfl) ?_
        refine (RL_nil (thenQ_n (hK415 _ _ ?_)))
        refine WP_block ?_
        unfold F_series_check_L1 at hF
        obtain ⟨B773, n774, eB775, hF⟩ := loopO_some hF
        refine WP_loopS [2, 3, 4, 5, 17, 18, 19, 20, 21, 22, 23, 24, 25, 26, 27, 28, 29, 30, 31, 32, 33, 34, 35, 36, 37, 38, 39, 40, 41, 42, 43, 44, 45, 46, 47, 48, 49, 50, 51, 52, 53, 54, 55, 56, 57, 58, 59, 60, 61, 62, 63, 64, 65, 66] (fun (g : Nat × Int) => [(17, .int .i64 g.2)]) (fun g wl => Hd O w wl S [.fz (.sl rSample v1 p0.Samples), .blk b4 [.int .i64 p0.Den, v1] 93] ∧ loopN B773 g.1 g.2 = some r) (fun g => g.1) (n774, 0) (Sl_cons rfl Sl_nil) ⟨H.pick [0, 1] (by decide), hF⟩ ?_
        clear H hF
        rintro ⟨n774, g772⟩ ρ w777 ⟨H, hF⟩
        obtain ⟨n778, rfl, hF⟩ := loopN_pos hF
        have hF := loop_body eB775 hF
        refine WP_seq_k fun K779 hK779 => ?_
        refine WP_region ?_
        obtain ⟨x780, e781, hF⟩ := letO_some hF
        refine RL_do rfl rfl (Do_as (Do_lss (a := g772) (b := x416) rfl rfl) (congrArg Value.bool e781)) ?_
        refine (RL_nil (thenQ_n (hK779 _ _ ?_)))
        refine WP_seq_k fun K783 hK783 => ?_
        refine WP_ifb (b := x780) rfl (fun c784 => ?_) (fun c784 => ?_)
        · have hF := iteB_t c784 hF
          refine (WP_skip (thenQ_n (hK783 _ _ ?_)))
          refine WP_seq_k fun K868 hK868 => ?_
          refine WP_block ?_
          refine WP_seq_k fun K869 hK869 => ?_
          refine WP_region ?_
          refine RL_do rfl rfl (Do_move (v := .int .i64 g772) rfl) ?_
          obtain ⟨x870, e871, hF⟩ := bindO_some hF
          obtain ⟨b872, o873, c874, cs875, q876, h879, h877, h878, h880⟩ := rd_at (H.item (i := 0) rfl) e871
          obtain rfl := rSample_open h879
          have H := H.fz (.at b872 (o873 + g772.toNat * 3) _) ⟨h877, h878, h880⟩
          refine RL_do rfl rfl (Do_idx u91 sz99 q876 rfl (at_some e871).1 (at_some e871).2.1 rfl rfl) ?_
          refine RL_do rfl rfl (Do_as (Do_loads (cs := [.int .i64 x870.At, .int .i64 x870.N, .int .i64 x870.Mark]) agg99 rfl sz99 rfl (H.item (i := 2) rfl).2.2) rfl) ?_
          refine RL_ex rfl rfl (Lx_alloc zero99 H) ?_
          rintro _ w884 ⟨b882, rfl, H⟩
          refine RL_do rfl rfl (Do_assign (v := .int .i64 g772) rfl) ?_
          refine RL_exU rfl (Lx_storeN (vs := [.int .i64 x870.At, .int .i64 x870.N, .int .i64 x870.Mark]) H 3 rfl sz99 rfl rfl rfl ⟨rfl, rfl, rfl, trivial⟩ rfl) ?_
          rintro w885 H
          refine (RL_nil (thenQ_n (hK869 _ _ ?_)))
          refine WP_block ?_
          obtain ⟨g909, hF, hK911⟩ := bindO_some hF
          refine WP_seqS [22, 23, 24, 25, 26, 27, 28, 29, 30, 31, 32, 33, 34, 35, 36, 37, 38] (fun (g : Unit) => [(22, .bool g909)]) (fun g wl => Hd O w wl S [.fz (.sl rSample v1 p0.Samples), .blk b4 [.int .i64 p0.Den, v1] 93, .blk b882 [.int .i64 x870.At, .int .i64 x870.N, .int .i64 x870.Mark] 99]) ?_ ?_
          · skip
            refine WP_region ?_
            refine RL_do rfl rfl (fa99_0 rfl) ?_
            refine RL_do rfl rfl (Do_load one3 rfl (Cells.get (Blk.cells (H.item (i := 3) rfl)) (i := 0) rfl)) ?_
            have H912 := H
            obtain ⟨x913, e914, hF⟩ := bindO_some hF
            refine RL_call rfl rfl (DoC_func en95 rfl) (F_series_within_w x870.At 0 1099511627776 _ e914 _ _ _ (H.enter [] [] (by decide) rfl)) ?_
            rintro _ w915 ⟨rfl, G916⟩
            have H := H912.step (G916.only : Only [] _ _)
            refine ⟨_, rfl, ?_⟩
            obtain ⟨x917, e918, hF⟩ := letO_some hF
            refine RL_do rfl rfl (Do_as (Do_not (p := x913) rfl) (congrArg Value.bool e918)) ?_
            refine RL_splitb (b := x917) rfl rfl rfl (fun c919 => ?_) (fun c919 => ?_)
            · have hF := iteB_t c919 hF
              refine RL_off rfl rfl ?_
              refine RL_off rfl rfl ?_
              refine RL_off rfl rfl ?_
              refine RL_off rfl rfl ?_
              refine RL_do rfl rfl (Do_pick_t (v := .bool true) rfl rfl) ?_
              refine RL_do rfl rfl (Do_move (v := .bool true) rfl) ?_
              refine RL_off rfl rfl ?_
              refine RL_off rfl rfl ?_
              refine RL_off rfl rfl ?_
              refine RL_off rfl rfl ?_
              refine RL_do rfl rfl (Do_pick_t (v := .bool true) rfl rfl) ?_
              refine RL_do rfl rfl (Do_assign (v := .bool true) rfl) ?_
              have hR := Option.some.inj hF
              subst hR
              refine (RL_nil (thenQ_n (And.intro ?_ ?_)))
              · repeat' (first | with_reducible exact Fr_refl | refine Fr_upd rfl ?_ | refine Fr_over rfl rfl ?_)
              · exact ⟨(), (Sl_cons rfl Sl_nil), H.pick [0, 1, 3] (by decide)⟩
            · have hF := iteB_f c919 hF
              refine RL_do rfl rfl (fa99_1 rfl) ?_
              refine RL_do rfl rfl (Do_load one3 rfl (Cells.get (Blk.cells (H.item (i := 3) rfl)) (i := 1) rfl)) ?_
              have H920 := H
              obtain ⟨x921, e922, hF⟩ := bindO_some hF
              refine RL_call rfl rfl (DoC_func en95 rfl) (F_series_within_w x870.N (-1125899906842624) 1125899906842624 _ e922 _ _ _ (H.enter [] [] (by decide) rfl)) ?_
              rintro _ w923 ⟨rfl, G924⟩
              have H := H920.step (G924.only : Only [] _ _)
              refine ⟨_, rfl, ?_⟩
              obtain ⟨x925, e926, hF⟩ := letO_some hF
              refine RL_do rfl rfl (Do_as (Do_not (p := x921) rfl) (congrArg Value.bool e926)) ?_
              refine RL_do rfl rfl (Do_pick_f (v := .bool x925) rfl rfl) ?_
              refine RL_splitb (b := x925) rfl rfl rfl (fun c927 => ?_) (fun c927 => ?_)
              · have hF := iteB_t c927 hF
                refine RL_off rfl rfl ?_
                refine RL_off rfl rfl ?_
                refine RL_off rfl rfl ?_
                refine RL_off rfl rfl ?_
                refine RL_do rfl rfl (Do_pick_t (v := .bool true) rfl rfl) ?_
                refine RL_do rfl rfl (Do_assign (v := .bool true) rfl) ?_
                have hR := Option.some.inj hF
                subst hR
                refine (RL_nil (thenQ_n (And.intro ?_ ?_)))
                · repeat' (first | with_reducible exact Fr_refl | refine Fr_upd rfl ?_ | refine Fr_over rfl rfl ?_)
                · exact ⟨(), (Sl_cons rfl Sl_nil), H.pick [0, 1, 3] (by decide)⟩
              · have hF := iteB_f c927 hF
                refine RL_do rfl rfl (fa99_2 rfl) ?_
                refine RL_do rfl rfl (Do_load one3 rfl (Cells.get (Blk.cells (H.item (i := 3) rfl)) (i := 2) rfl)) ?_
                have H928 := H
                obtain ⟨x929, e930, hF⟩ := bindO_some hF
                refine RL_call rfl rfl (DoC_func en95 rfl) (F_series_within_w x870.Mark 0 4 _ e930 _ _ _ (H.enter [] [] (by decide) rfl)) ?_
                rintro _ w931 ⟨rfl, G932⟩
                have H := H928.step (G932.only : Only [] _ _)
                refine ⟨_, rfl, ?_⟩
                obtain ⟨x933, e934, hF⟩ := letO_some hF
                refine RL_do rfl rfl (Do_as (Do_not (p := x929) rfl) (congrArg Value.bool e934)) ?_
                refine RL_do rfl rfl (Do_pick_f (v := .bool x933) rfl rfl) ?_
                refine RL_do rfl rfl (Do_assign (v := .bool x933) rfl) ?_
                have hR := Option.some.inj hF
                subst hR
                refine (RL_nil (thenQ_n (And.intro ?_ ?_)))
                · repeat' (first | with_reducible exact Fr_refl | refine Fr_upd rfl ?_ | refine Fr_over rfl rfl ?_)
                · exact ⟨(), (Sl_cons rfl Sl_nil), H.pick [0, 1, 3] (by decide)⟩
          · rintro _ ρ w910 H
            have hF := hK911
            refine WP_ifb (b := g909) rfl (fun c935 => ?_) (fun c935 => ?_)
            · have hF := iteB_t c935 hF
              refine WP_seq_k fun K936 hK936 => ?_
              refine WP_region ?_
              refine RL_do rfl rfl (Do_move (v := .int .i64 g772) rfl) ?_
              refine RL_do rfl rfl (Do_assign (v := .int .i64 g772) rfl) ?_
              refine RL_do rfl rfl (Do_assign (v := .int .i64 9) rfl) ?_
              refine (RL_nil (thenQ_n (hK936 _ _ ?_)))
              have hR := Option.some.inj hF
              subst hR
              refine (WP_ret (blockQ_r (blockQ_r (thenQ_r (thenQ_r (blockQ_r (thenQ_r (post2 (v1 := .int .i64 g772) (v2 := .int .i64 9) rfl rfl rfl ?_))))))))
              exact ⟨rfl, H.pick [] (by decide)⟩
            · have hF := iteB_f c935 hF
              obtain ⟨g942, hF, hK944⟩ := bindO_some hF
              refine WP_seqS [40, 41, 42, 43, 44, 45, 46, 47, 48] (fun (g : Unit) => [(40, .bool g942)]) (fun g wl => Hd O w wl S [.fz (.sl rSample v1 p0.Samples), .blk b4 [.int .i64 p0.Den, v1] 93, .blk b882 [.int .i64 x870.At, .int .i64 x870.N, .int .i64 x870.Mark] 99]) ?_ ?_
              · skip
                refine WP_region ?_
                refine RL_do rfl rfl (fa99_1 rfl) ?_
                refine RL_do rfl rfl (Do_load one3 rfl (Cells.get (Blk.cells (H.item (i := 2) rfl)) (i := 1) rfl)) ?_
                obtain ⟨x945, e946, hF⟩ := letO_some hF
                refine RL_do rfl rfl (Do_as (Do_neq (a := x870.N) (b := 0) rfl rfl) (congrArg Value.bool e946)) ?_
                refine RL_splitb (b := x945) rfl rfl rfl (fun c947 => ?_) (fun c947 => ?_)
                · have hF := iteB_t c947 hF
                  refine RL_do rfl rfl (fa99_2 rfl) ?_
                  refine RL_do rfl rfl (Do_load one3 rfl (Cells.get (Blk.cells (H.item (i := 2) rfl)) (i := 2) rfl)) ?_
                  obtain ⟨x948, e949, hF⟩ := letO_some hF
                  refine RL_do rfl rfl (Do_as (Do_leq (a := x870.Mark) (b := 1) rfl rfl) (congrArg Value.bool e949)) ?_
                  refine RL_do rfl rfl (Do_pick_t (v := .bool x948) rfl rfl) ?_
                  refine RL_do rfl rfl (Do_assign (v := .bool x948) rfl) ?_
                  have hR := Option.some.inj hF
                  subst hR
                  refine (RL_nil (thenQ_n (And.intro ?_ ?_)))
                  · repeat' (first | with_reducible exact Fr_refl | refine Fr_upd rfl ?_ | refine Fr_over rfl rfl ?_)
                  · exact ⟨(), (Sl_cons rfl Sl_nil), H.pick [0, 1, 2] (by decide)⟩
                · have hF := iteB_f c947 hF
                  refine RL_off rfl rfl ?_
                  refine RL_off rfl rfl ?_
                  refine RL_off rfl rfl ?_
                  refine RL_do rfl rfl (Do_pick_f (v := .bool false) rfl rfl) ?_
                  refine RL_do rfl rfl (Do_assign (v := .bool false) rfl) ?_
                  have hR := Option.some.inj hF
                  subst hR
                  refine (RL_nil (thenQ_n (And.intro ?_ ?_)))
                  · repeat' (first | with_reducible exact Fr_refl | refine Fr_upd rfl ?_ | refine Fr_over rfl rfl ?_)
                  · exact ⟨(), (Sl_cons rfl Sl_nil), H.pick [0, 1, 2] (by decide)⟩
              · rintro _ ρ w943 H
                have hF := hK944
                refine WP_ifb (b := g942) rfl (fun c950 => ?_) (fun c950 => ?_)
                · have hF := iteB_t c950 hF
                  refine WP_seq_k fun K951 hK951 => ?_
                  refine WP_region ?_
                  refine RL_do rfl rfl (Do_move (v := .int .i64 g772) rfl) ?_
                  refine RL_do rfl rfl (Do_assign (v := .int .i64 g772) rfl) ?_
                  refine RL_do rfl rfl (Do_assign (v := .int .i64 2) rfl) ?_
                  refine (RL_nil (thenQ_n (hK951 _ _ ?_)))
                  have hR := Option.some.inj hF
                  subst hR
                  refine (WP_ret (blockQ_r (blockQ_r (thenQ_r (thenQ_r (blockQ_r (thenQ_r (post2 (v1 := .int .i64 g772) (v2 := .int .i64 2) rfl rfl rfl ?_))))))))
                  exact ⟨rfl, H.pick [] (by decide)⟩
                · have hF := iteB_f c950 hF
                  obtain ⟨g975, hF, hK977⟩ := bindO_some hF
                  refine WP_seqS [50, 51, 52, 53, 54, 55, 56, 57, 58, 59, 60, 61, 62, 63, 64] (fun (g : Unit) => [(50, .bool g975)]) (fun g wl => Hd O w wl S [.fz (.sl rSample v1 p0.Samples), .blk b4 [.int .i64 p0.Den, v1] 93]) ?_ ?_
                  · skip
                    have H978 := H
                    have H := H.rebase
                    have H979 := H
                    refine WP_mix0 H [0, 1, 2, 3, 4, 5, 6, 7, 8, 9, 10, 11, 12, 13, 14] [.pure, .pure, .pure, .pure, .read, .pure, .read, .pure, .pure, .pure, .pure, .read, .pure, .pure, .pure] mixed (by kernel_rfl) (by kernel_rfl) (by kernel_rfl) rfl ?_
                    refine Mx.XL_pure rfl rfl rfl (fun w' hw' => Do_move (v := .int .i64 g772) rfl) ?_
                    obtain ⟨x980, e981, hF⟩ := letO_some hF
                    refine Mx.XL_pure rfl rfl rfl (fun w' hw' => Do_as (Do_gtr (a := g772) (b := 0) rfl rfl) (congrArg Value.bool e981)) ?_
                    refine Mx.XL_splitb (b := x980) rfl rfl rfl rfl (fun c982 => ?_) (fun c982 => ?_)
                    · have hF := iteB_t c982 hF
                      refine Mx.XL_pure rfl rfl rfl (fun w' hw' => fa99_0 rfl) ?_
                      refine Mx.XL_read oS rfl rfl rfl (fun w' hw' => Do_load one3 rfl (Cells.get (Blk.cells ((H.sees hw').item (i := 2) rfl)) (i := 0) rfl)) ?_
                      refine Mx.XL_pure rfl rfl rfl (fun w' hw' => fa93_1 rfl) ?_
                      refine Mx.XL_read oS rfl rfl rfl (fun w' hw' => Do_load one91 rfl (Cells.get (Blk.cells ((H.sees hw').item (i := 1) rfl)) (i := 1) rfl)) ?_
                      refine Mx.XL_pure rfl rfl rfl (fun w' hw' => Do_move (v := .int .i64 g772) rfl) ?_
                      obtain ⟨x983, e984, hF⟩ := letO_some hF
                      refine Mx.XL_pure rfl rfl rfl (fun w' hw' => Do_sub (a := g772) (b := 1) rfl rfl e984) ?_
                      obtain ⟨x985, e986, hF⟩ := bindO_some hF
                      obtain ⟨b987, o988, c989, cs990, q991, h994, h992, h993, h995⟩ := rd_at (H.item (i := 0) rfl) e986
                      obtain rfl := rSample_open h994
                      have H := H.fz (.at b987 (o988 + x983.toNat * 3) _) ⟨h992, h993, h995⟩
                      refine Mx.XL_pure rfl rfl rfl (fun w' hw' => Do_idx u91 sz99 q991 rfl (at_some e986).1 (at_some e986).2.1 rfl rfl) ?_
                      refine Mx.XL_pure rfl rfl rfl (fun w' hw' => fa99_0 rfl) ?_
                      refine Mx.XL_read oS rfl rfl rfl (fun w' hw' => Do_load one3 rfl (Cells.get ((H.sees hw').item (i := 3) rfl).2.2 (i := 0) rfl)) ?_
                      obtain ⟨x997, e998, hF⟩ := letO_some hF
                      refine Mx.XL_pure rfl rfl rfl (fun w' hw' => Do_as (Do_leq (a := x870.At) (b := x985.At) rfl rfl) (congrArg Value.bool e998)) ?_
                      refine Mx.XL_pure rfl rfl rfl (fun w' hw' => Do_pick_t (v := .bool x997) rfl rfl) ?_
                      refine Mx.XL_pure rfl rfl rfl (fun w' hw' => Do_assign (v := .bool x997) rfl) ?_
                      refine Mx.XL_nil fun w999 hS => ?_
                      have H := H.sees hS
                      have H := H978.rejoin H
                      have hR := Option.some.inj hF
                      subst hR
                      refine (thenQ_n (And.intro ?_ ?_))
                      · repeat' (first | with_reducible exact Fr_refl | refine Fr_upd rfl ?_ | refine Fr_over rfl rfl ?_)
                      · exact ⟨(), (Sl_cons rfl Sl_nil), H.pick [0, 1] (by decide)⟩
                    · have hF := iteB_f c982 hF
                      refine Mx.XL_offp rfl rfl rfl ?_
                      refine Mx.XL_offr oS rfl rfl rfl ?_
                      refine Mx.XL_offp rfl rfl rfl ?_
                      refine Mx.XL_offr oS rfl rfl rfl ?_
                      refine Mx.XL_offp rfl rfl rfl ?_
                      refine Mx.XL_offp rfl rfl rfl ?_
                      refine Mx.XL_offp rfl rfl rfl ?_
                      refine Mx.XL_offp rfl rfl rfl ?_
                      refine Mx.XL_offr oS rfl rfl rfl ?_
                      refine Mx.XL_offp rfl rfl rfl ?_
                      refine Mx.XL_pure rfl rfl rfl (fun w' hw' => Do_pick_f (v := .bool false) rfl rfl) ?_
                      refine Mx.XL_pure rfl rfl rfl (fun w' hw' => Do_assign (v := .bool false) rfl) ?_
                      refine Mx.XL_nil fun w1000 hS => ?_
                      have H := H.sees hS
                      have H := H978.rejoin H
                      have hR := Option.some.inj hF
                      subst hR
                      refine (thenQ_n (And.intro ?_ ?_))
                      · repeat' (first | with_reducible exact Fr_refl | refine Fr_upd rfl ?_ | refine Fr_over rfl rfl ?_)
                      · exact ⟨(), (Sl_cons rfl Sl_nil), H.pick [0, 1] (by decide)⟩
                  · rintro _ ρ w976 H
                    have hF := hK977
                    refine WP_ifb (b := g975) rfl (fun c1001 => ?_) (fun c1001 => ?_)
                    · have hF := iteB_t c1001 hF
                      refine WP_seq_k fun K1002 hK1002 => ?_
                      refine WP_region ?_
                      refine RL_do rfl rfl (Do_move (v := .int .i64 g772) rfl) ?_
                      refine RL_do rfl rfl (Do_assign (v := .int .i64 g772) rfl) ?_
                      refine RL_do rfl rfl (Do_assign (v := .int .i64 10) rfl) ?_
                      refine (RL_nil (thenQ_n (hK1002 _ _ ?_)))
                      have hR := Option.some.inj hF
                      subst hR
                      refine (WP_ret (blockQ_r (blockQ_r (thenQ_r (thenQ_r (blockQ_r (thenQ_r (post2 (v1 := .int .i64 g772) (v2 := .int .i64 10) rfl rfl rfl ?_))))))))
                      exact ⟨rfl, H.pick [] (by decide)⟩
                    · have hF := iteB_f c1001 hF
                      refine (WP_skip (blockQ_n (blockQ_n (thenQ_n (hK868 _ _ ?_)))))
                      refine WP_region ?_
                      obtain ⟨x1003, e1004, hF⟩ := letO_some hF
                      refine RL_do rfl rfl (Do_add (a := g772) (b := 1) rfl rfl e1004) ?_
                      refine RL_do rfl rfl (Do_move (v := .int .i64 x1003) rfl) ?_
                      refine (RL_nil (thenQ_n (And.intro ?_ ?_)))
                      · repeat' (first | with_reducible exact Fr_refl | refine Fr_upd rfl ?_ | refine Fr_over rfl rfl ?_)
                      · exact ⟨(n778, x1003), (Sl_cons rfl Sl_nil), ⟨H.pick [0, 1] (by decide), hF⟩, Nat.lt_succ_self _⟩
        · have hF := iteB_f c784 hF
          refine (WP_exit (thenQ_x (thenQ_x (blockQ_eq (thenQ_n (And.intro ?_ ?_))))))
          · repeat' (first | with_reducible exact Fr_refl | refine Fr_upd rfl ?_ | refine Fr_over rfl rfl ?_)
          · exact ⟨(), Sl_nil, ⟨H.pick [] (by decide), hF⟩⟩
      · rintro _ ρ w412 ⟨H, hF⟩
        have hF := join_body ek414 hF
        refine WP_seq_k fun K1005 hK1005 => ?_
        refine WP_region ?_
        refine RL_do rfl rfl (Do_assign (v := .int .i64 (-1)) rfl) ?_
        refine RL_do rfl rfl (Do_assign (v := .int .i64 0) rfl) ?_
        refine (RL_nil (thenQ_n (hK1005 _ _ ?_)))
        have hR := Option.some.inj hF
        subst hR
        refine (WP_ret (post2 (v1 := .int .i64 (-1)) (v2 := .int .i64 0) rfl rfl rfl ?_))
        exact ⟨rfl, H.pick [] (by decide)⟩
end Go.Proofs.YtbjhondbheijiaaDoor.L
namespace Go.Proofs.YtbjhondbheijiaaDoor.L
open Go.RowKit Go.OB Go.Lf
/- orangebox/series.Check -/
set_option maxHeartbeats 4000000 in
theorem F_series_Check_w (p0 : Series) (v1 : Value) (r : Int) (hF : F_series_Check p0 = some r) (O S : List Nat) (w : World) (H : Hd O w w S [.fz (.sl rSample v1 p0.Samples)]) :
    Calls Tryd.prog 66 ([.agg [.int .i64 p0.Den, v1].toArray] : List Value).toArray w fun e w' => e = .returned (.int .i64 r) ∧ Hd O w w' S [] := by
  unfold F_series_Check at hF
  refine calls_of_WP 11 Tryd.func66 rfl rfl rfl ?_
  refine WP_seq_k fun K3 hK3 => ?_
  refine WP_region ?_
  refine RL_ex rfl rfl (Lx_box (cs := [.int .i64 p0.Den, v1]) rfl H) ?_
  rintro _ w6 ⟨b4, rfl, H⟩
  refine RL_do rfl rfl (Do_assign (v := .int .i64 0) rfl) ?_
  refine (RL_nil (thenQ_n (hK3 _ _ ?_)))
  refine WP_seq_k fun K7 hK7 => ?_
  refine WP_region ?_
  refine RL_do rfl rfl (Do_as (Do_loads (cs := [.int .i64 p0.Den, v1]) agg93 rfl sz93 rfl (Blk.cells (H.item (i := 1) rfl))) rfl) ?_
  have H8 := H
  obtain ⟨⟨x9, x10⟩, e11, hF⟩ := bindO_some hF
  refine RL_call rfl rfl (DoC_func en84 rfl) (F_series_check_w p0 v1 _ e11 _ _ _ (H.enter [] [0] (by decide) rfl)) ?_
  rintro _ w12 ⟨rfl, G13⟩
  have H := H8.step (G13.only : Only [] _ _)
  refine ⟨_, rfl, ?_⟩
  refine RL_do rfl rfl (Do_move (v := .tuple #[.int .i64 x9, .int .i64 x10]) rfl) ?_
  refine RL_do rfl rfl (Do_extract (v := .int .i64 x9) rfl rfl) ?_
  refine RL_do rfl rfl (Do_extract (v := .int .i64 x10) rfl rfl) ?_
  refine RL_do rfl rfl (Do_assign (v := .int .i64 x9) rfl) ?_
  refine RL_do rfl rfl (Do_assign (v := .int .i64 x10) rfl) ?_
  refine (RL_nil (thenQ_n (hK7 _ _ ?_)))
  refine WP_seq_k fun K14 hK14 => ?_
  refine WP_region ?_
  refine RL_do rfl rfl (Do_move (v := .int .i64 x10) rfl) ?_
  refine RL_do rfl rfl (Do_assign (v := .int .i64 x10) rfl) ?_
  refine (RL_nil (thenQ_n (hK14 _ _ ?_)))
  have hR := Option.some.inj hF
  subst hR
  refine (WP_ret (post1 (v1 := .int .i64 x10) rfl rfl ?_))
  exact ⟨rfl, H.pick [] (by decide)⟩
end Go.Proofs.YtbjhondbheijiaaDoor.L
