/- Walks: what each function computes, for every argument; no condition but those that stand in the statements. -/
import Derived.Test.YtbjhondbheijiaaDoorRows
import Derived.Test.YtbjhondbheijiaaDoorEP
import Derived.Test.YtbjhondbheijiaaDoorXEa
namespace Go.Proofs.YtbjhondbheijiaaDoor.E
open Go.RowKit Go.OB Go.Lf
theorem u131 : Tryd.prog.underlying 131 = some (.array 20 119) := Tryd.underlying131
theorem sz119 : Sz Tryd.prog 119 1 := by unfold Sz; kernel_rfl
theorem one119 : OneC Tryd.prog 119 := by unfold OneC; kernel_rfl
theorem en100 : Go.OB.Enters Tryd.prog 100 := ⟨_, Tryd.func100, rfl, by kernel_rfl⟩
theorem en101 : Go.OB.Enters Tryd.prog 101 := ⟨_, Tryd.func101, rfl, by kernel_rfl⟩
theorem en102 : Go.OB.Enters Tryd.prog 102 := ⟨_, Tryd.func102, rfl, by kernel_rfl⟩
theorem mixed : Tryd.prog.follows .mixedOrders = true := by kernel_rfl
end Go.Proofs.YtbjhondbheijiaaDoor.E
namespace Go.Proofs.YtbjhondbheijiaaDoor.E
open Go.RowKit Go.OB Go.Lf
/- internal/strconv.log10Pow2 -/
set_option maxHeartbeats 4000000 in
theorem F_internal_strconv_log10Pow2_w (p0 : Int) (r : Int) (hF : F_internal_strconv_log10Pow2 p0 = some r) (O S : List Nat) (w : World) (H : Hd O w w S []) :
    Calls Tryd.prog 100 ([.int .i64 p0] : List Value).toArray w fun e w' => e = .returned (.int .i64 r) ∧ Hd O w w' S [] := by
  unfold F_internal_strconv_log10Pow2 at hF
  refine calls_of_WP 6 Tryd.func100 rfl rfl rfl ?_
  refine WP_seq_k fun K1 hK1 => ?_
  refine WP_region ?_
  refine RL_do rfl rfl (Do_assign (v := .int .i64 0) rfl) ?_
  refine (RL_nil (thenQ_n (hK1 _ _ ?_)))
  refine WP_seq_k fun K2 hK2 => ?_
  refine WP_region ?_
  refine RL_do rfl rfl (Do_move (v := .int .i64 p0) rfl) ?_
  obtain ⟨x3, e4, hF⟩ := letO_some hF
  refine RL_do rfl rfl (Do_mul (a := p0) (b := 78913) rfl rfl e4) ?_
  obtain ⟨x5, e6, hF⟩ := bindO_some hF
  refine RL_do rfl rfl (Do_shr' (j := x3) (q := 18) rfl rfl e6) ?_
  refine RL_do rfl rfl (Do_assign (v := .int .i64 x5) rfl) ?_
  refine (RL_nil (thenQ_n (hK2 _ _ ?_)))
  have hR := Option.some.inj hF
  subst hR
  refine (WP_ret (post1 (v1 := .int .i64 x5) rfl rfl ?_))
  exact ⟨rfl, H.pick [] (by decide)⟩
end Go.Proofs.YtbjhondbheijiaaDoor.E
namespace Go.Proofs.YtbjhondbheijiaaDoor.E
open Go.RowKit Go.OB Go.Lf
/- internal/strconv.bool2[int] -/
set_option maxHeartbeats 4000000 in
theorem F_internal_strconv_bool2_int__w (p0 : Bool) (r : Int) (hF : F_internal_strconv_bool2_int_ p0 = some r) (O S : List Nat) (w : World) (H : Hd O w w S []) :
    Calls Tryd.prog 102 ([.bool p0] : List Value).toArray w fun e w' => e = .returned (.int .i64 r) ∧ Hd O w w' S [] := by
  unfold F_internal_strconv_bool2_int_ at hF
  refine calls_of_WP 4 Tryd.func102 rfl rfl rfl ?_
  refine WP_seq_k fun K1 hK1 => ?_
  refine WP_region ?_
  refine RL_do rfl rfl (Do_assign (v := .int .i64 0) rfl) ?_
  refine (RL_nil (thenQ_n (hK1 _ _ ?_)))
  refine WP_seq_k fun K5 hK5 => ?_
  refine WP_seq_k fun K6 hK6 => ?_
  refine WP_region ?_
  refine RL_do rfl rfl (Do_move (v := .bool p0) rfl) ?_
  refine (RL_nil (thenQ_n (hK6 _ _ ?_)))
  refine WP_ifb (b := p0) rfl (fun c7 => ?_) (fun c7 => ?_)
  · have hF := iteB_t c7 hF
    refine WP_seq_k fun K8 hK8 => ?_
    refine WP_region ?_
    refine RL_do rfl rfl (Do_assign (v := .int .i64 1) rfl) ?_
    refine (RL_nil (thenQ_n (hK8 _ _ ?_)))
    have hR := Option.some.inj hF
    subst hR
    refine (WP_ret (thenQ_r (post1 (v1 := .int .i64 1) rfl rfl ?_)))
    exact ⟨rfl, H.pick [] (by decide)⟩
  · have hF := iteB_f c7 hF
    refine (WP_skip (thenQ_n (hK5 _ _ ?_)))
    refine WP_seq_k fun K9 hK9 => ?_
    refine WP_region ?_
    refine RL_do rfl rfl (Do_assign (v := .int .i64 0) rfl) ?_
    refine (RL_nil (thenQ_n (hK9 _ _ ?_)))
    have hR := Option.some.inj hF
    subst hR
    refine (WP_ret (post1 (v1 := .int .i64 0) rfl rfl ?_))
    exact ⟨rfl, H.pick [] (by decide)⟩
end Go.Proofs.YtbjhondbheijiaaDoor.E
namespace Go.Proofs.YtbjhondbheijiaaDoor.E
open Go.RowKit Go.OB Go.Lf
/- internal/strconv.numDigits -/
set_option maxHeartbeats 4000000 in
theorem F_internal_strconv_numDigits_w (p0 : Int) (r : Int) (hF : F_internal_strconv_numDigits p0 = some r) (O S : List Nat) (w : World) (H : Hd O w w S [.fz (.at 0 0 ((Fl.arr 20 (Fl.int .u64)).f G_internal_strconv_uint64pow10))]) :
    Calls Tryd.prog 91 ([.int .u64 p0] : List Value).toArray w fun e w' => e = .returned (.int .i64 r) ∧ Hd O w w' S [] := by
  unfold F_internal_strconv_numDigits at hF
  refine calls_of_WP 15 Tryd.func91 rfl rfl rfl ?_
  refine WP_seq_k fun K2 hK2 => ?_
  refine WP_region ?_
  refine RL_do rfl rfl (Do_assign (v := .int .i64 0) rfl) ?_
  refine (RL_nil (thenQ_n (hK2 _ _ ?_)))
  refine WP_seq_k fun K3 hK3 => ?_
  refine WP_region ?_
  refine RL_do rfl rfl (Do_move (v := .int .u64 p0) rfl) ?_
  have H4 := H
  obtain ⟨x5, e6, hF⟩ := bindO_some hF
  refine RL_call rfl rfl (DoC_func en101 rfl) (X_Len64_w p0 _ e6 _ _ _ (H.enter [] [] (by decide) rfl)) ?_
  rintro _ w7 ⟨rfl, G8⟩
  have H := H4.step (G8.only : Only [] _ _)
  refine ⟨_, rfl, ?_⟩
  have H9 := H
  obtain ⟨x10, e11, hF⟩ := bindO_some hF
  refine RL_call rfl rfl (DoC_func en100 rfl) (F_internal_strconv_log10Pow2_w x5 _ e11 _ _ _ (H.enter [] [] (by decide) rfl)) ?_
  rintro _ w12 ⟨rfl, G13⟩
  have H := H9.step (G13.only : Only [] _ _)
  refine ⟨_, rfl, ?_⟩
  refine RL_do rfl rfl (Do_assign (v := .int .i64 x10) rfl) ?_
  refine (RL_nil (thenQ_n (hK3 _ _ ?_)))
  refine WP_seq_k fun K14 hK14 => ?_
  refine WP_region ?_
  refine RL_do rfl rfl (Do_move (v := .int .i64 x10) rfl) ?_
  refine RL_do rfl rfl (Do_move (v := .int .u64 p0) rfl) ?_
  refine RL_do rfl rfl (Do_move (v := .int .i64 x10) rfl) ?_
  obtain ⟨x15, e16, hF⟩ := bindO_some hF
  refine RL_do rfl rfl (Do_idxA (X := G_internal_strconv_uint64pow10) u131 sz119 rfl rfl e16) ?_
  refine RL_do rfl rfl (Do_load1 (v := .int .u64 x15) one119 rfl (Cells.ix (e := (Fl.int .u64)) (x := G_internal_strconv_uint64pow10) (H.item (i := 0) rfl).2.2 e16)) ?_
  obtain ⟨x17, e18, hF⟩ := letO_some hF
  refine RL_do rfl rfl (Do_as (Do_geq (a := p0) (b := x15) rfl rfl) (congrArg Value.bool e18)) ?_
  have H19 := H
  obtain ⟨x20, e21, hF⟩ := bindO_some hF
  refine RL_call rfl rfl (DoC_func en102 rfl) (F_internal_strconv_bool2_int__w x17 _ e21 _ _ _ (H.enter [] [] (by decide) rfl)) ?_
  rintro _ w22 ⟨rfl, G23⟩
  have H := H19.step (G23.only : Only [] _ _)
  refine ⟨_, rfl, ?_⟩
  obtain ⟨x24, e25, hF⟩ := letO_some hF
  refine RL_do rfl rfl (Do_add (a := x10) (b := x20) rfl rfl e25) ?_
  refine RL_do rfl rfl (Do_assign (v := .int .i64 x24) rfl) ?_
  refine (RL_nil (thenQ_n (hK14 _ _ ?_)))
  have hR := Option.some.inj hF
  subst hR
  refine (WP_ret (post1 (v1 := .int .i64 x24) rfl rfl ?_))
  exact ⟨rfl, H.pick [] (by decide)⟩
end Go.Proofs.YtbjhondbheijiaaDoor.E
