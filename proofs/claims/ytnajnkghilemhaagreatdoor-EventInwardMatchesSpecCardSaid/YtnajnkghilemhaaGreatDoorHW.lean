/- Walks: what each function computes, for every argument; no condition but those that stand in the statements. -/
import Derived.Test.YtnajnkghilemhaaGreatDoorRows
import Derived.Test.YtnajnkghilemhaaGreatDoorHP
import Derived.Test.YtnajnkghilemhaaGreatDoorXVa
namespace Go.Proofs.YtnajnkghilemhaaGreatDoor.E
open Go.RowKit Go.OB Go.Lf
theorem u285 : Tryz.prog.underlying 285 = some (.array 20 251) := Tryz.underlying285
theorem sz251 : Sz Tryz.prog 251 1 := by unfold Sz; kernel_rfl
theorem one251 : OneC Tryz.prog 251 := by unfold OneC; kernel_rfl
theorem en220 : Go.OB.Enters Tryz.prog 220 := ⟨_, Tryz.func220, rfl, by kernel_rfl⟩
theorem en222 : Go.OB.Enters Tryz.prog 222 := ⟨_, Tryz.func222, rfl, by kernel_rfl⟩
theorem en223 : Go.OB.Enters Tryz.prog 223 := ⟨_, Tryz.func223, rfl, by kernel_rfl⟩
theorem mixed : Tryz.prog.follows .mixedOrders = true := by kernel_rfl
set_option maxHeartbeats 4000000 in
theorem F_internal_strconv_log10Pow2_w (p0 : Int) (r : Int) (hF : F_internal_strconv_log10Pow2 p0 = some r) (O S : List Nat) (w : World) (H : Hd O w w S []) :
    Calls Tryz.prog 222 ([.int .i64 p0] : List Value).toArray w fun e w' => e = .returned (.int .i64 r) ∧ Hd O w w' S [] := by
  unfold F_internal_strconv_log10Pow2 at hF
  refine yB 6 Tryz.func222 rfl rfl rfl ?_
  refine zC fun K1 hK1 => ?_
  refine zB ?_
  refine RL_do rfl rfl (xU (v := .int .i64 0) rfl) ?_
  refine (zF (zA (hK1 _ _ ?_)))
  refine zC fun K2 hK2 => ?_
  refine zB ?_
  refine RL_do rfl rfl (xI (v := .int .i64 p0) rfl) ?_
  obtain ⟨x3, e4, hF⟩ := zG hF
  refine RL_do rfl rfl (Do_mul (a := p0) (b := 78913) rfl rfl e4) ?_
  obtain ⟨x5, e6, hF⟩ := zD hF
  refine RL_do rfl rfl (Do_shr' (j := x3) (q := 18) rfl rfl e6) ?_
  refine RL_do rfl rfl (xU (v := .int .i64 x5) rfl) ?_
  refine (zF (zA (hK2 _ _ ?_)))
  have hR := Option.some.inj hF
  subst hR
  refine (zZ (post1 (v1 := .int .i64 x5) rfl rfl ?_))
  exact ⟨rfl, H.pick [] (by decide)⟩
set_option maxHeartbeats 4000000 in
theorem F_internal_strconv_bool2_int__w (p0 : Bool) (r : Int) (hF : F_internal_strconv_bool2_int_ p0 = some r) (O S : List Nat) (w : World) (H : Hd O w w S []) :
    Calls Tryz.prog 223 ([.bool p0] : List Value).toArray w fun e w' => e = .returned (.int .i64 r) ∧ Hd O w w' S [] := by
  unfold F_internal_strconv_bool2_int_ at hF
  refine yB 4 Tryz.func223 rfl rfl rfl ?_
  refine zC fun K1 hK1 => ?_
  refine zB ?_
  refine RL_do rfl rfl (xU (v := .int .i64 0) rfl) ?_
  refine (zF (zA (hK1 _ _ ?_)))
  refine zC fun K5 hK5 => ?_
  refine zC fun K6 hK6 => ?_
  refine zB ?_
  refine RL_do rfl rfl (xI (v := .bool p0) rfl) ?_
  refine (zF (zA (hK6 _ _ ?_)))
  refine zW (b := p0) rfl (fun c7 => ?_) (fun c7 => ?_)
  · have hF := zO c7 hF
    refine zC fun K8 hK8 => ?_
    refine zB ?_
    refine RL_do rfl rfl (xU (v := .int .i64 1) rfl) ?_
    refine (zF (zA (hK8 _ _ ?_)))
    have hR := Option.some.inj hF
    subst hR
    refine (zZ (zY (post1 (v1 := .int .i64 1) rfl rfl ?_)))
    exact ⟨rfl, H.pick [] (by decide)⟩
  · have hF := zN c7 hF
    refine (yA (zA (hK5 _ _ ?_)))
    refine zC fun K9 hK9 => ?_
    refine zB ?_
    refine RL_do rfl rfl (xU (v := .int .i64 0) rfl) ?_
    refine (zF (zA (hK9 _ _ ?_)))
    have hR := Option.some.inj hF
    subst hR
    refine (zZ (post1 (v1 := .int .i64 0) rfl rfl ?_))
    exact ⟨rfl, H.pick [] (by decide)⟩
set_option maxHeartbeats 4000000 in
theorem F_internal_strconv_numDigits_w (p0 : Int) (r : Int) (hF : F_internal_strconv_numDigits p0 = some r) (O S : List Nat) (w : World) (H : Hd O w w S [.fz (.at 3 0 ((Fl.arr 20 (Fl.int .u64)).f zQ))]) :
    Calls Tryz.prog 199 ([.int .u64 p0] : List Value).toArray w fun e w' => e = .returned (.int .i64 r) ∧ Hd O w w' S [] := by
  unfold F_internal_strconv_numDigits at hF
  refine yB 15 Tryz.func199 rfl rfl rfl ?_
  refine zC fun K2 hK2 => ?_
  refine zB ?_
  refine RL_do rfl rfl (xU (v := .int .i64 0) rfl) ?_
  refine (zF (zA (hK2 _ _ ?_)))
  refine zC fun K3 hK3 => ?_
  refine zB ?_
  refine RL_do rfl rfl (xI (v := .int .u64 p0) rfl) ?_
  have H4 := H
  obtain ⟨x5, e6, hF⟩ := zD hF
  refine zV rfl rfl (zU en220 rfl) (X_Len64_w p0 _ e6 _ _ _ (H.enter [] [] (by decide) rfl)) ?_
  rintro _ w7 ⟨rfl, G8⟩
  have H := H4.step (G8.only : Only [] _ _)
  refine ⟨_, rfl, ?_⟩
  have H9 := H
  obtain ⟨x10, e11, hF⟩ := zD hF
  refine zV rfl rfl (zU en222 rfl) (F_internal_strconv_log10Pow2_w x5 _ e11 _ _ _ (H.enter [] [] (by decide) rfl)) ?_
  rintro _ w12 ⟨rfl, G13⟩
  have H := H9.step (G13.only : Only [] _ _)
  refine ⟨_, rfl, ?_⟩
  refine RL_do rfl rfl (xU (v := .int .i64 x10) rfl) ?_
  refine (zF (zA (hK3 _ _ ?_)))
  refine zC fun K14 hK14 => ?_
  refine zB ?_
  refine RL_do rfl rfl (xI (v := .int .i64 x10) rfl) ?_
  refine RL_do rfl rfl (xI (v := .int .u64 p0) rfl) ?_
  refine RL_do rfl rfl (xI (v := .int .i64 x10) rfl) ?_
  obtain ⟨x15, e16, hF⟩ := zD hF
  refine RL_do rfl rfl (Do_idxA (X := zQ) u285 sz251 rfl rfl e16) ?_
  refine RL_do rfl rfl (Do_load1 (v := .int .u64 x15) one251 rfl (Cells.ix (e := (Fl.int .u64)) (x := zQ) (H.item (i := 0) rfl).2.2 e16)) ?_
  obtain ⟨x17, e18, hF⟩ := zG hF
  refine RL_do rfl rfl (yQ (Do_geq (a := p0) (b := x15) rfl rfl) (congrArg Value.bool e18)) ?_
  have H19 := H
  obtain ⟨x20, e21, hF⟩ := zD hF
  refine zV rfl rfl (zU en223 rfl) (F_internal_strconv_bool2_int__w x17 _ e21 _ _ _ (H.enter [] [] (by decide) rfl)) ?_
  rintro _ w22 ⟨rfl, G23⟩
  have H := H19.step (G23.only : Only [] _ _)
  refine ⟨_, rfl, ?_⟩
  obtain ⟨x24, e25, hF⟩ := zG hF
  refine RL_do rfl rfl (wC (a := x10) (b := x20) rfl rfl e25) ?_
  refine RL_do rfl rfl (xU (v := .int .i64 x24) rfl) ?_
  refine (zF (zA (hK14 _ _ ?_)))
  have hR := Option.some.inj hF
  subst hR
  refine (zZ (post1 (v1 := .int .i64 x24) rfl rfl ?_))
  exact ⟨rfl, H.pick [] (by decide)⟩
end Go.Proofs.YtnajnkghilemhaaGreatDoor.E
