/- Walks: what each function computes, for every argument; no condition but those that stand in the statements. -/
import Derived.Test.YtbjhondbheijiaaGreatDoorRows
import Derived.Test.YtbjhondbheijiaaGreatDoorGP
import Derived.Test.YtbjhondbheijiaaGreatDoorXYa
namespace Go.Proofs.YtbjhondbheijiaaGreatDoor.E
open Go.RowKit Go.OB Go.Lf
theorem u165 : Tryz.prog.underlying 165 = some (.array 20 51) := Tryz.underlying165
theorem sz51 : Sz Tryz.prog 51 1 := by unfold Sz; kernel_rfl
theorem one51 : OneC Tryz.prog 51 := by unfold OneC; kernel_rfl
theorem en96 : Go.OB.Enters Tryz.prog 96 := ⟨_, Tryz.func96, rfl, by kernel_rfl⟩
theorem en121 : Go.OB.Enters Tryz.prog 121 := ⟨_, Tryz.func121, rfl, by kernel_rfl⟩
theorem en122 : Go.OB.Enters Tryz.prog 122 := ⟨_, Tryz.func122, rfl, by kernel_rfl⟩
theorem mixed : Tryz.prog.follows .mixedOrders = true := by kernel_rfl
end Go.Proofs.YtbjhondbheijiaaGreatDoor.E
namespace Go.Proofs.YtbjhondbheijiaaGreatDoor.E
open Go.RowKit Go.OB Go.Lf
/- internal/strconv.log10Pow2 -/
set_option maxHeartbeats 4000000 in
theorem F_internal_strconv_log10Pow2_w (p0 : Int) (r : Int) (hF : F_internal_strconv_log10Pow2 p0 = some r) (O S : List Nat) (w : World) (H : Hd O w w S []) :
    Calls Tryz.prog 121 ([.int .i64 p0] : List Value).toArray w fun e w' => e = .returned (.int .i64 r) ∧ Hd O w w' S [] := by
  unfold F_internal_strconv_log10Pow2 at hF
  refine yB 6 Tryz.func121 rfl rfl rfl ?_
  refine zD fun K1 hK1 => ?_
  refine zC ?_
  refine zA rfl rfl (zF (v := .int .i64 0) rfl) ?_
  refine (zI (zB (hK1 _ _ ?_)))
  refine zD fun K2 hK2 => ?_
  refine zC ?_
  refine zA rfl rfl (zG (v := .int .i64 p0) rfl) ?_
  obtain ⟨x3, e4, hF⟩ := zH hF
  refine zA rfl rfl (Do_mul (a := p0) (b := 78913) rfl rfl e4) ?_
  obtain ⟨x5, e6, hF⟩ := zJ hF
  refine zA rfl rfl (Do_shr' (j := x3) (q := 18) rfl rfl e6) ?_
  refine zA rfl rfl (zF (v := .int .i64 x5) rfl) ?_
  refine (zI (zB (hK2 _ _ ?_)))
  have hR := Option.some.inj hF
  subst hR
  refine (yG (post1 (v1 := .int .i64 x5) rfl rfl ?_))
  exact ⟨rfl, H.pick [] (by decide)⟩
end Go.Proofs.YtbjhondbheijiaaGreatDoor.E
namespace Go.Proofs.YtbjhondbheijiaaGreatDoor.E
open Go.RowKit Go.OB Go.Lf
/- internal/strconv.bool2[int] -/
set_option maxHeartbeats 4000000 in
theorem F_internal_strconv_bool2_int__w (p0 : Bool) (r : Int) (hF : F_internal_strconv_bool2_int_ p0 = some r) (O S : List Nat) (w : World) (H : Hd O w w S []) :
    Calls Tryz.prog 122 ([.bool p0] : List Value).toArray w fun e w' => e = .returned (.int .i64 r) ∧ Hd O w w' S [] := by
  unfold F_internal_strconv_bool2_int_ at hF
  refine yB 4 Tryz.func122 rfl rfl rfl ?_
  refine zD fun K1 hK1 => ?_
  refine zC ?_
  refine zA rfl rfl (zF (v := .int .i64 0) rfl) ?_
  refine (zI (zB (hK1 _ _ ?_)))
  refine zD fun K5 hK5 => ?_
  refine zD fun K6 hK6 => ?_
  refine zC ?_
  refine zA rfl rfl (zG (v := .bool p0) rfl) ?_
  refine (zI (zB (hK6 _ _ ?_)))
  refine yF (b := p0) rfl (fun c7 => ?_) (fun c7 => ?_)
  · have hF := zW c7 hF
    refine zD fun K8 hK8 => ?_
    refine zC ?_
    refine zA rfl rfl (zF (v := .int .i64 1) rfl) ?_
    refine (zI (zB (hK8 _ _ ?_)))
    have hR := Option.some.inj hF
    subst hR
    refine (yG (zZ (post1 (v1 := .int .i64 1) rfl rfl ?_)))
    exact ⟨rfl, H.pick [] (by decide)⟩
  · have hF := zX c7 hF
    refine (yA (zB (hK5 _ _ ?_)))
    refine zD fun K9 hK9 => ?_
    refine zC ?_
    refine zA rfl rfl (zF (v := .int .i64 0) rfl) ?_
    refine (zI (zB (hK9 _ _ ?_)))
    have hR := Option.some.inj hF
    subst hR
    refine (yG (post1 (v1 := .int .i64 0) rfl rfl ?_))
    exact ⟨rfl, H.pick [] (by decide)⟩
end Go.Proofs.YtbjhondbheijiaaGreatDoor.E
namespace Go.Proofs.YtbjhondbheijiaaGreatDoor.E
open Go.RowKit Go.OB Go.Lf
/- internal/strconv.numDigits -/
set_option maxHeartbeats 4000000 in
theorem F_internal_strconv_numDigits_w (p0 : Int) (r : Int) (hF : F_internal_strconv_numDigits p0 = some r) (O S : List Nat) (w : World) (H : Hd O w w S [.fz (.at 2 0 ((Fl.arr 20 (Fl.int .u64)).f zY))]) :
    Calls Tryz.prog 118 ([.int .u64 p0] : List Value).toArray w fun e w' => e = .returned (.int .i64 r) ∧ Hd O w w' S [] := by
  unfold F_internal_strconv_numDigits at hF
  refine yB 15 Tryz.func118 rfl rfl rfl ?_
  refine zD fun K2 hK2 => ?_
  refine zC ?_
  refine zA rfl rfl (zF (v := .int .i64 0) rfl) ?_
  refine (zI (zB (hK2 _ _ ?_)))
  refine zD fun K3 hK3 => ?_
  refine zC ?_
  refine zA rfl rfl (zG (v := .int .u64 p0) rfl) ?_
  have H4 := H
  obtain ⟨x5, e6, hF⟩ := zJ hF
  refine yJ rfl rfl (yC en96 rfl) (X_Len64_w p0 _ e6 _ _ _ (H.enter [] [] (by decide) rfl)) ?_
  rintro _ w7 ⟨rfl, G8⟩
  have H := H4.step (G8.only : Only [] _ _)
  refine ⟨_, rfl, ?_⟩
  have H9 := H
  obtain ⟨x10, e11, hF⟩ := zJ hF
  refine yJ rfl rfl (yC en121 rfl) (F_internal_strconv_log10Pow2_w x5 _ e11 _ _ _ (H.enter [] [] (by decide) rfl)) ?_
  rintro _ w12 ⟨rfl, G13⟩
  have H := H9.step (G13.only : Only [] _ _)
  refine ⟨_, rfl, ?_⟩
  refine zA rfl rfl (zF (v := .int .i64 x10) rfl) ?_
  refine (zI (zB (hK3 _ _ ?_)))
  refine zD fun K14 hK14 => ?_
  refine zC ?_
  refine zA rfl rfl (zG (v := .int .i64 x10) rfl) ?_
  refine zA rfl rfl (zG (v := .int .u64 p0) rfl) ?_
  refine zA rfl rfl (zG (v := .int .i64 x10) rfl) ?_
  obtain ⟨x15, e16, hF⟩ := zJ hF
  refine zA rfl rfl (Do_idxA (X := zY) u165 sz51 rfl rfl e16) ?_
  refine zA rfl rfl (Do_load1 (v := .int .u64 x15) one51 rfl (Cells.ix (e := (Fl.int .u64)) (x := zY) (H.item (i := 0) rfl).2.2 e16)) ?_
  obtain ⟨x17, e18, hF⟩ := zH hF
  refine zA rfl rfl (zT (Do_geq (a := p0) (b := x15) rfl rfl) (congrArg Value.bool e18)) ?_
  have H19 := H
  obtain ⟨x20, e21, hF⟩ := zJ hF
  refine yJ rfl rfl (yC en122 rfl) (F_internal_strconv_bool2_int__w x17 _ e21 _ _ _ (H.enter [] [] (by decide) rfl)) ?_
  rintro _ w22 ⟨rfl, G23⟩
  have H := H19.step (G23.only : Only [] _ _)
  refine ⟨_, rfl, ?_⟩
  obtain ⟨x24, e25, hF⟩ := zH hF
  refine zA rfl rfl (xJ (a := x10) (b := x20) rfl rfl e25) ?_
  refine zA rfl rfl (zF (v := .int .i64 x24) rfl) ?_
  refine (zI (zB (hK14 _ _ ?_)))
  have hR := Option.some.inj hF
  subst hR
  refine (yG (post1 (v1 := .int .i64 x24) rfl rfl ?_))
  exact ⟨rfl, H.pick [] (by decide)⟩
end Go.Proofs.YtbjhondbheijiaaGreatDoor.E
