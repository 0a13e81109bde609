/- Walks: what each function computes, for every argument; no condition but those that stand in the statements. -/
import Derived.Test.YtbjhondbheijiaaGreatDoorYV0
import Derived.Test.YtbjhondbheijiaaGreatDoorYV4
namespace Go.Proofs.YtbjhondbheijiaaGreatDoor.L
open Go.RowKit Go.OB Go.Lf
/- orangebox/orangeboxref6.CheckTracks -/
set_option maxHeartbeats 4000000 in
theorem F_ref6_CheckTracks_w (p0 : List Track) (v1 : Value) (r : Int) (hF : F_ref6_CheckTracks p0 = some r) (O S : List Nat) (w : World) (H : Hd O w w S [.fz (.sl rTrack v1 p0)]) :
  Calls Tryz.prog 60 ([v1] : List Value).toArray w fun e w' => e = .returned (.int .i64 r) ∧ Hd O w w' S [] := by
 unfold F_ref6_CheckTracks at hF
 refine yB 53 Tryz.func60 rfl rfl rfl ?_
 refine zD fun K3 hK3 => ?_
 refine zC ?_
 refine zA rfl rfl (zF (v := .int .i64 0) rfl) ?_
 refine (zI (zB (hK3 _ _ ?_)))
 refine zD fun K14 hK14 => ?_
 refine zD fun K15 hK15 => ?_
 refine zC ?_
 refine zA rfl rfl (zG (v := v1) rfl) ?_
 obtain ⟨x16, e17, hF⟩ := zH hF
 obtain ⟨a18, c19, q20⟩ := SlF.len ((H.item (i := 0) rfl))
 refine zA rfl rfl (zT (xI u68 q20) (congrArg (Value.int .i64) e17)) ?_
 obtain ⟨x21, e22, hF⟩ := zH hF
 refine zA rfl rfl (zT (wF (a := x16) (b := 50) rfl rfl) (congrArg Value.bool e22)) ?_
 refine (zI (zB (hK15 _ _ ?_)))
 refine yF (b := x21) rfl (fun c23 => ?_) (fun c23 => ?_)
 ·have hF := zW c23 hF
  refine zD fun K24 hK24 => ?_
  refine zC ?_
  refine zA rfl rfl (zF (v := .int .i64 3) rfl) ?_
  refine (zI (zB (hK24 _ _ ?_)))
  have hR := Option.some.inj hF
  subst hR
  refine (yG (zZ (post1 (v1 := .int .i64 3) rfl rfl ?_)))
  exact ⟨rfl, H.pick [] (by decide)⟩
 have hF := zX c23 hF
 refine (yA (zB (hK14 _ _ ?_)))
 obtain ⟨k2074, ek2075, hF⟩ := xU hF
 refine yL [2, 3, 4, 5, 9, 10, 11, 12, 13, 14, 15, 16, 17, 18, 19, 20, 21, 22, 23, 24, 25, 26, 27, 28, 29, 30, 31, 32, 33, 34, 35, 36, 37, 38, 39, 40, 41, 42, 43, 44, 45, 46, 47, 48, 49, 50, 51, 52] (fun (g : Unit) => []) (fun g wl => Hd O w wl S [] ∧ k2074 () = some r) ?_ ?_
 ·skip
  refine zD fun K2076 hK2076 => ?_
  refine zC ?_
  refine zA rfl rfl (zF (v := .int .i64 0) rfl) ?_
  refine (zI (zB (hK2076 _ _ ?_)))
  refine yK ?_
  unfold F_ref6_CheckTracks_L1 at hF
  obtain ⟨B4119, n4120, eB4121, hF⟩ := yT hF
  refine xC [2, 3, 4, 5, 9, 10, 11, 12, 13, 14, 15, 16, 17, 18, 19, 20, 21, 22, 23, 24, 25, 26, 27, 28, 29, 30, 31, 32, 33, 34, 35, 36, 37, 38, 39, 40, 41, 42, 43, 44, 45, 46, 47, 48, 49, 50, 51, 52] (fun (g : Nat × Int) => [(3, .int .i64 g.2)]) (fun g wl => Hd O w wl S [.fz (.sl rTrack v1 p0)] ∧ loopN B4119 g.1 g.2 = some r) (fun g => g.1) (n4120, 0) (zK rfl zQ) ⟨H.pick [0] (by decide), hF⟩ ?_
  clear H hF
  rintro ⟨n4120, g4118⟩ ρ w4123 ⟨H, hF⟩
  obtain ⟨n4124, rfl, hF⟩ := yX hF
  have hF := yY eB4121 hF
  refine zD fun K4134 hK4134 => ?_
  refine zD fun K4135 hK4135 => ?_
  refine zC ?_
  refine zA rfl rfl (zG (v := .int .i64 g4118) rfl) ?_
  refine zA rfl rfl (zG (v := v1) rfl) ?_
  obtain ⟨x4136, e4137, hF⟩ := zH hF
  obtain ⟨a4138, c4139, q4140⟩ := SlF.len ((H.item (i := 0) rfl))
  refine zA rfl rfl (zT (xI u68 q4140) (congrArg (Value.int .i64) e4137)) ?_
  obtain ⟨x4141, e4142, hF⟩ := zH hF
  refine zA rfl rfl (zT (xK (a := g4118) (b := x4136) rfl rfl) (congrArg Value.bool e4142)) ?_
  refine (zI (zB (hK4135 _ _ ?_)))
  refine yF (b := x4141) rfl (fun c4143 => ?_) (fun c4143 => ?_)
  ·have hF := zW c4143 hF
   refine (yA (zB (hK4134 _ _ ?_)))
   obtain ⟨k4643, ek4644, hF⟩ := xU hF
   refine yL [2, 4, 5, 15, 16, 17, 18, 19, 20, 21, 22, 23, 24, 25, 26, 27, 28, 29, 30, 31, 32, 33, 34, 35, 36, 37, 38, 39, 40, 41, 42, 43, 44, 45, 46, 47, 48, 49, 50, 51, 52] (fun (g : Unit) => []) (fun g wl => Hd O w wl S [.fz (.sl rTrack v1 p0)] ∧ k4643 () = some r) ?_ ?_
   ·skip
    refine yK ?_
    refine zD fun K4670 hK4670 => ?_
    refine zD fun K4671 hK4671 => ?_
    refine zC ?_
    refine zA rfl rfl (zG (v := v1) rfl) ?_
    refine zA rfl rfl (zG (v := .int .i64 g4118) rfl) ?_
    obtain ⟨x4672, e4673, hF⟩ := zJ hF
    obtain ⟨b4674, o4675, c4676, cs4677, q4678, h4681, h4679, h4680, h4682⟩ := wB (H.item (i := 0) rfl) e4673
    obtain ⟨v4683, rfl, h4684⟩ := rTrack_open h4681
    have H := H.fzs [.at b4674 (o4675 + g4118.toNat * 4) _, .sl rSample v4683 x4672.Series.Samples] ⟨⟨h4679, h4680, h4682⟩, h4684, trivial⟩
    refine zA rfl rfl (xG u68 sz78 q4678 rfl (yD e4673).1 (yD e4673).2.1 rfl rfl) ?_
    refine zA rfl rfl (fa78_0 rfl) ?_
    refine zA rfl rfl (zU one9 rfl (Cells.get (H.item (i := 1) rfl).2.2 (i := 0) rfl)) ?_
    have H4687 := H
    obtain ⟨x4688, e4689, hF⟩ := zJ hF
    refine yJ rfl rfl (yC en38 rfl) (F_ref6_IsName_w x4672.Name _ e4689 _ _ _ (H.enter [] [] (by decide) rfl)) ?_
    rintro _ w4690 ⟨rfl, G4691⟩
    have H := H4687.step (G4691.only : Only [] _ _)
    refine ⟨_, rfl, ?_⟩
    obtain ⟨x4692, e4693, hF⟩ := zH hF
    refine zA rfl rfl (zT (xY (p := x4688) rfl) (congrArg Value.bool e4693)) ?_
    refine (zI (zB (hK4671 _ _ ?_)))
    refine yF (b := x4692) rfl (fun c4694 => ?_) (fun c4694 => ?_)
    ·have hF := zW c4694 hF
     refine zD fun K4695 hK4695 => ?_
     refine zC ?_
     refine zA rfl rfl (zF (v := .int .i64 8) rfl) ?_
     refine (zI (zB (hK4695 _ _ ?_)))
     have hR := Option.some.inj hF
     subst hR
     refine (yG (zZ (yM (zZ (zZ (yM (zZ (post1 (v1 := .int .i64 8) rfl rfl ?_))))))))
     exact ⟨rfl, H.pick [] (by decide)⟩
    have hF := zX c4694 hF
    refine (yA (zB (hK4670 _ _ ?_)))
    obtain ⟨k4881, ek4882, hF⟩ := xU hF
    refine yL [2, 4, 22, 23, 24, 25, 26, 27, 28, 29, 30, 31, 32, 33, 34, 35, 36, 37] (fun (g : Unit) => []) (fun g wl => Hd O w wl S [.fz (.sl rTrack v1 p0)] ∧ k4881 () = some r) ?_ ?_
    ·skip
     refine zD fun K4883 hK4883 => ?_
     refine zC ?_
     refine zA rfl rfl (zF (v := .int .i64 0) rfl) ?_
     refine (zI (zB (hK4883 _ _ ?_)))
     refine yK ?_
     unfold F_ref6_CheckTracks_L2 at hF
     obtain ⟨B5062, n5063, eB5064, hF⟩ := yT hF
     refine xC [2, 4, 22, 23, 24, 25, 26, 27, 28, 29, 30, 31, 32, 33, 34, 35, 36, 37] (fun (g : Nat × Int) => [(4, .int .i64 g.2)]) (fun g wl => Hd O w wl S [.fz (.sl rTrack v1 p0)] ∧ loopN B5062 g.1 g.2 = some r) (fun g => g.1) (n5063, 0) (zK rfl zQ) ⟨H.pick [0] (by decide), hF⟩ ?_
     clear H hF
     rintro ⟨n5063, g5061⟩ ρ w5066 ⟨H, hF⟩
     obtain ⟨n5067, rfl, hF⟩ := yX hF
     have hF := yY eB5064 hF
     refine zD fun K5072 hK5072 => ?_
     refine zD fun K5073 hK5073 => ?_
     refine zC ?_
     refine zA rfl rfl (zG (v := .int .i64 g5061) rfl) ?_
     refine zA rfl rfl (zG (v := .int .i64 g4118) rfl) ?_
     obtain ⟨x5074, e5075, hF⟩ := zH hF
     refine zA rfl rfl (zT (xK (a := g5061) (b := g4118) rfl rfl) (congrArg Value.bool e5075)) ?_
     refine (zI (zB (hK5073 _ _ ?_)))
     refine yF (b := x5074) rfl (fun c5076 => ?_) (fun c5076 => ?_)
     ·have hF := zW c5076 hF
      refine (yA (zB (hK5072 _ _ ?_)))
      refine zD fun K5115 hK5115 => ?_
      refine yK ?_
      refine zD fun K5116 hK5116 => ?_
      have H5117 := H
      have H := H.rebase
      have H5118 := H
      refine WP_mix0 H [0, 1, 2, 3, 4, 5, 6, 7, 8, 9, 10] [.pure, .pure, .pure, .pure, .read, .pure, .pure, .pure, .pure, .read, .pure] mixed (by kernel_rfl) (by kernel_rfl) (by kernel_rfl) rfl ?_
      refine Mx.zS rfl rfl rfl (fun w' hw' => zG (v := v1) rfl) ?_
      refine Mx.zS rfl rfl rfl (fun w' hw' => zG (v := .int .i64 g5061) rfl) ?_
      obtain ⟨x5119, e5120, hF⟩ := zJ hF
      obtain ⟨b5121, o5122, c5123, cs5124, q5125, h5128, h5126, h5127, h5129⟩ := wB (H.item (i := 0) rfl) e5120
      obtain ⟨v5130, rfl, h5131⟩ := rTrack_open h5128
      have H := H.fzs [.at b5121 (o5122 + g5061.toNat * 4) _, .sl rSample v5130 x5119.Series.Samples] ⟨⟨h5126, h5127, h5129⟩, h5131, trivial⟩
      refine Mx.zS rfl rfl rfl (fun w' hw' => xG u68 sz78 q5125 rfl (yD e5120).1 (yD e5120).2.1 rfl rfl) ?_
      refine Mx.zS rfl rfl rfl (fun w' hw' => fa78_0 rfl) ?_
      refine Mx.xM oS rfl rfl rfl (fun w' hw' => zU one9 rfl (Cells.get ((H.sees hw').item (i := 1) rfl).2.2 (i := 0) rfl)) ?_
      refine Mx.zS rfl rfl rfl (fun w' hw' => zG (v := v1) rfl) ?_
      refine Mx.zS rfl rfl rfl (fun w' hw' => zG (v := .int .i64 g4118) rfl) ?_
      obtain ⟨x5134, e5135, hF⟩ := zJ hF
      obtain ⟨b5136, o5137, c5138, cs5139, q5140, h5143, h5141, h5142, h5144⟩ := wB (H.item (i := 0) rfl) e5135
      obtain ⟨v5145, rfl, h5146⟩ := rTrack_open h5143
      have H := H.fzs [.at b5136 (o5137 + g4118.toNat * 4) _, .sl rSample v5145 x5134.Series.Samples] ⟨⟨h5141, h5142, h5144⟩, h5146, trivial⟩
      refine Mx.zS rfl rfl rfl (fun w' hw' => xG u68 sz78 q5140 rfl (yD e5135).1 (yD e5135).2.1 rfl rfl) ?_
      refine Mx.zS rfl rfl rfl (fun w' hw' => fa78_0 rfl) ?_
      refine Mx.xM oS rfl rfl rfl (fun w' hw' => zU one9 rfl (Cells.get ((H.sees hw').item (i := 3) rfl).2.2 (i := 0) rfl)) ?_
      obtain ⟨x5149, e5150, hF⟩ := zH hF
      refine Mx.zS rfl rfl rfl (fun w' hw' => zT (Do_eqls (s1 := x5119.Name) (s2 := x5134.Name) rfl rfl) (congrArg Value.bool e5150)) ?_
      refine Mx.wG fun w5151 hS => ?_
      have H := H.sees hS
      have H := H5117.rejoin H
      refine (zB (hK5116 _ _ ?_))
      refine yF (b := x5149) rfl (fun c5152 => ?_) (fun c5152 => ?_)
      ·have hF := zW c5152 hF
       refine zD fun K5153 hK5153 => ?_
       refine zC ?_
       refine zA rfl rfl (zF (v := .int .i64 5) rfl) ?_
       refine (zI (zB (hK5153 _ _ ?_)))
       have hR := Option.some.inj hF
       subst hR
       refine (yG (yM (zZ (zZ (yM (zZ (yM (zZ (zZ (yM (zZ (post1 (v1 := .int .i64 5) rfl rfl ?_))))))))))))
       exact ⟨rfl, H.pick [] (by decide)⟩
      have hF := zX c5152 hF
      refine (yA (yU (zB (hK5115 _ _ ?_))))
      refine zC ?_
      refine zA rfl rfl (zG (v := .int .i64 g5061) rfl) ?_
      obtain ⟨x5154, e5155, hF⟩ := zH hF
      refine zA rfl rfl (xJ (a := g5061) (b := 1) rfl rfl e5155) ?_
      refine zA rfl rfl (zF (v := .int .i64 x5154) rfl) ?_
      refine (zI (zB (And.intro ?_ ?_)))
      ·repeat' (first | with_reducible exact zN | refine zV rfl ?_ | refine zO rfl rfl ?_)
      exact ⟨(n5067, x5154), (zK rfl zQ), ⟨H.pick [0] (by decide), hF⟩, Nat.lt_succ_self _⟩
     have hF := zX c5076 hF
     refine (xB (yN (yN (yR (zB (And.intro ?_ ?_))))))
     ·repeat' (first | with_reducible exact zN | refine zV rfl ?_ | refine zO rfl rfl ?_)
     exact ⟨(), zQ, ⟨H.pick [0] (by decide), hF⟩⟩
    rintro _ ρ w4880 ⟨H, hF⟩
    have hF := xZ ek4882 hF
    refine zD fun K5182 hK5182 => ?_
    refine zD fun K5183 hK5183 => ?_
    refine zC ?_
    refine zA rfl rfl (zG (v := v1) rfl) ?_
    refine zA rfl rfl (zG (v := .int .i64 g4118) rfl) ?_
    obtain ⟨x5184, e5185, hF⟩ := zJ hF
    obtain ⟨b5186, o5187, c5188, cs5189, q5190, h5193, h5191, h5192, h5194⟩ := wB (H.item (i := 0) rfl) e5185
    obtain ⟨v5195, rfl, h5196⟩ := rTrack_open h5193
    have H := H.fzs [.at b5186 (o5187 + g4118.toNat * 4) _, .sl rSample v5195 x5184.Series.Samples] ⟨⟨h5191, h5192, h5194⟩, h5196, trivial⟩
    refine zA rfl rfl (xG u68 sz78 q5190 rfl (yD e5185).1 (yD e5185).2.1 rfl rfl) ?_
    refine zA rfl rfl (fa78_1 rfl) ?_
    refine zA rfl rfl (zT (yV (cs := [.int .i64 x5184.Series.Den, v5195]) agg76 rfl sz76 rfl (Cells.drop (H.item (i := 1) rfl).2.2 1 2)) rfl) ?_
    have H5199 := H
    obtain ⟨x5200, e5201, hF⟩ := zJ hF
    refine yJ rfl rfl (yC en81 rfl) (F_ref5_Check_w x5184.Series v5195 _ e5201 _ _ _ (H.enter [] [2] (by decide) rfl)) ?_
    rintro _ w5202 ⟨rfl, G5203⟩
    have H := H5199.step (G5203.only : Only [] _ _)
    refine ⟨_, rfl, ?_⟩
    refine zA rfl rfl (zF (v := .int .i64 x5200) rfl) ?_
    refine (zI (zB (hK5183 _ _ ?_)))
    refine zD fun K5204 hK5204 => ?_
    refine zC ?_
    refine zA rfl rfl (zG (v := .int .i64 x5200) rfl) ?_
    obtain ⟨x5205, e5206, hF⟩ := zH hF
    refine zA rfl rfl (zT (Do_neq (a := x5200) (b := 0) rfl rfl) (congrArg Value.bool e5206)) ?_
    refine (zI (zB (hK5204 _ _ ?_)))
    refine yF (b := x5205) rfl (fun c5207 => ?_) (fun c5207 => ?_)
    ·have hF := zW c5207 hF
     refine zD fun K5208 hK5208 => ?_
     refine zC ?_
     refine zA rfl rfl (zG (v := .int .i64 x5200) rfl) ?_
     refine zA rfl rfl (zF (v := .int .i64 x5200) rfl) ?_
     refine (zI (zB (hK5208 _ _ ?_)))
     have hR := Option.some.inj hF
     subst hR
     refine (yG (zZ (yM (zZ (zZ (yM (zZ (post1 (v1 := .int .i64 x5200) rfl rfl ?_))))))))
     exact ⟨rfl, H.pick [] (by decide)⟩
    have hF := zX c5207 hF
    refine (yA (zB (hK5182 _ _ ?_)))
    refine zD fun K5209 hK5209 => ?_
    refine zC ?_
    refine zA rfl rfl (zG (v := v1) rfl) ?_
    refine zA rfl rfl (zG (v := .int .i64 g4118) rfl) ?_
    obtain ⟨x5210, e5211, hF⟩ := zJ hF
    obtain ⟨b5212, o5213, c5214, cs5215, q5216, h5219, h5217, h5218, h5220⟩ := wB (H.item (i := 0) rfl) e5211
    obtain ⟨v5221, rfl, h5222⟩ := rTrack_open h5219
    have H := H.fzs [.at b5212 (o5213 + g4118.toNat * 4) _, .sl rSample v5221 x5210.Series.Samples] ⟨⟨h5217, h5218, h5220⟩, h5222, trivial⟩
    refine zA rfl rfl (xG u68 sz78 q5216 rfl (yD e5211).1 (yD e5211).2.1 rfl rfl) ?_
    refine zA rfl rfl (fa78_2 rfl) ?_
    refine zA rfl rfl (zU one3 rfl (Cells.get (H.item (i := 3) rfl).2.2 (i := 3) rfl)) ?_
    have H5225 := H
    obtain ⟨x5226, e5227, hF⟩ := zJ hF
    refine yJ rfl rfl (yC en82 rfl) (F_ref6_outside_w x5210.Long 0 1099511627776 _ e5227 _ _ _ (H.enter [] [] (by decide) rfl)) ?_
    rintro _ w5228 ⟨rfl, G5229⟩
    have H := H5225.step (G5229.only : Only [] _ _)
    refine ⟨_, rfl, ?_⟩
    refine (zI (zB (hK5209 _ _ ?_)))
    refine yF (b := x5226) rfl (fun c5230 => ?_) (fun c5230 => ?_)
    ·have hF := zW c5230 hF
     refine zD fun K5231 hK5231 => ?_
     refine zC ?_
     refine zA rfl rfl (zF (v := .int .i64 9) rfl) ?_
     refine (zI (zB (hK5231 _ _ ?_)))
     have hR := Option.some.inj hF
     subst hR
     refine (yG (yM (zZ (zZ (yM (zZ (post1 (v1 := .int .i64 9) rfl rfl ?_)))))))
     exact ⟨rfl, H.pick [] (by decide)⟩
    have hF := zX c5230 hF
    refine (yA (yU (zB (And.intro ?_ ?_))))
    ·repeat' (first | with_reducible exact zN | refine zV rfl ?_ | refine zO rfl rfl ?_)
    exact ⟨(), zQ, ⟨H.pick [0] (by decide), hF⟩⟩
   rintro _ ρ w4642 ⟨H, hF⟩
   have hF := xZ ek4644 hF
   refine zC ?_
   refine zA rfl rfl (zG (v := .int .i64 g4118) rfl) ?_
   obtain ⟨x5232, e5233, hF⟩ := zH hF
   refine zA rfl rfl (xJ (a := g4118) (b := 1) rfl rfl e5233) ?_
   refine zA rfl rfl (zF (v := .int .i64 x5232) rfl) ?_
   refine (zI (zB (And.intro ?_ ?_)))
   ·repeat' (first | with_reducible exact zN | refine zV rfl ?_ | refine zO rfl rfl ?_)
   exact ⟨(n4124, x5232), (zK rfl zQ), ⟨H.pick [0] (by decide), hF⟩, Nat.lt_succ_self _⟩
  have hF := zX c4143 hF
  refine (xB (yN (yN (yR (zB (And.intro ?_ ?_))))))
  ·repeat' (first | with_reducible exact zN | refine zV rfl ?_ | refine zO rfl rfl ?_)
  exact ⟨(), zQ, ⟨H.pick [] (by decide), hF⟩⟩
 rintro _ ρ w2073 ⟨H, hF⟩
 have hF := xZ ek2075 hF
 refine zD fun K5234 hK5234 => ?_
 refine zC ?_
 refine zA rfl rfl (zF (v := .int .i64 0) rfl) ?_
 refine (zI (zB (hK5234 _ _ ?_)))
 have hR := Option.some.inj hF
 subst hR
 refine (yG (post1 (v1 := .int .i64 0) rfl rfl ?_))
 exact ⟨rfl, H.pick [] (by decide)⟩
end Go.Proofs.YtbjhondbheijiaaGreatDoor.L
namespace Go.Proofs.YtbjhondbheijiaaGreatDoor.L
open Go.RowKit Go.OB Go.Lf
/- orangebox/orangeboxref9.CheckFlight -/
set_option maxHeartbeats 4000000 in
theorem F_ref9_CheckFlight_w (p0 : Flight) (v1 : Value) (r : Int) (hF : F_ref9_CheckFlight p0 = some r) (O S : List Nat) (w : World) (H : Hd O w w S [.fz (.sl rTrack v1 p0.Tracks)]) :
  Calls Tryz.prog 36 ([.agg [.string (bs p0.Tail), .string (bs p0.Route), .int .i64 p0.Day, .int .i64 p0.From, .int .i64 p0.To, v1].toArray] : List Value).toArray w fun e w' => e = .returned (.int .i64 r) ∧ Hd O w w' S [] := by
 unfold F_ref9_CheckFlight at hF
 refine yB 54 Tryz.func36 rfl rfl rfl ?_
 refine zD fun K3 hK3 => ?_
 refine zC ?_
 refine xE rfl rfl (Lx_box (cs := [.string (bs p0.Tail), .string (bs p0.Route), .int .i64 p0.Day, .int .i64 p0.From, .int .i64 p0.To, v1]) rfl H) ?_
 rintro _ w6 ⟨b4, rfl, H⟩
 refine zA rfl rfl (zF (v := .int .i64 0) rfl) ?_
 refine (zI (zB (hK3 _ _ ?_)))
 refine zD fun K37 hK37 => ?_
 obtain ⟨g63, hF, hK65⟩ := zJ hF
 refine yL [3, 4, 5, 6, 7, 8, 9, 10, 11, 12, 13, 14, 15, 16, 17] (fun (g : Unit) => [(17, .bool g63)]) (fun g wl => Hd O w wl S [.blk b4 [.string (bs p0.Tail), .string (bs p0.Route), .int .i64 p0.Day, .int .i64 p0.From, .int .i64 p0.To, v1] 70, .fz (.sl rTrack v1 p0.Tracks)]) ?_ ?_
 ·skip
  refine zC ?_
  refine zA rfl rfl (fa70_0 rfl) ?_
  refine zA rfl rfl (zU one9 rfl (Cells.get (Blk.cells (H.item (i := 1) rfl)) (i := 0) rfl)) ?_
  obtain ⟨x66, e67, hF⟩ := zH hF
  refine zA rfl rfl (zT (Do_neqs (s1 := p0.Tail) (s2 := []) rfl rfl) (congrArg Value.bool e67)) ?_
  refine yO (b := x66) rfl rfl rfl (fun c68 => ?_) (fun c68 => ?_)
  ·have hF := zW c68 hF
   refine zA rfl rfl (fa70_0 rfl) ?_
   refine zA rfl rfl (zU one9 rfl (Cells.get (Blk.cells (H.item (i := 1) rfl)) (i := 0) rfl)) ?_
   have H69 := H
   obtain ⟨x70, e71, hF⟩ := zJ hF
   refine yJ rfl rfl (yC en38 rfl) (F_ref6_IsName_w p0.Tail _ e71 _ _ _ (H.enter [] [] (by decide) rfl)) ?_
   rintro _ w72 ⟨rfl, G73⟩
   have H := H69.step (G73.only : Only [] _ _)
   refine ⟨_, rfl, ?_⟩
   obtain ⟨x74, e75, hF⟩ := zH hF
   refine zA rfl rfl (zT (xY (p := x70) rfl) (congrArg Value.bool e75)) ?_
   refine zA rfl rfl (yI (v := .bool x74) rfl rfl) ?_
   refine yO (b := x74) rfl rfl rfl (fun c76 => ?_) (fun c76 => ?_)
   ·have hF := zW c76 hF
    refine zM rfl rfl ?_
    refine zM rfl rfl ?_
    refine zM rfl rfl ?_
    refine zM rfl rfl ?_
    refine zA rfl rfl (yI (v := .bool true) rfl rfl) ?_
    have hR := Option.some.inj hF
    subst hR
    refine (zI (zB (And.intro ?_ ?_)))
    ·repeat' (first | with_reducible exact zN | refine zV rfl ?_ | refine zO rfl rfl ?_)
    exact ⟨(), (zK rfl zQ), H.pick [1, 0] (by decide)⟩
   have hF := zX c76 hF
   refine zA rfl rfl (fa70_1 rfl) ?_
   refine zA rfl rfl (zU one9 rfl (Cells.get (Blk.cells (H.item (i := 1) rfl)) (i := 1) rfl)) ?_
   have H77 := H
   obtain ⟨x78, e79, hF⟩ := zJ hF
   refine yJ rfl rfl (yC en38 rfl) (F_ref6_IsName_w p0.Route _ e79 _ _ _ (H.enter [] [] (by decide) rfl)) ?_
   rintro _ w80 ⟨rfl, G81⟩
   have H := H77.step (G81.only : Only [] _ _)
   refine ⟨_, rfl, ?_⟩
   obtain ⟨x82, e83, hF⟩ := zH hF
   refine zA rfl rfl (zT (xY (p := x78) rfl) (congrArg Value.bool e83)) ?_
   refine zA rfl rfl (yH (v := .bool x82) rfl rfl) ?_
   have hR := Option.some.inj hF
   subst hR
   refine (zI (zB (And.intro ?_ ?_)))
   ·repeat' (first | with_reducible exact zN | refine zV rfl ?_ | refine zO rfl rfl ?_)
   exact ⟨(), (zK rfl zQ), H.pick [1, 0] (by decide)⟩
  have hF := zX c68 hF
  refine zM rfl rfl ?_
  refine zM rfl rfl ?_
  refine zM rfl rfl ?_
  refine zM rfl rfl ?_
  refine zA rfl rfl (yH (v := .bool false) rfl rfl) ?_
  refine zA rfl rfl (zG (v := .bool false) rfl) ?_
  refine zA rfl rfl (fa70_1 rfl) ?_
  refine zA rfl rfl (zU one9 rfl (Cells.get (Blk.cells (H.item (i := 1) rfl)) (i := 1) rfl)) ?_
  have H84 := H
  obtain ⟨x85, e86, hF⟩ := zJ hF
  refine yJ rfl rfl (yC en38 rfl) (F_ref6_IsName_w p0.Route _ e86 _ _ _ (H.enter [] [] (by decide) rfl)) ?_
  rintro _ w87 ⟨rfl, G88⟩
  have H := H84.step (G88.only : Only [] _ _)
  refine ⟨_, rfl, ?_⟩
  obtain ⟨x89, e90, hF⟩ := zH hF
  refine zA rfl rfl (zT (xY (p := x85) rfl) (congrArg Value.bool e90)) ?_
  refine zA rfl rfl (yH (v := .bool x89) rfl rfl) ?_
  have hR := Option.some.inj hF
  subst hR
  refine (zI (zB (And.intro ?_ ?_)))
  ·repeat' (first | with_reducible exact zN | refine zV rfl ?_ | refine zO rfl rfl ?_)
  exact ⟨(), (zK rfl zQ), H.pick [1, 0] (by decide)⟩
 rintro _ ρ w64 H
 have hF := hK65
 refine yF (b := g63) rfl (fun c91 => ?_) (fun c91 => ?_)
 ·have hF := zW c91 hF
  refine zD fun K92 hK92 => ?_
  refine zC ?_
  refine zA rfl rfl (zF (v := .int .i64 8) rfl) ?_
  refine (zI (zB (hK92 _ _ ?_)))
  have hR := Option.some.inj hF
  subst hR
  refine (yG (zZ (post1 (v1 := .int .i64 8) rfl rfl ?_)))
  exact ⟨rfl, H.pick [] (by decide)⟩
 have hF := zX c91 hF
 refine (yA (zB (hK37 _ _ ?_)))
 refine zD fun K112 hK112 => ?_
 obtain ⟨g127, hF, hK129⟩ := zJ hF
 refine yL [18, 19, 20, 21, 22, 23, 24, 25, 26, 27, 28, 29, 30, 31, 32, 33, 34, 35, 36, 37] (fun (g : Unit) => [(37, .bool g127)]) (fun g wl => Hd O w wl S [.blk b4 [.string (bs p0.Tail), .string (bs p0.Route), .int .i64 p0.Day, .int .i64 p0.From, .int .i64 p0.To, v1] 70, .fz (.sl rTrack v1 p0.Tracks)]) ?_ ?_
 ·skip
  refine zC ?_
  refine zA rfl rfl (fa70_2 rfl) ?_
  refine zA rfl rfl (zU one3 rfl (Cells.get (Blk.cells (H.item (i := 0) rfl)) (i := 2) rfl)) ?_
  have H130 := H
  obtain ⟨x131, e132, hF⟩ := zJ hF
  refine yJ rfl rfl (yC en23 rfl) (F_ref9_outside_w p0.Day 0 1000000 _ e132 _ _ _ (H.enter [] [] (by decide) rfl)) ?_
  rintro _ w133 ⟨rfl, G134⟩
  have H := H130.step (G134.only : Only [] _ _)
  refine ⟨_, rfl, ?_⟩
  refine yO (b := x131) rfl rfl rfl (fun c135 => ?_) (fun c135 => ?_)
  ·have hF := zW c135 hF
   refine zM rfl rfl ?_
   refine zM rfl rfl ?_
   refine zM rfl rfl ?_
   refine zA rfl rfl (yI (v := .bool true) rfl rfl) ?_
   refine zA rfl rfl (zG (v := .bool true) rfl) ?_
   refine zM rfl rfl ?_
   refine zM rfl rfl ?_
   refine zM rfl rfl ?_
   refine zM rfl rfl ?_
   refine zM rfl rfl ?_
   refine zA rfl rfl (yI (v := .bool true) rfl rfl) ?_
   refine zA rfl rfl (zG (v := .bool true) rfl) ?_
   refine zM rfl rfl ?_
   refine zM rfl rfl ?_
   refine zM rfl rfl ?_
   refine zA rfl rfl (yI (v := .bool true) rfl rfl) ?_
   have hR := Option.some.inj hF
   subst hR
   refine (zI (zB (And.intro ?_ ?_)))
   ·repeat' (first | with_reducible exact zN | refine zV rfl ?_ | refine zO rfl rfl ?_)
   exact ⟨(), (zK rfl zQ), H.pick [0, 1] (by decide)⟩
  have hF := zX c135 hF
  refine zA rfl rfl (fa70_3 rfl) ?_
  refine zA rfl rfl (zU one3 rfl (Cells.get (Blk.cells (H.item (i := 0) rfl)) (i := 3) rfl)) ?_
  obtain ⟨x136, e137, hF⟩ := zH hF
  refine zA rfl rfl (zT (xK (a := p0.From) (b := 0) rfl rfl) (congrArg Value.bool e137)) ?_
  refine zA rfl rfl (yH (v := .bool x136) rfl rfl) ?_
  refine yO (b := x136) rfl rfl rfl (fun c138 => ?_) (fun c138 => ?_)
  ·have hF := zW c138 hF
   refine zM rfl rfl ?_
   refine zM rfl rfl ?_
   refine zM rfl rfl ?_
   refine zM rfl rfl ?_
   refine zM rfl rfl ?_
   refine zA rfl rfl (yI (v := .bool true) rfl rfl) ?_
   refine zA rfl rfl (zG (v := .bool true) rfl) ?_
   refine zM rfl rfl ?_
   refine zM rfl rfl ?_
   refine zM rfl rfl ?_
   refine zA rfl rfl (yI (v := .bool true) rfl rfl) ?_
   have hR := Option.some.inj hF
   subst hR
   refine (zI (zB (And.intro ?_ ?_)))
   ·repeat' (first | with_reducible exact zN | refine zV rfl ?_ | refine zO rfl rfl ?_)
   exact ⟨(), (zK rfl zQ), H.pick [0, 1] (by decide)⟩
  have hF := zX c138 hF
  refine zA rfl rfl (fa70_3 rfl) ?_
  refine zA rfl rfl (zU one3 rfl (Cells.get (Blk.cells (H.item (i := 0) rfl)) (i := 3) rfl)) ?_
  refine zA rfl rfl (fa70_4 rfl) ?_
  refine zA rfl rfl (zU one3 rfl (Cells.get (Blk.cells (H.item (i := 0) rfl)) (i := 4) rfl)) ?_
  obtain ⟨x139, e140, hF⟩ := zH hF
  refine zA rfl rfl (zT (wF (a := p0.From) (b := p0.To) rfl rfl) (congrArg Value.bool e140)) ?_
  refine zA rfl rfl (yH (v := .bool x139) rfl rfl) ?_
  refine yO (b := x139) rfl rfl rfl (fun c141 => ?_) (fun c141 => ?_)
  ·have hF := zW c141 hF
   refine zM rfl rfl ?_
   refine zM rfl rfl ?_
   refine zM rfl rfl ?_
   refine zA rfl rfl (yI (v := .bool true) rfl rfl) ?_
   have hR := Option.some.inj hF
   subst hR
   refine (zI (zB (And.intro ?_ ?_)))
   ·repeat' (first | with_reducible exact zN | refine zV rfl ?_ | refine zO rfl rfl ?_)
   exact ⟨(), (zK rfl zQ), H.pick [0, 1] (by decide)⟩
  have hF := zX c141 hF
  refine zA rfl rfl (fa70_4 rfl) ?_
  refine zA rfl rfl (zU one3 rfl (Cells.get (Blk.cells (H.item (i := 0) rfl)) (i := 4) rfl)) ?_
  obtain ⟨x142, e143, hF⟩ := zH hF
  refine zA rfl rfl (zT (wF (a := p0.To) (b := 4194303) rfl rfl) (congrArg Value.bool e143)) ?_
  refine zA rfl rfl (yH (v := .bool x142) rfl rfl) ?_
  have hR := Option.some.inj hF
  subst hR
  refine (zI (zB (And.intro ?_ ?_)))
  ·repeat' (first | with_reducible exact zN | refine zV rfl ?_ | refine zO rfl rfl ?_)
  exact ⟨(), (zK rfl zQ), H.pick [0, 1] (by decide)⟩
 rintro _ ρ w128 H
 have hF := hK129
 refine yF (b := g127) rfl (fun c144 => ?_) (fun c144 => ?_)
 ·have hF := zW c144 hF
  refine zD fun K145 hK145 => ?_
  refine zC ?_
  refine zA rfl rfl (zF (v := .int .i64 9) rfl) ?_
  refine (zI (zB (hK145 _ _ ?_)))
  have hR := Option.some.inj hF
  subst hR
  refine (yG (zZ (post1 (v1 := .int .i64 9) rfl rfl ?_)))
  exact ⟨rfl, H.pick [] (by decide)⟩
 have hF := zX c144 hF
 refine (yA (zB (hK112 _ _ ?_)))
 refine zD fun K165 hK165 => ?_
 obtain ⟨g180, hF, hK182⟩ := zJ hF
 refine yL [38, 39, 40, 41, 42, 43, 44, 45, 46, 47, 48, 49, 50] (fun (g : Unit) => [(50, .bool g180)]) (fun g wl => Hd O w wl S [.blk b4 [.string (bs p0.Tail), .string (bs p0.Route), .int .i64 p0.Day, .int .i64 p0.From, .int .i64 p0.To, v1] 70, .fz (.sl rTrack v1 p0.Tracks)]) ?_ ?_
 ·skip
  refine zC ?_
  refine zA rfl rfl (fa70_4 rfl) ?_
  refine zA rfl rfl (zU one3 rfl (Cells.get (Blk.cells (H.item (i := 0) rfl)) (i := 4) rfl)) ?_
  refine zA rfl rfl (fa70_3 rfl) ?_
  refine zA rfl rfl (zU one3 rfl (Cells.get (Blk.cells (H.item (i := 0) rfl)) (i := 3) rfl)) ?_
  obtain ⟨x183, e184, hF⟩ := zH hF
  refine zA rfl rfl (Do_sub (a := p0.To) (b := p0.From) rfl rfl e184) ?_
  obtain ⟨x185, e186, hF⟩ := zH hF
  refine zA rfl rfl (xJ (a := x183) (b := 1) rfl rfl e186) ?_
  obtain ⟨x187, e188, hF⟩ := zH hF
  refine zA rfl rfl (zT (wF (a := x185) (b := 20000) rfl rfl) (congrArg Value.bool e188)) ?_
  refine yO (b := x187) rfl rfl rfl (fun c189 => ?_) (fun c189 => ?_)
  ·have hF := zW c189 hF
   refine zM rfl rfl ?_
   refine zM rfl rfl ?_
   refine zM rfl rfl ?_
   refine zM rfl rfl ?_
   refine zA rfl rfl (yI (v := .bool true) rfl rfl) ?_
   have hR := Option.some.inj hF
   subst hR
   refine (zI (zB (And.intro ?_ ?_)))
   ·repeat' (first | with_reducible exact zN | refine zV rfl ?_ | refine zO rfl rfl ?_)
   exact ⟨(), (zK rfl zQ), H.pick [0, 1] (by decide)⟩
  have hF := zX c189 hF
  refine zA rfl rfl (fa70_5 rfl) ?_
  refine zA rfl rfl (zU one68 rfl (Cells.get (Blk.cells (H.item (i := 0) rfl)) (i := 5) rfl)) ?_
  obtain ⟨x190, e191, hF⟩ := zH hF
  obtain ⟨a192, c193, q194⟩ := SlF.len ((H.item (i := 1) rfl))
  refine zA rfl rfl (zT (xI u68 q194) (congrArg (Value.int .i64) e191)) ?_
  obtain ⟨x195, e196, hF⟩ := zH hF
  refine zA rfl rfl (zT (wF (a := x190) (b := 30) rfl rfl) (congrArg Value.bool e196)) ?_
  refine zA rfl rfl (yH (v := .bool x195) rfl rfl) ?_
  have hR := Option.some.inj hF
  subst hR
  refine (zI (zB (And.intro ?_ ?_)))
  ·repeat' (first | with_reducible exact zN | refine zV rfl ?_ | refine zO rfl rfl ?_)
  exact ⟨(), (zK rfl zQ), H.pick [0, 1] (by decide)⟩
 rintro _ ρ w181 H
 have hF := hK182
 refine yF (b := g180) rfl (fun c197 => ?_) (fun c197 => ?_)
 ·have hF := zW c197 hF
  refine zD fun K198 hK198 => ?_
  refine zC ?_
  refine zA rfl rfl (zF (v := .int .i64 3) rfl) ?_
  refine (zI (zB (hK198 _ _ ?_)))
  have hR := Option.some.inj hF
  subst hR
  refine (yG (zZ (post1 (v1 := .int .i64 3) rfl rfl ?_)))
  exact ⟨rfl, H.pick [] (by decide)⟩
 have hF := zX c197 hF
 refine (yA (zB (hK165 _ _ ?_)))
 refine zD fun K199 hK199 => ?_
 refine zC ?_
 refine zA rfl rfl (fa70_5 rfl) ?_
 refine zA rfl rfl (zU one68 rfl (Cells.get (Blk.cells (H.item (i := 0) rfl)) (i := 5) rfl)) ?_
 have H200 := H
 obtain ⟨x201, e202, hF⟩ := zJ hF
 refine yJ rfl rfl (yC en60 rfl) (F_ref6_CheckTracks_w p0.Tracks v1 _ e202 _ _ _ (H.enter [] [1] (by decide) rfl)) ?_
 rintro _ w203 ⟨rfl, G204⟩
 have H := H200.step (G204.only : Only [] _ _)
 refine ⟨_, rfl, ?_⟩
 refine zA rfl rfl (zF (v := .int .i64 x201) rfl) ?_
 refine (zI (zB (hK199 _ _ ?_)))
 have hR := Option.some.inj hF
 subst hR
 refine (yG (post1 (v1 := .int .i64 x201) rfl rfl ?_))
 exact ⟨rfl, H.pick [] (by decide)⟩
end Go.Proofs.YtbjhondbheijiaaGreatDoor.L
namespace Go.Proofs.YtbjhondbheijiaaGreatDoor.L
open Go.RowKit Go.OB Go.Lf
/- orangebox/orangeboxref9.listFault -/
set_option maxHeartbeats 4000000 in
theorem F_ref9_listFault_w (p0 : List Flight) (v1 : Value) (r : Int) (hF : F_ref9_listFault p0 = some r) (O S : List Nat) (w : World) (H : Hd O w w S [.fz (.sl rFlight v1 p0)]) :
  Calls Tryz.prog 13 ([v1] : List Value).toArray w fun e w' => e = .returned (.int .i64 r) ∧ Hd O w w' S [] := by
 unfold F_ref9_listFault at hF
 refine yB 22 Tryz.func13 rfl rfl rfl ?_
 refine zD fun K3 hK3 => ?_
 refine zC ?_
 refine zA rfl rfl (zF (v := .int .i64 0) rfl) ?_
 refine (zI (zB (hK3 _ _ ?_)))
 refine zD fun K14 hK14 => ?_
 refine zD fun K15 hK15 => ?_
 refine zC ?_
 refine zA rfl rfl (zG (v := v1) rfl) ?_
 obtain ⟨x16, e17, hF⟩ := zH hF
 obtain ⟨a18, c19, q20⟩ := SlF.len ((H.item (i := 0) rfl))
 refine zA rfl rfl (zT (xI u22 q20) (congrArg (Value.int .i64) e17)) ?_
 obtain ⟨x21, e22, hF⟩ := zH hF
 refine zA rfl rfl (zT (wF (a := x16) (b := 300) rfl rfl) (congrArg Value.bool e22)) ?_
 refine (zI (zB (hK15 _ _ ?_)))
 refine yF (b := x21) rfl (fun c23 => ?_) (fun c23 => ?_)
 ·have hF := zW c23 hF
  refine zD fun K24 hK24 => ?_
  refine zC ?_
  refine zA rfl rfl (zF (v := .int .i64 3) rfl) ?_
  refine (zI (zB (hK24 _ _ ?_)))
  have hR := Option.some.inj hF
  subst hR
  refine (yG (zZ (post1 (v1 := .int .i64 3) rfl rfl ?_)))
  exact ⟨rfl, H.pick [] (by decide)⟩
 have hF := zX c23 hF
 refine (yA (zB (hK14 _ _ ?_)))
 obtain ⟨k182, ek183, hF⟩ := xU hF
 refine yL [2, 3, 4, 8, 9, 10, 11, 12, 13, 14, 15, 16, 17, 18, 19, 20, 21] (fun (g : Unit) => []) (fun g wl => Hd O w wl S [] ∧ k182 () = some r) ?_ ?_
 ·skip
  refine zD fun K184 hK184 => ?_
  refine zC ?_
  refine zA rfl rfl (zF (v := .int .i64 0) rfl) ?_
  refine (zI (zB (hK184 _ _ ?_)))
  refine yK ?_
  unfold F_ref9_listFault_L1 at hF
  obtain ⟨B335, n336, eB337, hF⟩ := yT hF
  refine xC [2, 3, 4, 8, 9, 10, 11, 12, 13, 14, 15, 16, 17, 18, 19, 20, 21] (fun (g : Nat × Int) => [(3, .int .i64 g.2)]) (fun g wl => Hd O w wl S [.fz (.sl rFlight v1 p0)] ∧ loopN B335 g.1 g.2 = some r) (fun g => g.1) (n336, 0) (zK rfl zQ) ⟨H.pick [0] (by decide), hF⟩ ?_
  clear H hF
  rintro ⟨n336, g334⟩ ρ w339 ⟨H, hF⟩
  obtain ⟨n340, rfl, hF⟩ := yX hF
  have hF := yY eB337 hF
  refine zD fun K350 hK350 => ?_
  refine zD fun K351 hK351 => ?_
  refine zC ?_
  refine zA rfl rfl (zG (v := .int .i64 g334) rfl) ?_
  refine zA rfl rfl (zG (v := v1) rfl) ?_
  obtain ⟨x352, e353, hF⟩ := zH hF
  obtain ⟨a354, c355, q356⟩ := SlF.len ((H.item (i := 0) rfl))
  refine zA rfl rfl (zT (xI u22 q356) (congrArg (Value.int .i64) e353)) ?_
  obtain ⟨x357, e358, hF⟩ := zH hF
  refine zA rfl rfl (zT (xK (a := g334) (b := x352) rfl rfl) (congrArg Value.bool e358)) ?_
  refine (zI (zB (hK351 _ _ ?_)))
  refine yF (b := x357) rfl (fun c359 => ?_) (fun c359 => ?_)
  ·have hF := zW c359 hF
   refine (yA (zB (hK350 _ _ ?_)))
   refine zD fun K386 hK386 => ?_
   refine yK ?_
   refine zD fun K387 hK387 => ?_
   refine zC ?_
   refine zA rfl rfl (zG (v := v1) rfl) ?_
   refine zA rfl rfl (zG (v := .int .i64 g334) rfl) ?_
   obtain ⟨x388, e389, hF⟩ := zJ hF
   obtain ⟨b390, o391, c392, cs393, q394, h397, h395, h396, h398⟩ := wB (H.item (i := 0) rfl) e389
   obtain ⟨v399, rfl, h400⟩ := rFlight_open h397
   have H := H.fzs [.at b390 (o391 + g334.toNat * 6) _, .sl rTrack v399 x388.Tracks] ⟨⟨h395, h396, h398⟩, h400, trivial⟩
   refine zA rfl rfl (xG u22 sz70 q394 rfl (yD e389).1 (yD e389).2.1 rfl rfl) ?_
   refine zA rfl rfl (zT (yV (cs := [.string (bs x388.Tail), .string (bs x388.Route), .int .i64 x388.Day, .int .i64 x388.From, .int .i64 x388.To, v399]) agg70 rfl sz70 rfl (H.item (i := 1) rfl).2.2) rfl) ?_
   have H403 := H
   obtain ⟨x404, e405, hF⟩ := zJ hF
   refine yJ rfl rfl (yC en36 rfl) (F_ref9_CheckFlight_w x388 v399 _ e405 _ _ _ (H.enter [] [2] (by decide) rfl)) ?_
   rintro _ w406 ⟨rfl, G407⟩
   have H := H403.step (G407.only : Only [] _ _)
   refine ⟨_, rfl, ?_⟩
   refine zA rfl rfl (zF (v := .int .i64 x404) rfl) ?_
   refine (zI (zB (hK387 _ _ ?_)))
   refine zD fun K408 hK408 => ?_
   refine zC ?_
   refine zA rfl rfl (zG (v := .int .i64 x404) rfl) ?_
   obtain ⟨x409, e410, hF⟩ := zH hF
   refine zA rfl rfl (zT (Do_neq (a := x404) (b := 0) rfl rfl) (congrArg Value.bool e410)) ?_
   refine (zI (zB (hK408 _ _ ?_)))
   refine yF (b := x409) rfl (fun c411 => ?_) (fun c411 => ?_)
   ·have hF := zW c411 hF
    refine zD fun K412 hK412 => ?_
    refine zC ?_
    refine zA rfl rfl (zG (v := .int .i64 x404) rfl) ?_
    refine zA rfl rfl (zF (v := .int .i64 x404) rfl) ?_
    refine (zI (zB (hK412 _ _ ?_)))
    have hR := Option.some.inj hF
    subst hR
    refine (yG (yM (zZ (zZ (yM (zZ (post1 (v1 := .int .i64 x404) rfl rfl ?_)))))))
    exact ⟨rfl, H.pick [] (by decide)⟩
   have hF := zX c411 hF
   refine (yA (yU (zB (hK386 _ _ ?_))))
   refine zC ?_
   refine zA rfl rfl (zG (v := .int .i64 g334) rfl) ?_
   obtain ⟨x413, e414, hF⟩ := zH hF
   refine zA rfl rfl (xJ (a := g334) (b := 1) rfl rfl e414) ?_
   refine zA rfl rfl (zF (v := .int .i64 x413) rfl) ?_
   refine (zI (zB (And.intro ?_ ?_)))
   ·repeat' (first | with_reducible exact zN | refine zV rfl ?_ | refine zO rfl rfl ?_)
   exact ⟨(n340, x413), (zK rfl zQ), ⟨H.pick [0] (by decide), hF⟩, Nat.lt_succ_self _⟩
  have hF := zX c359 hF
  refine (xB (yN (yN (yR (zB (And.intro ?_ ?_))))))
  ·repeat' (first | with_reducible exact zN | refine zV rfl ?_ | refine zO rfl rfl ?_)
  exact ⟨(), zQ, ⟨H.pick [] (by decide), hF⟩⟩
 rintro _ ρ w181 ⟨H, hF⟩
 have hF := xZ ek183 hF
 refine zD fun K415 hK415 => ?_
 refine zC ?_
 refine zA rfl rfl (zF (v := .int .i64 0) rfl) ?_
 refine (zI (zB (hK415 _ _ ?_)))
 have hR := Option.some.inj hF
 subst hR
 refine (yG (post1 (v1 := .int .i64 0) rfl rfl ?_))
 exact ⟨rfl, H.pick [] (by decide)⟩
end Go.Proofs.YtbjhondbheijiaaGreatDoor.L
namespace Go.Proofs.YtbjhondbheijiaaGreatDoor.L
open Go.RowKit Go.OB Go.Lf
/- orangebox/orangeboxref9.twice -/
set_option maxHeartbeats 4000000 in
theorem F_ref9_twice_w (p0 : List Str) (p1 : Int) (v1 : Value) (r : Bool) (hF : F_ref9_twice p0 p1 = some r) (O S : List Nat) (w : World) (H : Hd O w w S [.fz (.sl Rp.str v1 p0)]) :
  Calls Tryz.prog 61 ([v1, .int .i64 p1] : List Value).toArray w fun e w' => e = .returned (.bool r) ∧ Hd O w w' S [] := by
 unfold F_ref9_twice at hF
 refine yB 20 Tryz.func61 rfl rfl rfl ?_
 refine zD fun K3 hK3 => ?_
 refine zC ?_
 refine zA rfl rfl (zF (v := .bool false) rfl) ?_
 refine (zI (zB (hK3 _ _ ?_)))
 obtain ⟨k165, ek166, hF⟩ := xU hF
 refine yL [4, 5, 6, 7, 8, 9, 10, 11, 12, 13, 14, 15, 16, 17, 18, 19] (fun (g : Unit) => []) (fun g wl => Hd O w wl S [] ∧ k165 () = some r) ?_ ?_
 ·skip
  refine zD fun K167 hK167 => ?_
  refine zC ?_
  refine zA rfl rfl (zF (v := .int .i64 0) rfl) ?_
  refine (zI (zB (hK167 _ _ ?_)))
  refine yK ?_
  unfold F_ref9_twice_L1 at hF
  obtain ⟨B322, n323, eB324, hF⟩ := yT hF
  refine xC [4, 5, 6, 7, 8, 9, 10, 11, 12, 13, 14, 15, 16, 17, 18, 19] (fun (g : Nat × Int) => [(5, .int .i64 g.2)]) (fun g wl => Hd O w wl S [.fz (.sl Rp.str v1 p0)] ∧ loopN B322 g.1 g.2 = some r) (fun g => g.1) (n323, 0) (zK rfl zQ) ⟨H.pick [0] (by decide), hF⟩ ?_
  clear H hF
  rintro ⟨n323, g321⟩ ρ w326 ⟨H, hF⟩
  obtain ⟨n327, rfl, hF⟩ := yX hF
  have hF := yY eB324 hF
  refine zD fun K332 hK332 => ?_
  refine zD fun K333 hK333 => ?_
  refine zC ?_
  refine zA rfl rfl (zG (v := .int .i64 g321) rfl) ?_
  refine zA rfl rfl (zG (v := .int .i64 p1) rfl) ?_
  obtain ⟨x334, e335, hF⟩ := zH hF
  refine zA rfl rfl (zT (xK (a := g321) (b := p1) rfl rfl) (congrArg Value.bool e335)) ?_
  refine (zI (zB (hK333 _ _ ?_)))
  refine yF (b := x334) rfl (fun c336 => ?_) (fun c336 => ?_)
  ·have hF := zW c336 hF
   refine (yA (zB (hK332 _ _ ?_)))
   refine zD fun K369 hK369 => ?_
   refine yK ?_
   refine zD fun K370 hK370 => ?_
   have H371 := H
   have H := H.rebase
   have H372 := H
   refine WP_mix0 H [0, 1, 2, 3, 4, 5, 6, 7, 8] [.pure, .pure, .pure, .read, .pure, .pure, .pure, .read, .pure] mixed (by kernel_rfl) (by kernel_rfl) (by kernel_rfl) rfl ?_
   refine Mx.zS rfl rfl rfl (fun w' hw' => zG (v := v1) rfl) ?_
   refine Mx.zS rfl rfl rfl (fun w' hw' => zG (v := .int .i64 g321) rfl) ?_
   obtain ⟨x373, e374, hF⟩ := zJ hF
   obtain ⟨b375, o376, c377, cs378, q379, h382, h380, h381, h383⟩ := wB (H.item (i := 0) rfl) e374
   obtain rfl : cs378 = [.string (bs x373)] := h382
   have H := H.fz (.at b375 (o376 + g321.toNat * 1) _) ⟨h380, h381, h383⟩
   refine Mx.zS rfl rfl rfl (fun w' hw' => xG u23 sz9 q379 rfl (yD e374).1 (yD e374).2.1 rfl rfl) ?_
   refine Mx.xM oS rfl rfl rfl (fun w' hw' => zU one9 rfl (Cells.get ((H.sees hw').item (i := 1) rfl).2.2 (i := 0) rfl)) ?_
   refine Mx.zS rfl rfl rfl (fun w' hw' => zG (v := v1) rfl) ?_
   refine Mx.zS rfl rfl rfl (fun w' hw' => zG (v := .int .i64 p1) rfl) ?_
   obtain ⟨x385, e386, hF⟩ := zJ hF
   obtain ⟨b387, o388, c389, cs390, q391, h394, h392, h393, h395⟩ := wB (H.item (i := 0) rfl) e386
   obtain rfl : cs390 = [.string (bs x385)] := h394
   have H := H.fz (.at b387 (o388 + p1.toNat * 1) _) ⟨h392, h393, h395⟩
   refine Mx.zS rfl rfl rfl (fun w' hw' => xG u23 sz9 q391 rfl (yD e386).1 (yD e386).2.1 rfl rfl) ?_
   refine Mx.xM oS rfl rfl rfl (fun w' hw' => zU one9 rfl (Cells.get ((H.sees hw').item (i := 2) rfl).2.2 (i := 0) rfl)) ?_
   obtain ⟨x397, e398, hF⟩ := zH hF
   refine Mx.zS rfl rfl rfl (fun w' hw' => zT (Do_eqls (s1 := x373) (s2 := x385) rfl rfl) (congrArg Value.bool e398)) ?_
   refine Mx.wG fun w399 hS => ?_
   have H := H.sees hS
   have H := H371.rejoin H
   refine (zB (hK370 _ _ ?_))
   refine yF (b := x397) rfl (fun c400 => ?_) (fun c400 => ?_)
   ·have hF := zW c400 hF
    refine zD fun K401 hK401 => ?_
    refine zC ?_
    refine zA rfl rfl (zF (v := .bool true) rfl) ?_
    refine (zI (zB (hK401 _ _ ?_)))
    have hR := Option.some.inj hF
    subst hR
    refine (yG (yM (zZ (zZ (yM (zZ (post1 (v1 := .bool true) rfl rfl ?_)))))))
    exact ⟨rfl, H.pick [] (by decide)⟩
   have hF := zX c400 hF
   refine (yA (yU (zB (hK369 _ _ ?_))))
   refine zC ?_
   refine zA rfl rfl (zG (v := .int .i64 g321) rfl) ?_
   obtain ⟨x402, e403, hF⟩ := zH hF
   refine zA rfl rfl (xJ (a := g321) (b := 1) rfl rfl e403) ?_
   refine zA rfl rfl (zF (v := .int .i64 x402) rfl) ?_
   refine (zI (zB (And.intro ?_ ?_)))
   ·repeat' (first | with_reducible exact zN | refine zV rfl ?_ | refine zO rfl rfl ?_)
   exact ⟨(n327, x402), (zK rfl zQ), ⟨H.pick [0] (by decide), hF⟩, Nat.lt_succ_self _⟩
  have hF := zX c336 hF
  refine (xB (yN (yN (yR (zB (And.intro ?_ ?_))))))
  ·repeat' (first | with_reducible exact zN | refine zV rfl ?_ | refine zO rfl rfl ?_)
  exact ⟨(), zQ, ⟨H.pick [] (by decide), hF⟩⟩
 rintro _ ρ w164 ⟨H, hF⟩
 have hF := xZ ek166 hF
 refine zD fun K404 hK404 => ?_
 refine zC ?_
 refine zA rfl rfl (zF (v := .bool false) rfl) ?_
 refine (zI (zB (hK404 _ _ ?_)))
 have hR := Option.some.inj hF
 subst hR
 refine (yG (post1 (v1 := .bool false) rfl rfl ?_))
 exact ⟨rfl, H.pick [] (by decide)⟩
end Go.Proofs.YtbjhondbheijiaaGreatDoor.L
namespace Go.Proofs.YtbjhondbheijiaaGreatDoor.L
open Go.RowKit Go.OB Go.Lf
/- orangebox/orangeboxref9.CheckMask -/
set_option maxHeartbeats 4000000 in
theorem F_ref9_CheckMask_w (p0 : Mask) (v1 : Value) (v2 : Value) (r : Int) (hF : F_ref9_CheckMask p0 = some r) (O S : List Nat) (w : World) (H : Hd O w w S [.fz (.sl Rp.str v1 p0.Hide), .fz (.sl rGrain v2 p0.Grains)]) :
  Calls Tryz.prog 37 ([.agg [.bool p0.Tails, .int .i64 p0.Days, v1, v2, .int .i64 p0.Least].toArray] : List Value).toArray w fun e w' => e = .returned (.int .i64 r) ∧ Hd O w w' S [] := by
 unfold F_ref9_CheckMask at hF
 refine yB 70 Tryz.func37 rfl rfl rfl ?_
 refine zD fun K5 hK5 => ?_
 refine zC ?_
 refine xE rfl rfl (Lx_box (cs := [.bool p0.Tails, .int .i64 p0.Days, v1, v2, .int .i64 p0.Least]) rfl H) ?_
 rintro _ w8 ⟨b6, rfl, H⟩
 refine zA rfl rfl (zF (v := .int .i64 0) rfl) ?_
 refine (zI (zB (hK5 _ _ ?_)))
 refine zD fun K17 hK17 => ?_
 refine zD fun K18 hK18 => ?_
 refine zC ?_
 refine zA rfl rfl (fa26_1 rfl) ?_
 refine zA rfl rfl (zU one3 rfl (Cells.get (Blk.cells (H.item (i := 2) rfl)) (i := 1) rfl)) ?_
 have H19 := H
 obtain ⟨x20, e21, hF⟩ := zJ hF
 refine yJ rfl rfl (yC en23 rfl) (F_ref9_outside_w p0.Days 1 1000000 _ e21 _ _ _ (H.enter [] [] (by decide) rfl)) ?_
 rintro _ w22 ⟨rfl, G23⟩
 have H := H19.step (G23.only : Only [] _ _)
 refine ⟨_, rfl, ?_⟩
 refine (zI (zB (hK18 _ _ ?_)))
 refine yF (b := x20) rfl (fun c24 => ?_) (fun c24 => ?_)
 ·have hF := zW c24 hF
  refine zD fun K25 hK25 => ?_
  refine zC ?_
  refine zA rfl rfl (zF (v := .int .i64 9) rfl) ?_
  refine (zI (zB (hK25 _ _ ?_)))
  have hR := Option.some.inj hF
  subst hR
  refine (yG (zZ (post1 (v1 := .int .i64 9) rfl rfl ?_)))
  exact ⟨rfl, H.pick [] (by decide)⟩
 have hF := zX c24 hF
 refine (yA (zB (hK17 _ _ ?_)))
 refine zD fun K36 hK36 => ?_
 refine zD fun K37 hK37 => ?_
 refine zC ?_
 refine zA rfl rfl (fa26_2 rfl) ?_
 refine zA rfl rfl (zU one23 rfl (Cells.get (Blk.cells (H.item (i := 2) rfl)) (i := 2) rfl)) ?_
 obtain ⟨x38, e39, hF⟩ := zH hF
 obtain ⟨a40, c41, q42⟩ := SlF.len ((H.item (i := 0) rfl))
 refine zA rfl rfl (zT (xI u23 q42) (congrArg (Value.int .i64) e39)) ?_
 obtain ⟨x43, e44, hF⟩ := zH hF
 refine zA rfl rfl (zT (wF (a := x38) (b := 30) rfl rfl) (congrArg Value.bool e44)) ?_
 refine (zI (zB (hK37 _ _ ?_)))
 refine yF (b := x43) rfl (fun c45 => ?_) (fun c45 => ?_)
 ·have hF := zW c45 hF
  refine zD fun K46 hK46 => ?_
  refine zC ?_
  refine zA rfl rfl (zF (v := .int .i64 3) rfl) ?_
  refine (zI (zB (hK46 _ _ ?_)))
  have hR := Option.some.inj hF
  subst hR
  refine (yG (zZ (post1 (v1 := .int .i64 3) rfl rfl ?_)))
  exact ⟨rfl, H.pick [] (by decide)⟩
 have hF := zX c45 hF
 refine (yA (zB (hK36 _ _ ?_)))
 obtain ⟨k312, ek313, hF⟩ := xU hF
 refine yL [2, 3, 13, 14, 15, 16, 17, 18, 19, 20, 21, 22, 23, 24, 25, 26, 27, 28, 29, 30] (fun (g : Unit) => []) (fun g wl => Hd O w wl S [.blk b6 [.bool p0.Tails, .int .i64 p0.Days, v1, v2, .int .i64 p0.Least] 26, .fz (.sl Rp.str v1 p0.Hide), .fz (.sl rGrain v2 p0.Grains)] ∧ k312 () = some r) ?_ ?_
 ·skip
  refine zD fun K314 hK314 => ?_
  refine zC ?_
  refine zA rfl rfl (zF (v := .int .i64 0) rfl) ?_
  refine (zI (zB (hK314 _ _ ?_)))
  refine yK ?_
  unfold F_ref9_CheckMask_L1 at hF
  obtain ⟨B573, n574, eB575, hF⟩ := yT hF
  refine xC [2, 3, 13, 14, 15, 16, 17, 18, 19, 20, 21, 22, 23, 24, 25, 26, 27, 28, 29, 30] (fun (g : Nat × Int) => [(3, .int .i64 g.2)]) (fun g wl => Hd O w wl S [.blk b6 [.bool p0.Tails, .int .i64 p0.Days, v1, v2, .int .i64 p0.Least] 26, .fz (.sl Rp.str v1 p0.Hide), .fz (.sl rGrain v2 p0.Grains)] ∧ loopN B573 g.1 g.2 = some r) (fun g => g.1) (n574, 0) (zK rfl zQ) ⟨H.pick [2, 0, 1] (by decide), hF⟩ ?_
  clear H hF
  rintro ⟨n574, g572⟩ ρ w577 ⟨H, hF⟩
  obtain ⟨n578, rfl, hF⟩ := yX hF
  have hF := yY eB575 hF
  refine zD fun K588 hK588 => ?_
  refine zD fun K589 hK589 => ?_
  refine zC ?_
  refine zA rfl rfl (zG (v := .int .i64 g572) rfl) ?_
  refine zA rfl rfl (fa26_2 rfl) ?_
  refine zA rfl rfl (zU one23 rfl (Cells.get (Blk.cells (H.item (i := 0) rfl)) (i := 2) rfl)) ?_
  obtain ⟨x590, e591, hF⟩ := zH hF
  obtain ⟨a592, c593, q594⟩ := SlF.len ((H.item (i := 1) rfl))
  refine zA rfl rfl (zT (xI u23 q594) (congrArg (Value.int .i64) e591)) ?_
  obtain ⟨x595, e596, hF⟩ := zH hF
  refine zA rfl rfl (zT (xK (a := g572) (b := x590) rfl rfl) (congrArg Value.bool e596)) ?_
  refine (zI (zB (hK589 _ _ ?_)))
  refine yF (b := x595) rfl (fun c597 => ?_) (fun c597 => ?_)
  ·have hF := zW c597 hF
   refine (yA (zB (hK588 _ _ ?_)))
   refine zD fun K651 hK651 => ?_
   refine yK ?_
   refine zD fun K674 hK674 => ?_
   refine zD fun K675 hK675 => ?_
   refine zC ?_
   refine zA rfl rfl (fa26_2 rfl) ?_
   refine zA rfl rfl (zU one23 rfl (Cells.get (Blk.cells (H.item (i := 0) rfl)) (i := 2) rfl)) ?_
   refine zA rfl rfl (zG (v := .int .i64 g572) rfl) ?_
   obtain ⟨x676, e677, hF⟩ := zJ hF
   obtain ⟨b678, o679, c680, cs681, q682, h685, h683, h684, h686⟩ := wB (H.item (i := 1) rfl) e677
   obtain rfl : cs681 = [.string (bs x676)] := h685
   have H := H.fz (.at b678 (o679 + g572.toNat * 1) _) ⟨h683, h684, h686⟩
   refine zA rfl rfl (xG u23 sz9 q682 rfl (yD e677).1 (yD e677).2.1 rfl rfl) ?_
   refine zA rfl rfl (zU one9 rfl (Cells.get (H.item (i := 3) rfl).2.2 (i := 0) rfl)) ?_
   have H688 := H
   obtain ⟨x689, e690, hF⟩ := zJ hF
   refine yJ rfl rfl (yC en38 rfl) (F_ref6_IsName_w x676 _ e690 _ _ _ (H.enter [] [] (by decide) rfl)) ?_
   rintro _ w691 ⟨rfl, G692⟩
   have H := H688.step (G692.only : Only [] _ _)
   refine ⟨_, rfl, ?_⟩
   obtain ⟨x693, e694, hF⟩ := zH hF
   refine zA rfl rfl (zT (xY (p := x689) rfl) (congrArg Value.bool e694)) ?_
   refine (zI (zB (hK675 _ _ ?_)))
   refine yF (b := x693) rfl (fun c695 => ?_) (fun c695 => ?_)
   ·have hF := zW c695 hF
    refine zD fun K696 hK696 => ?_
    refine zC ?_
    refine zA rfl rfl (zF (v := .int .i64 8) rfl) ?_
    refine (zI (zB (hK696 _ _ ?_)))
    have hR := Option.some.inj hF
    subst hR
    refine (yG (zZ (yM (zZ (zZ (yM (zZ (post1 (v1 := .int .i64 8) rfl rfl ?_))))))))
    exact ⟨rfl, H.pick [] (by decide)⟩
   have hF := zX c695 hF
   refine (yA (zB (hK674 _ _ ?_)))
   refine zD fun K697 hK697 => ?_
   refine zC ?_
   refine zA rfl rfl (fa26_2 rfl) ?_
   refine zA rfl rfl (zU one23 rfl (Cells.get (Blk.cells (H.item (i := 0) rfl)) (i := 2) rfl)) ?_
   refine zA rfl rfl (zG (v := .int .i64 g572) rfl) ?_
   have H698 := H
   obtain ⟨x699, e700, hF⟩ := zJ hF
   refine yJ rfl rfl (yC en61 rfl) (F_ref9_twice_w p0.Hide g572 v1 _ e700 _ _ _ (H.enter [] [1] (by decide) rfl)) ?_
   rintro _ w701 ⟨rfl, G702⟩
   have H := H698.step (G702.only : Only [] _ _)
   refine ⟨_, rfl, ?_⟩
   refine (zI (zB (hK697 _ _ ?_)))
   refine yF (b := x699) rfl (fun c703 => ?_) (fun c703 => ?_)
   ·have hF := zW c703 hF
    refine zD fun K704 hK704 => ?_
    refine zC ?_
    refine zA rfl rfl (zF (v := .int .i64 5) rfl) ?_
    refine (zI (zB (hK704 _ _ ?_)))
    have hR := Option.some.inj hF
    subst hR
    refine (yG (yM (zZ (zZ (yM (zZ (post1 (v1 := .int .i64 5) rfl rfl ?_)))))))
    exact ⟨rfl, H.pick [] (by decide)⟩
   have hF := zX c703 hF
   refine (yA (yU (zB (hK651 _ _ ?_))))
   refine zC ?_
   refine zA rfl rfl (zG (v := .int .i64 g572) rfl) ?_
   obtain ⟨x705, e706, hF⟩ := zH hF
   refine zA rfl rfl (xJ (a := g572) (b := 1) rfl rfl e706) ?_
   refine zA rfl rfl (zF (v := .int .i64 x705) rfl) ?_
   refine (zI (zB (And.intro ?_ ?_)))
   ·repeat' (first | with_reducible exact zN | refine zV rfl ?_ | refine zO rfl rfl ?_)
   exact ⟨(n578, x705), (zK rfl zQ), ⟨H.pick [0, 1, 2] (by decide), hF⟩, Nat.lt_succ_self _⟩
  have hF := zX c597 hF
  refine (xB (yN (yN (yR (zB (And.intro ?_ ?_))))))
  ·repeat' (first | with_reducible exact zN | refine zV rfl ?_ | refine zO rfl rfl ?_)
  exact ⟨(), zQ, ⟨H.pick [0, 1, 2] (by decide), hF⟩⟩
 rintro _ ρ w311 ⟨H, hF⟩
 have hF := xZ ek313 hF
 refine zD fun K717 hK717 => ?_
 refine zD fun K718 hK718 => ?_
 refine zC ?_
 refine zA rfl rfl (fa26_3 rfl) ?_
 refine zA rfl rfl (zU one24 rfl (Cells.get (Blk.cells (H.item (i := 0) rfl)) (i := 3) rfl)) ?_
 obtain ⟨x719, e720, hF⟩ := zH hF
 obtain ⟨a721, c722, q723⟩ := SlF.len ((H.item (i := 2) rfl))
 refine zA rfl rfl (zT (xI u24 q723) (congrArg (Value.int .i64) e720)) ?_
 obtain ⟨x724, e725, hF⟩ := zH hF
 refine zA rfl rfl (zT (wF (a := x719) (b := 30) rfl rfl) (congrArg Value.bool e725)) ?_
 refine (zI (zB (hK718 _ _ ?_)))
 refine yF (b := x724) rfl (fun c726 => ?_) (fun c726 => ?_)
 ·have hF := zW c726 hF
  refine zD fun K727 hK727 => ?_
  refine zC ?_
  refine zA rfl rfl (zF (v := .int .i64 3) rfl) ?_
  refine (zI (zB (hK727 _ _ ?_)))
  have hR := Option.some.inj hF
  subst hR
  refine (yG (zZ (post1 (v1 := .int .i64 3) rfl rfl ?_)))
  exact ⟨rfl, H.pick [] (by decide)⟩
 have hF := zX c726 hF
 refine (yA (zB (hK717 _ _ ?_)))
 refine zD fun K728 hK728 => ?_
 refine zC ?_
 refine zA rfl rfl (zF (v := .slice none 0 0) rfl) ?_
 refine (zI (zB (hK728 _ _ ?_)))
 obtain ⟨k1196, ek1197, hF⟩ := xU hF
 refine yL [2, 4, 5, 35, 36, 37, 38, 39, 40, 41, 42, 43, 44, 45, 46, 47, 48, 49, 50, 51, 52, 53, 54, 55, 56, 57, 58, 59, 60, 61, 62, 63, 64, 65, 66] (fun (g : Unit) => []) (fun g wl => Hd O w wl S [.blk b6 [.bool p0.Tails, .int .i64 p0.Days, v1, v2, .int .i64 p0.Least] 26, .fz (.sl Rp.str v1 p0.Hide), .fz (.sl rGrain v2 p0.Grains)] ∧ k1196 () = some r) ?_ ?_
 ·skip
  refine zD fun K1198 hK1198 => ?_
  refine zC ?_
  refine zA rfl rfl (zF (v := .int .i64 0) rfl) ?_
  refine (zI (zB (hK1198 _ _ ?_)))
  refine yK ?_
  have H := own_nil H Rp.str 9
  unfold F_ref9_CheckMask_L2 at hF
  obtain ⟨B1662, n1663, eB1664, hF⟩ := yT hF
  refine xC [2, 4, 5, 35, 36, 37, 38, 39, 40, 41, 42, 43, 44, 45, 46, 47, 48, 49, 50, 51, 52, 53, 54, 55, 56, 57, 58, 59, 60, 61, 62, 63, 64, 65, 66] (fun (g : Nat × (List Str) × Int × Value) => [(4, g.2.2.2), (5, .int .i64 g.2.2.1)]) (fun g wl => Hd O w wl S [.own Rp.str g.2.2.2 9 g.2.1, .blk b6 [.bool p0.Tails, .int .i64 p0.Days, v1, v2, .int .i64 p0.Least] 26, .fz (.sl Rp.str v1 p0.Hide), .fz (.sl rGrain v2 p0.Grains)] ∧ loopN B1662 g.1 (g.2.1, g.2.2.1) = some r) (fun g => g.1) (n1663, [], 0, .slice none 0 0) (zK rfl (zK rfl zQ)) ⟨H.pick [3, 0, 1, 2] (by decide), hF⟩ ?_
  clear H hF
  rintro ⟨n1663, g1658, g1660, v1659⟩ ρ w1666 ⟨H, hF⟩
  obtain ⟨n1667, rfl, hF⟩ := yX hF
  have hF := yY eB1664 hF
  refine zD fun K1677 hK1677 => ?_
  refine zD fun K1678 hK1678 => ?_
  refine zC ?_
  refine zA rfl rfl (zG (v := .int .i64 g1660) rfl) ?_
  refine zA rfl rfl (fa26_3 rfl) ?_
  refine zA rfl rfl (zU one24 rfl (Cells.get (Blk.cells (H.item (i := 1) rfl)) (i := 3) rfl)) ?_
  obtain ⟨x1679, e1680, hF⟩ := zH hF
  obtain ⟨a1681, c1682, q1683⟩ := SlF.len ((H.item (i := 3) rfl))
  refine zA rfl rfl (zT (xI u24 q1683) (congrArg (Value.int .i64) e1680)) ?_
  obtain ⟨x1684, e1685, hF⟩ := zH hF
  refine zA rfl rfl (zT (xK (a := g1660) (b := x1679) rfl rfl) (congrArg Value.bool e1685)) ?_
  refine (zI (zB (hK1678 _ _ ?_)))
  refine yF (b := x1684) rfl (fun c1686 => ?_) (fun c1686 => ?_)
  ·have hF := zW c1686 hF
   refine (yA (zB (hK1677 _ _ ?_)))
   refine zD fun K1789 hK1789 => ?_
   refine yK ?_
   refine zD fun K1790 hK1790 => ?_
   refine zC ?_
   refine zA rfl rfl (zG (v := v1659) rfl) ?_
   refine zA rfl rfl (fa26_3 rfl) ?_
   refine zA rfl rfl (zU one24 rfl (Cells.get (Blk.cells (H.item (i := 1) rfl)) (i := 3) rfl)) ?_
   refine zA rfl rfl (zG (v := .int .i64 g1660) rfl) ?_
   obtain ⟨x1791, e1792, hF⟩ := zJ hF
   obtain ⟨b1793, o1794, c1795, cs1796, q1797, h1800, h1798, h1799, h1801⟩ := wB (H.item (i := 3) rfl) e1792
   obtain rfl := rGrain_open h1800
   have H := H.fz (.at b1793 (o1794 + g1660.toNat * 2) _) ⟨h1798, h1799, h1801⟩
   refine zA rfl rfl (xG u24 sz103 q1797 rfl (yD e1792).1 (yD e1792).2.1 rfl rfl) ?_
   refine zA rfl rfl (fa103_0 rfl) ?_
   refine zA rfl rfl (zU one9 rfl (Cells.get (H.item (i := 4) rfl).2.2 (i := 0) rfl)) ?_
   obtain ⟨x1803, e1804, hF⟩ := zH hF
   subst e1804
   refine xE rfl rfl (Lx_bs (r := Rp.str) (xl := [x1791.Track]) (cs := [.string (bs x1791.Track)]) u23 el9 (by decide) (by decide) rfl (xW (vs := [.string (bs x1791.Track)]) (by decide) rfl rfl ⟨rfl, trivial⟩ rfl) H ⟨[.string (bs x1791.Track)], [], rfl, rfl, rfl⟩) ?_
   rintro v1806 w1807 H
   obtain ⟨x1808, e1809, hF⟩ := zJ hF
   refine xE rfl rfl (Lx_app H (i := 0) rfl u23 el9 rfl rfl (Sr.of_own (H.item (i := 5) rfl)) e1809) ?_
   rintro v1810 w1811 H
   refine zA rfl rfl (zF (v := v1810) rfl) ?_
   refine (zI (zB (hK1790 _ _ ?_)))
   refine zD fun K1833 hK1833 => ?_
   refine zD fun K1834 hK1834 => ?_
   refine zC ?_
   refine zA rfl rfl (zG (v := v1810) rfl) ?_
   refine zA rfl rfl (zG (v := .int .i64 g1660) rfl) ?_
   obtain ⟨x1835, e1836, hF⟩ := zJ hF
   obtain ⟨b1837, c1839, cs1840, q1841, h1844, h1845⟩ := own_at (H.item (i := 0) rfl) e1836
   obtain rfl : cs1840 = [.string (bs x1835)] := h1844
   refine zA rfl rfl (xG u23 sz9 q1841 rfl (yD e1836).1 (yD e1836).2.1 rfl rfl) ?_
   refine zA rfl rfl (zU one9 rfl (Cells.get h1845 (i := 0) rfl)) ?_
   have H1846 := H
   obtain ⟨x1847, e1848, hF⟩ := zJ hF
   refine yJ rfl rfl (yC en38 rfl) (F_ref6_IsName_w x1835 _ e1848 _ _ _ (H.enter [] [] (by decide) rfl)) ?_
   rintro _ w1849 ⟨rfl, G1850⟩
   have H := H1846.step (G1850.only : Only [] _ _)
   refine ⟨_, rfl, ?_⟩
   obtain ⟨x1851, e1852, hF⟩ := zH hF
   refine zA rfl rfl (zT (xY (p := x1847) rfl) (congrArg Value.bool e1852)) ?_
   refine (zI (zB (hK1834 _ _ ?_)))
   refine yF (b := x1851) rfl (fun c1853 => ?_) (fun c1853 => ?_)
   ·have hF := zW c1853 hF
    refine zD fun K1854 hK1854 => ?_
    refine zC ?_
    refine zA rfl rfl (zF (v := .int .i64 8) rfl) ?_
    refine (zI (zB (hK1854 _ _ ?_)))
    have hR := Option.some.inj hF
    subst hR
    refine (yG (zZ (yM (zZ (zZ (yM (zZ (post1 (v1 := .int .i64 8) rfl rfl ?_))))))))
    exact ⟨rfl, H.pick [] (by decide)⟩
   have hF := zX c1853 hF
   refine (yA (zB (hK1833 _ _ ?_)))
   refine zD fun K1863 hK1863 => ?_
   refine zD fun K1864 hK1864 => ?_
   refine zC ?_
   refine zA rfl rfl (zG (v := v1810) rfl) ?_
   refine zA rfl rfl (zG (v := .int .i64 g1660) rfl) ?_
   have H1865 := H
   have H := H.freeze (i := 0) rfl
   obtain ⟨x1866, e1867, hF⟩ := zJ hF
   refine yJ rfl rfl (yC en61 rfl) (F_ref9_twice_w x1808 g1660 v1810 _ e1867 _ _ _ (H.enter [] [0] (by decide) rfl)) ?_
   rintro _ w1868 ⟨rfl, G1869⟩
   have H := H1865.step (G1869.only : Only [] _ _)
   refine ⟨_, rfl, ?_⟩
   refine (zI (zB (hK1864 _ _ ?_)))
   refine yF (b := x1866) rfl (fun c1870 => ?_) (fun c1870 => ?_)
   ·have hF := zW c1870 hF
    refine zD fun K1871 hK1871 => ?_
    refine zC ?_
    refine zA rfl rfl (zF (v := .int .i64 5) rfl) ?_
    refine (zI (zB (hK1871 _ _ ?_)))
    have hR := Option.some.inj hF
    subst hR
    refine (yG (zZ (yM (zZ (zZ (yM (zZ (post1 (v1 := .int .i64 5) rfl rfl ?_))))))))
    exact ⟨rfl, H.pick [] (by decide)⟩
   have hF := zX c1870 hF
   refine (yA (zB (hK1863 _ _ ?_)))
   refine zD fun K1872 hK1872 => ?_
   refine zC ?_
   refine zA rfl rfl (fa26_3 rfl) ?_
   refine zA rfl rfl (zU one24 rfl (Cells.get (Blk.cells (H.item (i := 1) rfl)) (i := 3) rfl)) ?_
   refine zA rfl rfl (zG (v := .int .i64 g1660) rfl) ?_
   obtain ⟨x1873, e1874, hF⟩ := zJ hF
   obtain ⟨b1875, o1876, c1877, cs1878, q1879, h1882, h1880, h1881, h1883⟩ := wB (H.item (i := 3) rfl) e1874
   obtain rfl := rGrain_open h1882
   have H := H.fz (.at b1875 (o1876 + g1660.toNat * 2) _) ⟨h1880, h1881, h1883⟩
   refine zA rfl rfl (xG u24 sz103 q1879 rfl (yD e1874).1 (yD e1874).2.1 rfl rfl) ?_
   refine zA rfl rfl (fa103_1 rfl) ?_
   refine zA rfl rfl (zU one3 rfl (Cells.get (H.item (i := 6) rfl).2.2 (i := 1) rfl)) ?_
   have H1885 := H
   obtain ⟨x1886, e1887, hF⟩ := zJ hF
   refine yJ rfl rfl (yC en23 rfl) (F_ref9_outside_w x1873.N 1 1125899906842624 _ e1887 _ _ _ (H.enter [] [] (by decide) rfl)) ?_
   rintro _ w1888 ⟨rfl, G1889⟩
   have H := H1885.step (G1889.only : Only [] _ _)
   refine ⟨_, rfl, ?_⟩
   refine (zI (zB (hK1872 _ _ ?_)))
   refine yF (b := x1886) rfl (fun c1890 => ?_) (fun c1890 => ?_)
   ·have hF := zW c1890 hF
    refine zD fun K1891 hK1891 => ?_
    refine zC ?_
    refine zA rfl rfl (zF (v := .int .i64 9) rfl) ?_
    refine (zI (zB (hK1891 _ _ ?_)))
    have hR := Option.some.inj hF
    subst hR
    refine (yG (yM (zZ (zZ (yM (zZ (post1 (v1 := .int .i64 9) rfl rfl ?_)))))))
    exact ⟨rfl, H.pick [] (by decide)⟩
   have hF := zX c1890 hF
   refine (yA (yU (zB (hK1789 _ _ ?_))))
   refine zC ?_
   refine zA rfl rfl (zG (v := .int .i64 g1660) rfl) ?_
   obtain ⟨x1892, e1893, hF⟩ := zH hF
   refine zA rfl rfl (xJ (a := g1660) (b := 1) rfl rfl e1893) ?_
   refine zA rfl rfl (zF (v := .int .i64 x1892) rfl) ?_
   refine (zI (zB (And.intro ?_ ?_)))
   ·repeat' (first | with_reducible exact zN | refine zV rfl ?_ | refine zO rfl rfl ?_)
   exact ⟨(n1667, x1808, x1892, v1810), (zK rfl (zK rfl zQ)), ⟨H.pick [0, 1, 2, 3] (by decide), hF⟩, Nat.lt_succ_self _⟩
  have hF := zX c1686 hF
  refine (xB (yN (yN (yR (zB (And.intro ?_ ?_))))))
  ·repeat' (first | with_reducible exact zN | refine zV rfl ?_ | refine zO rfl rfl ?_)
  exact ⟨(), zQ, ⟨H.pick [1, 2, 3] (by decide), hF⟩⟩
 rintro _ ρ w1195 ⟨H, hF⟩
 have hF := xZ ek1197 hF
 refine zD fun K1902 hK1902 => ?_
 refine zD fun K1903 hK1903 => ?_
 refine zC ?_
 refine zA rfl rfl (fa26_4 rfl) ?_
 refine zA rfl rfl (zU one3 rfl (Cells.get (Blk.cells (H.item (i := 0) rfl)) (i := 4) rfl)) ?_
 have H1904 := H
 obtain ⟨x1905, e1906, hF⟩ := zJ hF
 refine yJ rfl rfl (yC en23 rfl) (F_ref9_outside_w p0.Least 1 1000 _ e1906 _ _ _ (H.enter [] [] (by decide) rfl)) ?_
 rintro _ w1907 ⟨rfl, G1908⟩
 have H := H1904.step (G1908.only : Only [] _ _)
 refine ⟨_, rfl, ?_⟩
 refine (zI (zB (hK1903 _ _ ?_)))
 refine yF (b := x1905) rfl (fun c1909 => ?_) (fun c1909 => ?_)
 ·have hF := zW c1909 hF
  refine zD fun K1910 hK1910 => ?_
  refine zC ?_
  refine zA rfl rfl (zF (v := .int .i64 9) rfl) ?_
  refine (zI (zB (hK1910 _ _ ?_)))
  have hR := Option.some.inj hF
  subst hR
  refine (yG (zZ (post1 (v1 := .int .i64 9) rfl rfl ?_)))
  exact ⟨rfl, H.pick [] (by decide)⟩
 have hF := zX c1909 hF
 refine (yA (zB (hK1902 _ _ ?_)))
 refine zD fun K1911 hK1911 => ?_
 refine zC ?_
 refine zA rfl rfl (zF (v := .int .i64 0) rfl) ?_
 refine (zI (zB (hK1911 _ _ ?_)))
 have hR := Option.some.inj hF
 subst hR
 refine (yG (post1 (v1 := .int .i64 0) rfl rfl ?_))
 exact ⟨rfl, H.pick [] (by decide)⟩
end Go.Proofs.YtbjhondbheijiaaGreatDoor.L
namespace Go.Proofs.YtbjhondbheijiaaGreatDoor.L
open Go.RowKit Go.OB Go.Lf
/- orangebox/orangeboxref9.peaksFault -/
set_option maxHeartbeats 4000000 in
theorem F_ref9_peaksFault_w (p0 : List Flight) (p1 : Mask) (p2 : Str) (v1 : Value) (v3 : Value) (v4 : Value) (r : Int) (hF : F_ref9_peaksFault p0 p1 p2 = some r) (O S : List Nat) (w : World) (H : Hd O w w S [.fz (.sl rFlight v1 p0), .fz (.sl Rp.str v3 p1.Hide), .fz (.sl rGrain v4 p1.Grains)]) :
  Calls Tryz.prog 14 ([v1, .agg [.bool p1.Tails, .int .i64 p1.Days, v3, v4, .int .i64 p1.Least].toArray, .string (bs p2)] : List Value).toArray w fun e w' => e = .returned (.int .i64 r) ∧ Hd O w w' S [] := by
 unfold F_ref9_peaksFault at hF
 refine yB 22 Tryz.func14 rfl rfl rfl ?_
 refine zD fun K7 hK7 => ?_
 refine zC ?_
 refine xE rfl rfl (Lx_box (cs := [.bool p1.Tails, .int .i64 p1.Days, v3, v4, .int .i64 p1.Least]) rfl H) ?_
 rintro _ w10 ⟨b8, rfl, H⟩
 refine zA rfl rfl (zF (v := .int .i64 0) rfl) ?_
 refine (zI (zB (hK7 _ _ ?_)))
 refine zD fun K22 hK22 => ?_
 refine zD fun K23 hK23 => ?_
 refine zC ?_
 refine zA rfl rfl (zG (v := v1) rfl) ?_
 have H24 := H
 obtain ⟨x25, e26, hF⟩ := zJ hF
 refine yJ rfl rfl (yC en13 rfl) (F_ref9_listFault_w p0 v1 _ e26 _ _ _ (H.enter [] [0] (by decide) rfl)) ?_
 rintro _ w27 ⟨rfl, G28⟩
 have H := H24.step (G28.only : Only [] _ _)
 refine ⟨_, rfl, ?_⟩
 refine zA rfl rfl (zF (v := .int .i64 x25) rfl) ?_
 refine (zI (zB (hK23 _ _ ?_)))
 refine zD fun K29 hK29 => ?_
 refine zC ?_
 refine zA rfl rfl (zG (v := .int .i64 x25) rfl) ?_
 obtain ⟨x30, e31, hF⟩ := zH hF
 refine zA rfl rfl (zT (Do_neq (a := x25) (b := 0) rfl rfl) (congrArg Value.bool e31)) ?_
 refine (zI (zB (hK29 _ _ ?_)))
 refine yF (b := x30) rfl (fun c32 => ?_) (fun c32 => ?_)
 ·have hF := zW c32 hF
  refine zD fun K33 hK33 => ?_
  refine zC ?_
  refine zA rfl rfl (zG (v := .int .i64 x25) rfl) ?_
  refine zA rfl rfl (zF (v := .int .i64 x25) rfl) ?_
  refine (zI (zB (hK33 _ _ ?_)))
  have hR := Option.some.inj hF
  subst hR
  refine (yG (zZ (post1 (v1 := .int .i64 x25) rfl rfl ?_)))
  exact ⟨rfl, H.pick [] (by decide)⟩
 have hF := zX c32 hF
 refine (yA (zB (hK22 _ _ ?_)))
 refine zD fun K45 hK45 => ?_
 refine zD fun K46 hK46 => ?_
 refine zC ?_
 refine zA rfl rfl (zT (yV (cs := [.bool p1.Tails, .int .i64 p1.Days, v3, v4, .int .i64 p1.Least]) agg26 rfl sz26 rfl (Blk.cells (H.item (i := 3) rfl))) rfl) ?_
 have H47 := H
 obtain ⟨x48, e49, hF⟩ := zJ hF
 refine yJ rfl rfl (yC en37 rfl) (F_ref9_CheckMask_w p1 v3 v4 _ e49 _ _ _ (H.enter [] [1, 2] (by decide) rfl)) ?_
 rintro _ w50 ⟨rfl, G51⟩
 have H := H47.step (G51.only : Only [] _ _)
 refine ⟨_, rfl, ?_⟩
 refine zA rfl rfl (zF (v := .int .i64 x48) rfl) ?_
 refine (zI (zB (hK46 _ _ ?_)))
 refine zD fun K52 hK52 => ?_
 refine zC ?_
 refine zA rfl rfl (zG (v := .int .i64 x48) rfl) ?_
 obtain ⟨x53, e54, hF⟩ := zH hF
 refine zA rfl rfl (zT (Do_neq (a := x48) (b := 0) rfl rfl) (congrArg Value.bool e54)) ?_
 refine (zI (zB (hK52 _ _ ?_)))
 refine yF (b := x53) rfl (fun c55 => ?_) (fun c55 => ?_)
 ·have hF := zW c55 hF
  refine zD fun K56 hK56 => ?_
  refine zC ?_
  refine zA rfl rfl (zG (v := .int .i64 x48) rfl) ?_
  refine zA rfl rfl (zF (v := .int .i64 x48) rfl) ?_
  refine (zI (zB (hK56 _ _ ?_)))
  have hR := Option.some.inj hF
  subst hR
  refine (yG (zZ (post1 (v1 := .int .i64 x48) rfl rfl ?_)))
  exact ⟨rfl, H.pick [] (by decide)⟩
 have hF := zX c55 hF
 refine (yA (zB (hK45 _ _ ?_)))
 refine zD fun K67 hK67 => ?_
 refine zD fun K68 hK68 => ?_
 refine zC ?_
 refine zA rfl rfl (zG (v := .string (bs p2)) rfl) ?_
 have H69 := H
 obtain ⟨x70, e71, hF⟩ := zJ hF
 refine yJ rfl rfl (yC en38 rfl) (F_ref6_IsName_w p2 _ e71 _ _ _ (H.enter [] [] (by decide) rfl)) ?_
 rintro _ w72 ⟨rfl, G73⟩
 have H := H69.step (G73.only : Only [] _ _)
 refine ⟨_, rfl, ?_⟩
 obtain ⟨x74, e75, hF⟩ := zH hF
 refine zA rfl rfl (zT (xY (p := x70) rfl) (congrArg Value.bool e75)) ?_
 refine (zI (zB (hK68 _ _ ?_)))
 refine yF (b := x74) rfl (fun c76 => ?_) (fun c76 => ?_)
 ·have hF := zW c76 hF
  refine zD fun K77 hK77 => ?_
  refine zC ?_
  refine zA rfl rfl (zF (v := .int .i64 8) rfl) ?_
  refine (zI (zB (hK77 _ _ ?_)))
  have hR := Option.some.inj hF
  subst hR
  refine (yG (zZ (post1 (v1 := .int .i64 8) rfl rfl ?_)))
  exact ⟨rfl, H.pick [] (by decide)⟩
 have hF := zX c76 hF
 refine (yA (zB (hK67 _ _ ?_)))
 refine zD fun K78 hK78 => ?_
 refine zC ?_
 refine zA rfl rfl (zF (v := .int .i64 0) rfl) ?_
 refine (zI (zB (hK78 _ _ ?_)))
 have hR := Option.some.inj hF
 subst hR
 refine (yG (post1 (v1 := .int .i64 0) rfl rfl ?_))
 exact ⟨rfl, H.pick [] (by decide)⟩
end Go.Proofs.YtbjhondbheijiaaGreatDoor.L
namespace Go.Proofs.YtbjhondbheijiaaGreatDoor.L
open Go.RowKit Go.OB Go.Lf
/- orangebox/orangeboxref9.floor -/
set_option maxHeartbeats 4000000 in
theorem F_ref9_floor_w (p0 : Int) (p1 : Int) (r : Int) (hF : F_ref9_floor p0 p1 = some r) (O S : List Nat) (w : World) (H : Hd O w w S []) :
  Calls Tryz.prog 63 ([.int .i64 p0, .int .i64 p1] : List Value).toArray w fun e w' => e = .returned (.int .i64 r) ∧ Hd O w w' S [] := by
 unfold F_ref9_floor at hF
 refine yB 19 Tryz.func63 rfl rfl rfl ?_
 refine zD fun K1 hK1 => ?_
 refine zC ?_
 refine zA rfl rfl (zF (v := .int .i64 0) rfl) ?_
 refine (zI (zB (hK1 _ _ ?_)))
 refine zD fun K2 hK2 => ?_
 refine zC ?_
 refine zA rfl rfl (zG (v := .int .i64 p0) rfl) ?_
 refine zA rfl rfl (zG (v := .int .i64 p1) rfl) ?_
 obtain ⟨x3, e4, hF⟩ := zJ hF
 refine zA rfl rfl (Do_quo' (j := p0) (q := p1) rfl rfl e4) ?_
 refine zA rfl rfl (zF (v := .int .i64 x3) rfl) ?_
 refine (zI (zB (hK2 _ _ ?_)))
 obtain ⟨g13, hF, hK15⟩ := zJ hF
 refine yL [5, 9, 10, 11, 12, 13, 14] (fun (g : Unit) => [(5, .int .i64 g13)]) (fun g wl => Hd O w wl S []) ?_ ?_
 ·skip
  refine zD fun K16 hK16 => ?_
  refine zC ?_
  refine zA rfl rfl (zG (v := .int .i64 p0) rfl) ?_
  refine zA rfl rfl (zG (v := .int .i64 p1) rfl) ?_
  obtain ⟨x17, e18, hF⟩ := zJ hF
  refine zA rfl rfl (Do_rem' (j := p0) (q := p1) rfl rfl e18) ?_
  obtain ⟨x19, e20, hF⟩ := zH hF
  refine zA rfl rfl (zT (xK (a := x17) (b := 0) rfl rfl) (congrArg Value.bool e20)) ?_
  refine (zI (zB (hK16 _ _ ?_)))
  refine yF (b := x19) rfl (fun c21 => ?_) (fun c21 => ?_)
  ·have hF := zW c21 hF
   refine zC ?_
   refine zA rfl rfl (zG (v := .int .i64 x3) rfl) ?_
   obtain ⟨x22, e23, hF⟩ := zH hF
   refine zA rfl rfl (Do_sub (a := x3) (b := 1) rfl rfl e23) ?_
   refine zA rfl rfl (zF (v := .int .i64 x22) rfl) ?_
   have hR := Option.some.inj hF
   subst hR
   refine (zI (zB (And.intro ?_ ?_)))
   ·repeat' (first | with_reducible exact zN | refine zV rfl ?_ | refine zO rfl rfl ?_)
   exact ⟨(), (zK rfl zQ), H.pick [] (by decide)⟩
  have hF := zX c21 hF
  have hR := Option.some.inj hF
  subst hR
  refine (yA (zB (And.intro ?_ ?_)))
  ·repeat' (first | with_reducible exact zN | refine zV rfl ?_ | refine zO rfl rfl ?_)
  exact ⟨(), (zK rfl zQ), H.pick [] (by decide)⟩
 rintro _ ρ w14 H
 have hF := hK15
 refine zD fun K24 hK24 => ?_
 refine zC ?_
 refine zA rfl rfl (zG (v := .int .i64 g13) rfl) ?_
 refine zA rfl rfl (zG (v := .int .i64 p1) rfl) ?_
 obtain ⟨x25, e26, hF⟩ := zH hF
 refine zA rfl rfl (Do_mul (a := g13) (b := p1) rfl rfl e26) ?_
 obtain ⟨x27, e28, hF⟩ := zH hF
 refine zA rfl rfl (Do_max (j := x25) (q := (-1125899906842624)) rfl rfl e28) ?_
 refine zA rfl rfl (zF (v := .int .i64 x27) rfl) ?_
 refine (zI (zB (hK24 _ _ ?_)))
 have hR := Option.some.inj hF
 subst hR
 refine (yG (post1 (v1 := .int .i64 x27) rfl rfl ?_))
 exact ⟨rfl, H.pick [] (by decide)⟩
end Go.Proofs.YtbjhondbheijiaaGreatDoor.L
