/- Walks: what each function computes, for every argument; no condition but those that stand in the statements. -/
import Derived.Test.YtbjhondbheijiaaGreatDoorYV0
import Derived.Test.YtbjhondbheijiaaGreatDoorYV9
import Derived.Test.YtbjhondbheijiaaGreatDoorYV4
import Derived.Test.YtbjhondbheijiaaGreatDoorYV8
namespace Go.Proofs.YtbjhondbheijiaaGreatDoor.L
open Go.RowKit Go.OB Go.Lf
/- orangebox/fleet.CheckTable -/
set_option maxHeartbeats 4000000 in
theorem F_fleet_CheckTable_w (p0 : List FleetRow) (v1 : Value) (r : Int) (hF : F_fleet_CheckTable p0 = some r) (O S : List Nat) (w : World) (H : Hd O w w S [.fz (.sl rFleetRow v1 p0)]) :
  Calls Tryz.prog 50 ([v1] : List Value).toArray w fun e w' => e = .returned (.int .i64 r) ∧ Hd O w w' S [] := by
 unfold F_fleet_CheckTable at hF
 refine yB 67 Tryz.func50 rfl rfl rfl ?_
 refine zD fun K3 hK3 => ?_
 refine zC ?_
 refine zA rfl rfl (zF (v := .int .i64 0) rfl) ?_
 refine (zI (zB (hK3 _ _ ?_)))
 refine zD fun K14 hK14 => ?_
 refine zD fun K15 hK15 => ?_
 refine zC ?_
 refine zA rfl rfl (zG (v := v1) rfl) ?_
 obtain ⟨x16, e17, hF⟩ := zH hF
 obtain ⟨a18, c19, q20⟩ := SlF.len ((H.item (i := 0) rfl))
 refine zA rfl rfl (zT (xI u65 q20) (congrArg (Value.int .i64) e17)) ?_
 obtain ⟨x21, e22, hF⟩ := zH hF
 refine zA rfl rfl (zT (wF (a := x16) (b := 300) rfl rfl) (congrArg Value.bool e22)) ?_
 refine (zI (zB (hK15 _ _ ?_)))
 refine yF (b := x21) rfl (fun c23 => ?_) (fun c23 => ?_)
 ·have hF := zW c23 hF
  refine zD fun K24 hK24 => ?_
  refine zC ?_
  refine zA rfl rfl (zF (v := .int .i64 3) rfl) ?_
  refine (zI (zB (hK24 _ _ ?_)))
  have hR := Option.some.inj hF
  subst hR
  refine (yG (zZ (post1 (v1 := .int .i64 3) rfl rfl ?_)))
  exact ⟨rfl, H.pick [] (by decide)⟩
 have hF := zX c23 hF
 refine (yA (zB (hK14 _ _ ?_)))
 refine zD fun K25 hK25 => ?_
 refine zC ?_
 refine zA rfl rfl (zG (v := v1) rfl) ?_
 have H26 := H
 obtain ⟨x27, e28, hF⟩ := zJ hF
 refine yJ rfl rfl (yC en69 rfl) (F_slices_IndexFunc___api_FleetRow_api_FleetRow__fleet_CheckTable_1_w p0 v1 _ e28 _ _ _ (H.enter [] [0] (by decide) rfl)) ?_
 rintro _ w29 ⟨rfl, G30⟩
 have H := H26.step (G30.only : Only [] _ _)
 refine ⟨_, rfl, ?_⟩
 refine zA rfl rfl (zF (v := .int .i64 x27) rfl) ?_
 refine (zI (zB (hK25 _ _ ?_)))
 refine zD fun K31 hK31 => ?_
 refine zC ?_
 refine zA rfl rfl (zF (v := .func (.func 71) #[] #[]) rfl) ?_
 refine (zI (zB (hK31 _ _ ?_)))
 obtain ⟨k476, ek477, hF⟩ := xU hF
 refine yL [2, 5, 6, 12, 13, 14, 15, 16, 17, 18, 19, 20, 21, 22, 23, 24, 25, 26, 27, 28, 29, 30, 31, 32, 33, 34, 35, 36, 37, 38, 39, 40, 41, 42, 43, 44, 45, 46, 47, 48, 49, 50, 51, 52, 53, 54, 55, 56, 57, 58, 59, 60, 61, 62, 63, 64, 65, 66] (fun (g : Unit) => []) (fun g wl => Hd O w wl S [] ∧ k476 () = some r) ?_ ?_
 ·skip
  refine zD fun K478 hK478 => ?_
  refine zC ?_
  refine zA rfl rfl (zG (v := v1) rfl) ?_
  obtain ⟨x479, e480, hF⟩ := zH hF
  obtain ⟨a481, c482, q483⟩ := SlF.len ((H.item (i := 0) rfl))
  refine zA rfl rfl (zT (xI u65 q483) (congrArg (Value.int .i64) e480)) ?_
  refine zA rfl rfl (zG (v := .int .i64 0) rfl) ?_
  refine (zI (zB (hK478 _ _ ?_)))
  refine yK ?_
  unfold F_fleet_CheckTable_L1 at hF
  obtain ⟨B916, n917, eB918, hF⟩ := yT hF
  refine xC [2, 5, 6, 14, 15, 16, 17, 18, 19, 20, 21, 22, 23, 24, 25, 26, 27, 28, 29, 30, 31, 32, 33, 34, 35, 36, 37, 38, 39, 40, 41, 42, 43, 44, 45, 46, 47, 48, 49, 50, 51, 52, 53, 54, 55, 56, 57, 58, 59, 60, 61, 62, 63, 64, 65, 66] (fun (g : Nat × Int) => [(14, .int .i64 g.2)]) (fun g wl => Hd O w wl S [.fz (.sl rFleetRow v1 p0)] ∧ loopN B916 g.1 g.2 = some r) (fun g => g.1) (n917, 0) (zK rfl zQ) ⟨H.pick [0] (by decide), hF⟩ ?_
  clear H hF
  rintro ⟨n917, g915⟩ ρ w920 ⟨H, hF⟩
  obtain ⟨n921, rfl, hF⟩ := yX hF
  have hF := yY eB918 hF
  refine zD fun K922 hK922 => ?_
  refine zC ?_
  obtain ⟨x923, e924, hF⟩ := zH hF
  refine zA rfl rfl (zT (xK (a := g915) (b := x479) rfl rfl) (congrArg Value.bool e924)) ?_
  refine (zI (zB (hK922 _ _ ?_)))
  refine zD fun K926 hK926 => ?_
  refine yF (b := x923) rfl (fun c927 => ?_) (fun c927 => ?_)
  ·have hF := zW c927 hF
   refine (yA (zB (hK926 _ _ ?_)))
   refine zD fun K1031 hK1031 => ?_
   refine yK ?_
   refine zD fun K1032 hK1032 => ?_
   refine zC ?_
   refine zA rfl rfl (zG (v := .int .i64 g915) rfl) ?_
   obtain ⟨x1033, e1034, hF⟩ := zJ hF
   obtain ⟨b1035, o1036, c1037, cs1038, q1039, h1042, h1040, h1041, h1043⟩ := wB (H.item (i := 0) rfl) e1034
   obtain ⟨v1044, rfl, h1045⟩ := rFleetRow_open h1042
   have H := H.fzs [.at b1035 (o1036 + g915.toNat * 4) _, .sl (Rp.int .i64) v1044 x1033.Events] ⟨⟨h1040, h1041, h1043⟩, h1045, trivial⟩
   refine zA rfl rfl (xG u65 sz62 q1039 rfl (yD e1034).1 (yD e1034).2.1 rfl rfl) ?_
   refine zA rfl rfl (zT (yV (cs := [.string (bs x1033.Key), .bool x1033.Hidden, .int .i64 x1033.Flights, v1044]) agg62 rfl sz62 rfl (H.item (i := 1) rfl).2.2) rfl) ?_
   refine xE rfl rfl (xR zero62 H) ?_
   rintro _ w1050 ⟨b1048, rfl, H⟩
   refine zA rfl rfl (zF (v := .int .i64 g915) rfl) ?_
   refine xO rfl (xA (vs := [.string (bs x1033.Key), .bool x1033.Hidden, .int .i64 x1033.Flights, v1044]) H 3 rfl sz62 rfl rfl rfl ⟨rfl, rfl, rfl, (slf_one (H.item (i := 2) rfl)), trivial⟩ rfl) ?_
   rintro w1051 H
   refine (zI (zB (hK1032 _ _ ?_)))
   refine yK ?_
   refine zD fun K1052 hK1052 => ?_
   refine zC ?_
   refine zA rfl rfl (zG (v := v1) rfl) ?_
   refine zA rfl rfl (zG (v := .int .i64 g915) rfl) ?_
   obtain ⟨x1053, e1054, hF⟩ := zJ hF
   refine RL_exP rfl rfl (Lx_slice_h u65 sz62 (H.item (i := 0) rfl) rfl rfl e1054) ?_
   rintro v1055 h1056
   have H := H.fz (.sl rFleetRow v1055 x1053) h1056
   refine zA rfl rfl (Do_makeFunc rfl) ?_
   obtain ⟨x1058, e1059, hF⟩ := zJ hF
   refine yJ rfl rfl (yC en72 rfl) (F_slices_ContainsFunc___api_FleetRow_api_FleetRow__fleet_CheckTable_3_w x1053 x1033 v1055 b1048 v1044 _ e1059 _ _ _ (H.enter [3] [4, 2] (by decide) rfl)) ?_
   rintro _ w1060 ⟨rfl, G1061⟩
   have H : Hd O _ w1060 _ [.fz (.sl rFleetRow v1 p0), .fz (.at b1035 (o1036 + g915.toNat * 4) [.string (bs x1033.Key), .bool x1033.Hidden, .int .i64 x1033.Flights, v1044]), .fz (.sl (Rp.int .i64) v1044 x1033.Events), .fz (.sl rFleetRow v1055 x1053), .blk b1048 [.string (bs x1033.Key), .bool x1033.Hidden, .int .i64 x1033.Flights, v1044] 62] := H.back [3] [4, 2] rfl G1061
   refine ⟨_, rfl, ?_⟩
   refine zA rfl rfl (zF (v := .bool x1058) rfl) ?_
   refine (zI (zB (hK1052 _ _ ?_)))
   refine yF (b := x1058) rfl (fun c1062 => ?_) (fun c1062 => ?_)
   ·have hF := zW c1062 hF
    refine zD fun K1063 hK1063 => ?_
    refine zC ?_
    refine zA rfl rfl (zF (v := .int .i64 5) rfl) ?_
    refine (zI (zB (hK1063 _ _ ?_)))
    have hR := Option.some.inj hF
    subst hR
    refine (yG (yM (yM (zZ (zZ (yM (zZ (post1 (v1 := .int .i64 5) rfl rfl ?_))))))))
    exact ⟨rfl, H.pick [] (by decide)⟩
   have hF := zX c1062 hF
   obtain ⟨g1075, hF, hK1077⟩ := zJ hF
   refine yL [25, 26, 27, 28, 29, 30, 31, 32, 33, 34, 35, 36, 37, 38] (fun (g : Unit) => [(25, .bool g1075)]) (fun g wl => Hd O w wl S [.fz (.sl rFleetRow v1 p0), .blk b1048 [.string (bs x1033.Key), .bool x1033.Hidden, .int .i64 x1033.Flights, v1044] 62, .fz (.sl (Rp.int .i64) v1044 x1033.Events)]) ?_ ?_
   ·skip
    refine zC ?_
    refine zA rfl rfl (fa62_1 rfl) ?_
    refine zA rfl rfl (zU one4 rfl (Cells.get (Blk.cells (H.item (i := 4) rfl)) (i := 1) rfl)) ?_
    refine yO (b := x1033.Hidden) rfl rfl rfl (fun c1078 => ?_) (fun c1078 => ?_)
    ·have hF := zW c1078 hF
     refine zA rfl rfl (fa62_2 rfl) ?_
     refine zA rfl rfl (zU one3 rfl (Cells.get (Blk.cells (H.item (i := 4) rfl)) (i := 2) rfl)) ?_
     obtain ⟨x1079, e1080, hF⟩ := zH hF
     refine zA rfl rfl (zT (Do_neq (a := x1033.Flights) (b := 0) rfl rfl) (congrArg Value.bool e1080)) ?_
     refine yO (b := x1079) rfl rfl rfl (fun c1081 => ?_) (fun c1081 => ?_)
     ·have hF := zW c1081 hF
      refine zM rfl rfl ?_
      refine zM rfl rfl ?_
      refine zM rfl rfl ?_
      refine zM rfl rfl ?_
      refine zA rfl rfl (yI (v := .bool true) rfl rfl) ?_
      refine zA rfl rfl (yI (v := .bool true) rfl rfl) ?_
      refine zA rfl rfl (zF (v := .bool true) rfl) ?_
      have hR := Option.some.inj hF
      subst hR
      refine (zI (zB (And.intro ?_ ?_)))
      ·repeat' (first | with_reducible exact zN | refine zV rfl ?_ | refine zO rfl rfl ?_)
      exact ⟨(), (zK rfl zQ), H.pick [0, 4, 2] (by decide)⟩
     have hF := zX c1081 hF
     refine zA rfl rfl (fa62_3 rfl) ?_
     refine zA rfl rfl (zU one33 rfl (Cells.get (Blk.cells (H.item (i := 4) rfl)) (i := 3) rfl)) ?_
     obtain ⟨x1082, e1083, hF⟩ := zH hF
     obtain ⟨a1084, c1085, q1086⟩ := SlF.len ((H.item (i := 2) rfl))
     refine zA rfl rfl (zT (xI u33 q1086) (congrArg (Value.int .i64) e1083)) ?_
     obtain ⟨x1087, e1088, hF⟩ := zH hF
     refine zA rfl rfl (zT (wF (a := x1082) (b := 0) rfl rfl) (congrArg Value.bool e1088)) ?_
     refine zA rfl rfl (yH (v := .bool x1087) rfl rfl) ?_
     refine zA rfl rfl (yI (v := .bool x1087) rfl rfl) ?_
     refine zA rfl rfl (zF (v := .bool x1087) rfl) ?_
     have hR := Option.some.inj hF
     subst hR
     refine (zI (zB (And.intro ?_ ?_)))
     ·repeat' (first | with_reducible exact zN | refine zV rfl ?_ | refine zO rfl rfl ?_)
     exact ⟨(), (zK rfl zQ), H.pick [0, 4, 2] (by decide)⟩
    have hF := zX c1078 hF
    refine zM rfl rfl ?_
    refine zM rfl rfl ?_
    refine zM rfl rfl ?_
    refine zM rfl rfl ?_
    refine zM rfl rfl ?_
    refine zM rfl rfl ?_
    refine zM rfl rfl ?_
    refine zM rfl rfl ?_
    refine zM rfl rfl ?_
    refine zA rfl rfl (yH (v := .bool false) rfl rfl) ?_
    refine zA rfl rfl (zF (v := .bool false) rfl) ?_
    have hR := Option.some.inj hF
    subst hR
    refine (zI (zB (And.intro ?_ ?_)))
    ·repeat' (first | with_reducible exact zN | refine zV rfl ?_ | refine zO rfl rfl ?_)
    exact ⟨(), (zK rfl zQ), H.pick [0, 4, 2] (by decide)⟩
   rintro _ ρ w1076 H
   have hF := hK1077
   refine yF (b := g1075) rfl (fun c1089 => ?_) (fun c1089 => ?_)
   ·have hF := zW c1089 hF
    refine zD fun K1090 hK1090 => ?_
    refine zC ?_
    refine zA rfl rfl (zF (v := .int .i64 2) rfl) ?_
    refine (zI (zB (hK1090 _ _ ?_)))
    have hR := Option.some.inj hF
    subst hR
    refine (yG (yM (yM (zZ (zZ (yM (zZ (post1 (v1 := .int .i64 2) rfl rfl ?_))))))))
    exact ⟨rfl, H.pick [] (by decide)⟩
   have hF := zX c1089 hF
   obtain ⟨g1102, hF, hK1104⟩ := zJ hF
   refine yL [39, 40, 41, 42, 43, 44, 45, 46, 47, 48, 49] (fun (g : Unit) => [(39, .bool g1102)]) (fun g wl => Hd O w wl S [.fz (.sl rFleetRow v1 p0), .blk b1048 [.string (bs x1033.Key), .bool x1033.Hidden, .int .i64 x1033.Flights, v1044] 62, .fz (.sl (Rp.int .i64) v1044 x1033.Events)]) ?_ ?_
   ·skip
    refine zC ?_
    refine zA rfl rfl (zG (v := .func (.func 71) #[] #[]) rfl) ?_
    refine zA rfl rfl (fa62_2 rfl) ?_
    refine zA rfl rfl (zU one3 rfl (Cells.get (Blk.cells (H.item (i := 1) rfl)) (i := 2) rfl)) ?_
    have H1105 := H
    obtain ⟨x1106, e1107, hF⟩ := zJ hF
    refine yJ rfl rfl (DoC_clo en71 rfl rfl) (F_fleet_CheckTable_2_w x1033.Flights _ e1107 _ _ _ (H.enter [] [] (by decide) rfl)) ?_
    rintro _ w1108 ⟨rfl, G1109⟩
    have H := H1105.step (G1109.only : Only [] _ _)
    refine ⟨_, rfl, ?_⟩
    refine yO (b := x1106) rfl rfl rfl (fun c1110 => ?_) (fun c1110 => ?_)
    ·have hF := zW c1110 hF
     refine zM rfl rfl ?_
     refine zM rfl rfl ?_
     refine zM rfl rfl ?_
     refine zM rfl rfl ?_
     refine zA rfl rfl (yI (v := .bool true) rfl rfl) ?_
     refine zA rfl rfl (zF (v := .bool true) rfl) ?_
     have hR := Option.some.inj hF
     subst hR
     refine (zI (zB (And.intro ?_ ?_)))
     ·repeat' (first | with_reducible exact zN | refine zV rfl ?_ | refine zO rfl rfl ?_)
     exact ⟨(), (zK rfl zQ), H.pick [0, 1, 2] (by decide)⟩
    have hF := zX c1110 hF
    refine zA rfl rfl (fa62_3 rfl) ?_
    refine zA rfl rfl (zU one33 rfl (Cells.get (Blk.cells (H.item (i := 1) rfl)) (i := 3) rfl)) ?_
    refine zA rfl rfl (zG (v := .func (.func 71) #[] #[]) rfl) ?_
    have H1111 := H
    obtain ⟨x1112, e1113, hF⟩ := zJ hF
    refine yJ rfl rfl (yC en74 rfl) (F_slices_ContainsFunc___int_int__fleet_CheckTable_2_w x1033.Events v1044 _ e1113 _ _ _ (H.enter [] [2] (by decide) rfl)) ?_
    rintro _ w1114 ⟨rfl, G1115⟩
    have H := H1111.step (G1115.only : Only [] _ _)
    refine ⟨_, rfl, ?_⟩
    refine zA rfl rfl (yH (v := .bool x1112) rfl rfl) ?_
    refine zA rfl rfl (zF (v := .bool x1112) rfl) ?_
    have hR := Option.some.inj hF
    subst hR
    refine (zI (zB (And.intro ?_ ?_)))
    ·repeat' (first | with_reducible exact zN | refine zV rfl ?_ | refine zO rfl rfl ?_)
    exact ⟨(), (zK rfl zQ), H.pick [0, 1, 2] (by decide)⟩
   rintro _ ρ w1103 H
   have hF := hK1104
   refine yF (b := g1102) rfl (fun c1116 => ?_) (fun c1116 => ?_)
   ·have hF := zW c1116 hF
    refine zD fun K1117 hK1117 => ?_
    refine zC ?_
    refine zA rfl rfl (zF (v := .int .i64 9) rfl) ?_
    refine (zI (zB (hK1117 _ _ ?_)))
    have hR := Option.some.inj hF
    subst hR
    refine (yG (yM (yM (zZ (zZ (yM (zZ (post1 (v1 := .int .i64 9) rfl rfl ?_))))))))
    exact ⟨rfl, H.pick [] (by decide)⟩
   have hF := zX c1116 hF
   obtain ⟨g1152, hF, hK1154⟩ := zJ hF
   refine yL [50, 51, 52, 53, 54, 55, 56, 57, 58, 59, 60, 61, 62, 63, 64, 65] (fun (g : Unit) => [(50, .bool g1152)]) (fun g wl => Hd O w wl S [.fz (.sl rFleetRow v1 p0)]) ?_ ?_
   ·skip
    have H1155 := H
    have H := H.rebase
    have H1156 := H
    refine WP_mix0 H [0, 1, 2, 3, 4, 5, 6, 7, 8, 9, 10, 11, 12, 13, 14, 15] [.pure, .read, .pure, .pure, .pure, .read, .pure, .pure, .pure, .pure, .pure, .read, .pure, .pure, .pure, .pure] mixed (by kernel_rfl) (by kernel_rfl) (by kernel_rfl) rfl ?_
    refine Mx.zS rfl rfl rfl (fun w' hw' => fa62_1 rfl) ?_
    refine Mx.xM oS rfl rfl rfl (fun w' hw' => zU one4 rfl (Cells.get (Blk.cells ((H.sees hw').item (i := 1) rfl)) (i := 1) rfl)) ?_
    obtain ⟨x1157, e1158, hF⟩ := zH hF
    refine Mx.zS rfl rfl rfl (fun w' hw' => zT (xY (p := x1033.Hidden) rfl) (congrArg Value.bool e1158)) ?_
    refine Mx.XL_splitb (b := x1157) rfl rfl rfl rfl (fun c1159 => ?_) (fun c1159 => ?_)
    ·have hF := zW c1159 hF
     refine Mx.zS rfl rfl rfl (fun w' hw' => fa62_3 rfl) ?_
     refine Mx.xM oS rfl rfl rfl (fun w' hw' => zU one33 rfl (Cells.get (Blk.cells ((H.sees hw').item (i := 1) rfl)) (i := 3) rfl)) ?_
     obtain ⟨x1160, e1161, hF⟩ := zH hF
     obtain ⟨a1162, c1163, q1164⟩ := SlF.len ((H.item (i := 2) rfl))
     refine Mx.zS rfl rfl rfl (fun w' hw' => zT (xI u33 q1164) (congrArg (Value.int .i64) e1161)) ?_
     refine Mx.zS rfl rfl rfl (fun w' hw' => zG (v := v1) rfl) ?_
     refine Mx.zS rfl rfl rfl (fun w' hw' => zG (v := .int .i64 x27) rfl) ?_
     obtain ⟨x1165, e1166, hF⟩ := zJ hF
     obtain ⟨b1167, o1168, c1169, cs1170, q1171, h1174, h1172, h1173, h1175⟩ := wB (H.item (i := 0) rfl) e1166
     obtain ⟨v1176, rfl, h1177⟩ := rFleetRow_open h1174
     have H := H.fzs [.at b1167 (o1168 + x27.toNat * 4) _, .sl (Rp.int .i64) v1176 x1165.Events] ⟨⟨h1172, h1173, h1175⟩, h1177, trivial⟩
     refine Mx.zS rfl rfl rfl (fun w' hw' => xG u65 sz62 q1171 rfl (yD e1166).1 (yD e1166).2.1 rfl rfl) ?_
     refine Mx.zS rfl rfl rfl (fun w' hw' => fa62_3 rfl) ?_
     refine Mx.xM oS rfl rfl rfl (fun w' hw' => zU one33 rfl (Cells.get ((H.sees hw').item (i := 3) rfl).2.2 (i := 3) rfl)) ?_
     obtain ⟨x1180, e1181, hF⟩ := zH hF
     obtain ⟨a1182, c1183, q1184⟩ := SlF.len ((H.item (i := 4) rfl))
     refine Mx.zS rfl rfl rfl (fun w' hw' => zT (xI u33 q1184) (congrArg (Value.int .i64) e1181)) ?_
     obtain ⟨x1185, e1186, hF⟩ := zH hF
     refine Mx.zS rfl rfl rfl (fun w' hw' => zT (Do_neq (a := x1160) (b := x1180) rfl rfl) (congrArg Value.bool e1186)) ?_
     refine Mx.zS rfl rfl rfl (fun w' hw' => yI (v := .bool x1185) rfl rfl) ?_
     refine Mx.zS rfl rfl rfl (fun w' hw' => zF (v := .bool x1185) rfl) ?_
     refine Mx.wG fun w1187 hS => ?_
     have H := H.sees hS
     have H := H1155.rejoin H
     have hR := Option.some.inj hF
     subst hR
     refine (zB (And.intro ?_ ?_))
     ·repeat' (first | with_reducible exact zN | refine zV rfl ?_ | refine zO rfl rfl ?_)
     exact ⟨(), (zK rfl zQ), H.pick [0] (by decide)⟩
    have hF := zX c1159 hF
    refine Mx.xX rfl rfl rfl ?_
    refine Mx.XL_offr oS rfl rfl rfl ?_
    refine Mx.xX rfl rfl rfl ?_
    refine Mx.xX rfl rfl rfl ?_
    refine Mx.xX rfl rfl rfl ?_
    refine Mx.xX rfl rfl rfl ?_
    refine Mx.xX rfl rfl rfl ?_
    refine Mx.XL_offr oS rfl rfl rfl ?_
    refine Mx.xX rfl rfl rfl ?_
    refine Mx.xX rfl rfl rfl ?_
    refine Mx.zS rfl rfl rfl (fun w' hw' => yH (v := .bool false) rfl rfl) ?_
    refine Mx.zS rfl rfl rfl (fun w' hw' => zF (v := .bool false) rfl) ?_
    refine Mx.wG fun w1188 hS => ?_
    have H := H.sees hS
    have H := H1155.rejoin H
    have hR := Option.some.inj hF
    subst hR
    refine (zB (And.intro ?_ ?_))
    ·repeat' (first | with_reducible exact zN | refine zV rfl ?_ | refine zO rfl rfl ?_)
    exact ⟨(), (zK rfl zQ), H.pick [0] (by decide)⟩
   rintro _ ρ w1153 H
   have hF := hK1154
   refine yF (b := g1152) rfl (fun c1189 => ?_) (fun c1189 => ?_)
   ·have hF := zW c1189 hF
    refine zD fun K1190 hK1190 => ?_
    refine zC ?_
    refine zA rfl rfl (zF (v := .int .i64 2) rfl) ?_
    refine (zI (zB (hK1190 _ _ ?_)))
    have hR := Option.some.inj hF
    subst hR
    refine (yG (yM (yM (zZ (zZ (yM (zZ (post1 (v1 := .int .i64 2) rfl rfl ?_))))))))
    exact ⟨rfl, H.pick [] (by decide)⟩
   have hF := zX c1189 hF
   refine (yA (yU (yU (zB (hK1031 _ _ ?_)))))
   refine zC ?_
   obtain ⟨x1191, e1192, hF⟩ := zH hF
   refine zA rfl rfl (xJ (a := g915) (b := 1) rfl rfl e1192) ?_
   refine zA rfl rfl (zG (v := .int .i64 x1191) rfl) ?_
   refine (zI (zB (And.intro ?_ ?_)))
   ·repeat' (first | with_reducible exact zN | refine zV rfl ?_ | refine zO rfl rfl ?_)
   exact ⟨(n921, x1191), (zK rfl zQ), ⟨H.pick [0] (by decide), hF⟩, Nat.lt_succ_self _⟩
  have hF := zX c927 hF
  refine (xB (yN (yN (yR (zB (And.intro ?_ ?_))))))
  ·repeat' (first | with_reducible exact zN | refine zV rfl ?_ | refine zO rfl rfl ?_)
  exact ⟨(), zQ, ⟨H.pick [] (by decide), hF⟩⟩
 rintro _ ρ w475 ⟨H, hF⟩
 have hF := xZ ek477 hF
 refine zD fun K1193 hK1193 => ?_
 refine zC ?_
 refine zA rfl rfl (zF (v := .int .i64 0) rfl) ?_
 refine (zI (zB (hK1193 _ _ ?_)))
 have hR := Option.some.inj hF
 subst hR
 refine (yG (post1 (v1 := .int .i64 0) rfl rfl ?_))
 exact ⟨rfl, H.pick [] (by decide)⟩
end Go.Proofs.YtbjhondbheijiaaGreatDoor.L
namespace Go.Proofs.YtbjhondbheijiaaGreatDoor.L
open Go.RowKit Go.OB Go.Lf
/- orangebox/fleet.Total -/
set_option maxHeartbeats 4000000 in
theorem F_fleet_Total_w (p0 : List FleetRow) (v1 : Value) (r : FleetRow × Int) (hF : F_fleet_Total p0 = some r) (O S : List Nat) (w : World) (H : Hd O w w S [.fz (.sl rFleetRow v1 p0)]) :
  Calls Tryz.prog 25 ([v1] : List Value).toArray w fun e w' => ∃ u3, e = .returned (.tuple #[.agg [.string (bs r.1.Key), .bool r.1.Hidden, .int .i64 r.1.Flights, u3].toArray, .int .i64 r.2]) ∧ Hd O w w' S [.fz (.sl (Rp.int .i64) u3 r.1.Events)] := by
 unfold F_fleet_Total at hF
 refine yB 57 Tryz.func25 rfl rfl rfl ?_
 refine zD fun K4 hK4 => ?_
 refine zC ?_
 refine xE rfl rfl (xR zero62 H) ?_
 rintro _ w7 ⟨b5, rfl, H⟩
 refine zA rfl rfl (zF (v := .int .i64 0) rfl) ?_
 refine (zI (zB (hK4 _ _ ?_)))
 refine zD fun K20 hK20 => ?_
 refine zD fun K21 hK21 => ?_
 refine zC ?_
 refine zA rfl rfl (zG (v := v1) rfl) ?_
 have H22 := H
 obtain ⟨x23, e24, hF⟩ := zJ hF
 refine yJ rfl rfl (yC en50 rfl) (F_fleet_CheckTable_w p0 v1 _ e24 _ _ _ (H.enter [] [0] (by decide) rfl)) ?_
 rintro _ w25 ⟨rfl, G26⟩
 have H := H22.step (G26.only : Only [] _ _)
 refine ⟨_, rfl, ?_⟩
 refine zA rfl rfl (zF (v := .int .i64 x23) rfl) ?_
 refine (zI (zB (hK21 _ _ ?_)))
 refine zD fun K27 hK27 => ?_
 refine zC ?_
 refine zA rfl rfl (zG (v := .int .i64 x23) rfl) ?_
 obtain ⟨x28, e29, hF⟩ := zH hF
 refine zA rfl rfl (zT (Do_neq (a := x23) (b := 0) rfl rfl) (congrArg Value.bool e29)) ?_
 refine (zI (zB (hK27 _ _ ?_)))
 refine yF (b := x28) rfl (fun c30 => ?_) (fun c30 => ?_)
 ·have hF := zW c30 hF
  refine zD fun K31 hK31 => ?_
  refine zC ?_
  refine zA rfl rfl (Do_build (cs := [.string (bs []), .bool false, .int .i64 0, .slice none 0 0]) bz62) ?_
  refine zA rfl rfl (zG (v := .int .i64 x23) rfl) ?_
  refine xO rfl (xA (vs := [.string (bs []), .bool false, .int .i64 0, .slice none 0 0]) H 1 rfl sz62 rfl rfl rfl ⟨rfl, rfl, rfl, rfl, trivial⟩ rfl) ?_
  rintro w32 H
  refine zA rfl rfl (zF (v := .int .i64 x23) rfl) ?_
  refine (zI (zB (hK31 _ _ ?_)))
  have H := H.fz (.sl (Rp.int .i64) (.slice none 0 0) []) SlF.nil
  have hR := Option.some.inj hF
  subst hR
  refine (yG (zZ (postc1 (v1 := .int .i64 x23) rfl rfl (xH agg62 sz62 rfl (Blk.cells (H.item (i := 1) rfl))) rfl ?_)))
  exact ⟨.slice none 0 0, rfl, H.pick [2] (by decide)⟩
 have hF := zX c30 hF
 refine (yA (zB (hK20 _ _ ?_)))
 refine zD fun K34 hK34 => ?_
 refine zC ?_
 refine xE rfl rfl (xR zero62 H) ?_
 rintro _ w37 ⟨b35, rfl, H⟩
 refine (zI (zB (hK34 _ _ ?_)))
 obtain ⟨j598, hF, hK597⟩ := zJ hF
 refine yL [7, 8, 9, 16, 17, 18, 19, 20, 21, 22, 23, 24, 25, 26, 27, 28, 29, 30, 31, 32, 33, 34, 35, 36, 37, 38, 39, 40, 41, 42, 43, 44, 45, 46, 47, 48, 49, 50, 51, 52, 53, 54, 55] (fun (g : Value) => []) (fun g wl => Hd O w wl S [.blk b5 [.string (bs []), .bool false, .int .i64 0, .slice none 0 0] 62, .blk b35 [.string (bs []), .bool false, .int .i64 j598.1, g] 62, .own (Rp.int .i64) g 3 j598.2.1, .fz (.nl g j598.2.2)]) ?_ ?_
 ·skip
  refine zD fun K599 hK599 => ?_
  refine zC ?_
  refine zA rfl rfl (zG (v := v1) rfl) ?_
  obtain ⟨x600, e601, hF⟩ := zH hF
  obtain ⟨a602, c603, q604⟩ := SlF.len ((H.item (i := 0) rfl))
  refine zA rfl rfl (zT (xI u65 q604) (congrArg (Value.int .i64) e601)) ?_
  refine zA rfl rfl (zG (v := .int .i64 0) rfl) ?_
  refine (zI (zB (hK599 _ _ ?_)))
  refine yK ?_
  have H := own_nil H (Rp.int .i64) 3
  have H := H.fz (.nl (.slice none 0 0) true) rfl
  unfold F_fleet_Total_L1 at hF
  obtain ⟨B1152, n1153, eB1154, hF⟩ := yT hF
  refine xC [7, 8, 9, 18, 19, 20, 21, 22, 23, 24, 25, 26, 27, 28, 29, 30, 31, 32, 33, 34, 35, 36, 37, 38, 39, 40, 41, 42, 43, 44, 45, 46, 47, 48, 49, 50, 51, 52, 53, 54, 55] (fun (g : Nat × Int × Int × (List Int) × Bool × Value) => [(18, .int .i64 g.2.1)]) (fun g wl => Hd O w wl S [.fz (.sl rFleetRow v1 p0), .blk b5 [.string (bs []), .bool false, .int .i64 0, .slice none 0 0] 62, .blk b35 [.string (bs []), .bool false, .int .i64 g.2.2.1, g.2.2.2.2.2] 62, .own (Rp.int .i64) g.2.2.2.2.2 3 g.2.2.2.1, .fz (.nl g.2.2.2.2.2 g.2.2.2.2.1)] ∧ loopN B1152 g.1 (g.2.1, g.2.2.1, g.2.2.2.1, g.2.2.2.2.1) = some j598) (fun g => g.1) (n1153, 0, 0, [], true, .slice none 0 0) (zK rfl zQ) ⟨H.pick [0, 1, 2, 3, 4] (by decide), hF⟩ ?_
  clear H hF
  rintro ⟨n1153, g1143, g1144, g1146, g1148, v1147⟩ ρ w1156 ⟨H, hF⟩
  obtain ⟨n1157, rfl, hF⟩ := yX hF
  have hF := yY eB1154 hF
  refine zD fun K1158 hK1158 => ?_
  refine zC ?_
  obtain ⟨x1159, e1160, hF⟩ := zH hF
  refine zA rfl rfl (zT (xK (a := g1143) (b := x600) rfl rfl) (congrArg Value.bool e1160)) ?_
  refine (zI (zB (hK1158 _ _ ?_)))
  refine zD fun K1162 hK1162 => ?_
  refine yF (b := x1159) rfl (fun c1163 => ?_) (fun c1163 => ?_)
  ·have hF := zW c1163 hF
   refine (yA (zB (hK1162 _ _ ?_)))
   obtain ⟨j1419, hF, hK1418⟩ := zJ hF
   refine yL [7, 8, 9, 20, 21, 22, 23, 24, 25, 26, 27, 28, 29, 30, 31, 32, 33, 34, 35, 36, 37, 38, 39, 40, 41, 42, 43, 44, 45, 46, 47, 48, 49, 50, 51, 52, 53, 54] (fun (g : Value) => []) (fun g wl => Hd O w wl S [.fz (.sl rFleetRow v1 p0), .blk b5 [.string (bs []), .bool false, .int .i64 0, .slice none 0 0] 62, .blk b35 [.string (bs []), .bool false, .int .i64 j1419.1, g] 62, .own (Rp.int .i64) g 3 j1419.2.1, .fz (.nl g j1419.2.2)]) ?_ ?_
   ·skip
    refine yK ?_
    refine zD fun K1420 hK1420 => ?_
    refine zC ?_
    obtain ⟨x1421, e1422, hF⟩ := zJ hF
    obtain ⟨b1423, o1424, c1425, cs1426, q1427, h1430, h1428, h1429, h1431⟩ := wB (H.item (i := 0) rfl) e1422
    obtain ⟨v1432, rfl, h1433⟩ := rFleetRow_open h1430
    have H := H.fzs [.at b1423 (o1424 + g1143.toNat * 4) _, .sl (Rp.int .i64) v1432 x1421.Events] ⟨⟨h1428, h1429, h1431⟩, h1433, trivial⟩
    refine zA rfl rfl (xG u65 sz62 q1427 rfl (yD e1422).1 (yD e1422).2.1 rfl rfl) ?_
    refine zA rfl rfl (zT (yV (cs := [.string (bs x1421.Key), .bool x1421.Hidden, .int .i64 x1421.Flights, v1432]) agg62 rfl sz62 rfl (H.item (i := 5) rfl).2.2) rfl) ?_
    refine xE rfl rfl (xR zero62 H) ?_
    rintro _ w1438 ⟨b1436, rfl, H⟩
    refine xO rfl (xA (vs := [.string (bs x1421.Key), .bool x1421.Hidden, .int .i64 x1421.Flights, v1432]) H 7 rfl sz62 rfl rfl rfl ⟨rfl, rfl, rfl, (slf_one (H.item (i := 6) rfl)), trivial⟩ rfl) ?_
    rintro w1439 H
    refine (zI (zB (hK1420 _ _ ?_)))
    refine zD fun K1442 hK1442 => ?_
    refine zD fun K1443 hK1443 => ?_
    refine zC ?_
    refine zA rfl rfl (fa62_1 rfl) ?_
    refine zA rfl rfl (zU one4 rfl (Cells.get (Blk.cells (H.item (i := 7) rfl)) (i := 1) rfl)) ?_
    refine (zI (zB (hK1443 _ _ ?_)))
    refine yF (b := x1421.Hidden) rfl (fun c1444 => ?_) (fun c1444 => ?_)
    ·have hF := zW c1444 hF
     have hR := Option.some.inj hF
     subst hR
     refine (xB (yN (yR (zB (And.intro ?_ ?_)))))
     ·repeat' (first | with_reducible exact zN | refine zV rfl ?_ | refine zO rfl rfl ?_)
     exact ⟨v1147, zQ, H.pick [0, 1, 2, 3, 4] (by decide)⟩
    have hF := zX c1444 hF
    refine (yA (zB (hK1442 _ _ ?_)))
    obtain ⟨j1470, hF, hK1469⟩ := zJ hF
    refine yL [24, 25, 26, 27, 28, 29, 30, 31] (fun (g : Value) => []) (fun g wl => Hd O w wl S [.fz (.sl rFleetRow v1 p0), .blk b5 [.string (bs []), .bool false, .int .i64 0, .slice none 0 0] 62, .blk b35 [.string (bs []), .bool false, .int .i64 g1144, g] 62, .own (Rp.int .i64) g 3 j1470.1, .fz (.nl g j1470.2), .blk b1436 [.string (bs x1421.Key), .bool x1421.Hidden, .int .i64 x1421.Flights, v1432] 62, .fz (.sl (Rp.int .i64) v1432 x1421.Events)]) ?_ ?_
    ·skip
     refine zD fun K1471 hK1471 => ?_
     refine zC ?_
     refine zA rfl rfl (fa62_3 rfl) ?_
     refine zA rfl rfl (zU one33 rfl (Cells.get (Blk.cells (H.item (i := 2) rfl)) (i := 3) rfl)) ?_
     refine zA rfl rfl (Do_eqlnl u33 (own_sl (H.item (i := 3) rfl)) rfl rfl (H.item (i := 4) rfl)) ?_
     refine (zI (zB (hK1471 _ _ ?_)))
     refine yF (b := g1148) rfl (fun c1475 => ?_) (fun c1475 => ?_)
     ·have hF := zW c1475 hF
      refine zC ?_
      refine zA rfl rfl (fa62_3 rfl) ?_
      refine zA rfl rfl (zU one33 rfl (Cells.get (Blk.cells (H.item (i := 7) rfl)) (i := 3) rfl)) ?_
      obtain ⟨x1476, e1477, hF⟩ := zH hF
      obtain ⟨a1478, c1479, q1480⟩ := SlF.len ((H.item (i := 6) rfl))
      refine zA rfl rfl (zT (xI u33 q1480) (congrArg (Value.int .i64) e1477)) ?_
      obtain ⟨x1481, e1482, hF⟩ := zJ hF
      refine xE rfl rfl (Lx_makeN (r := (Rp.int .i64)) (zv := .int .i64 0) u33 el3 rfl (fun _ _ => rfl) rfl rfl e1482 H) ?_
      rintro v1484 w1486 ⟨H, h1485⟩
      have H := H.fz (.nl v1484 false) h1485
      refine zA rfl rfl (fa62_3 rfl) ?_
      refine xO rfl (Lx_store1 H 2 rfl sz33 rfl (v := v1484) rfl (own_one (H.item (i := 8) rfl)) rfl) ?_
      rintro w1488 H
      have hR := Option.some.inj hF
      subst hR
      refine (zI (zB (And.intro ?_ ?_)))
      ·repeat' (first | with_reducible exact zN | refine zV rfl ?_ | refine zO rfl rfl ?_)
      exact ⟨v1484, zQ, H.pick [0, 1, 2, 8, 9, 7, 6] (by decide)⟩
     have hF := zX c1475 hF
     have hR := Option.some.inj hF
     subst hR
     refine (yA (zB (And.intro ?_ ?_)))
     ·repeat' (first | with_reducible exact zN | refine zV rfl ?_ | refine zO rfl rfl ?_)
     exact ⟨v1147, zQ, H.pick [0, 1, 2, 3, 4, 7, 6] (by decide)⟩
    rintro v1465 ρ w1468 H
    have hF := hK1469
    obtain ⟨g1464, g1466⟩ := j1470
    refine zD fun K1489 hK1489 => ?_
    refine zC ?_
    refine zA rfl rfl (fa62_2 rfl) ?_
    refine zA rfl rfl (zU one3 rfl (Cells.get (Blk.cells (H.item (i := 2) rfl)) (i := 2) rfl)) ?_
    refine zA rfl rfl (fa62_2 rfl) ?_
    refine zA rfl rfl (zU one3 rfl (Cells.get (Blk.cells (H.item (i := 5) rfl)) (i := 2) rfl)) ?_
    obtain ⟨x1490, e1491, hF⟩ := zH hF
    refine zA rfl rfl (xJ (a := g1144) (b := x1421.Flights) rfl rfl e1491) ?_
    refine zA rfl rfl (fa62_2 rfl) ?_
    refine xO rfl (Lx_store1 H 2 rfl sz3 rfl (v := .int .i64 x1490) rfl rfl rfl) ?_
    rintro w1492 H
    refine (zI (zB (hK1489 _ _ ?_)))
    refine zD fun K1493 hK1493 => ?_
    refine zC ?_
    refine zA rfl rfl (fa62_3 rfl) ?_
    refine zA rfl rfl (zU one33 rfl (Cells.get (Blk.cells (H.item (i := 5) rfl)) (i := 3) rfl)) ?_
    obtain ⟨x1494, e1495, hF⟩ := zH hF
    obtain ⟨a1496, c1497, q1498⟩ := SlF.len ((H.item (i := 6) rfl))
    refine zA rfl rfl (zT (xI u33 q1498) (congrArg (Value.int .i64) e1495)) ?_
    refine zA rfl rfl (zG (v := .int .i64 0) rfl) ?_
    refine (zI (zB (hK1493 _ _ ?_)))
    refine yK ?_
    unfold F_fleet_Total_L2 at hF
    obtain ⟨B1681, n1682, eB1683, hF⟩ := yT hF
    refine xC [8, 9, 41, 42, 43, 44, 45, 46, 47, 48, 49, 50, 51, 52, 53, 54] (fun (g : Nat × Int × (List Int)) => [(41, .int .i64 g.2.1)]) (fun g wl => Hd O w wl S [.fz (.sl rFleetRow v1 p0), .blk b5 [.string (bs []), .bool false, .int .i64 0, .slice none 0 0] 62, .blk b35 [.string (bs []), .bool false, .int .i64 x1490, v1465] 62, .own (Rp.int .i64) v1465 3 g.2.2, .fz (.nl v1465 g1466), .fz (.sl (Rp.int .i64) v1432 x1421.Events)] ∧ loopN B1681 g.1 (g.2.1, g.2.2) = some j1419) (fun g => g.1) (n1682, 0, g1464) (zK rfl zQ) ⟨H.pick [0, 1, 2, 3, 4, 6] (by decide), hF⟩ ?_
    clear H hF
    rintro ⟨n1682, g1679, g1680⟩ ρ w1685 ⟨H, hF⟩
    obtain ⟨n1686, rfl, hF⟩ := yX hF
    have hF := yY eB1683 hF
    refine zD fun K1687 hK1687 => ?_
    refine zC ?_
    obtain ⟨x1688, e1689, hF⟩ := zH hF
    refine zA rfl rfl (zT (xK (a := g1679) (b := x1494) rfl rfl) (congrArg Value.bool e1689)) ?_
    refine (zI (zB (hK1687 _ _ ?_)))
    refine zD fun K1691 hK1691 => ?_
    refine yF (b := x1688) rfl (fun c1692 => ?_) (fun c1692 => ?_)
    ·have hF := zW c1692 hF
     refine (yA (zB (hK1691 _ _ ?_)))
     refine zD fun K1733 hK1733 => ?_
     refine yK ?_
     refine zD fun K1734 hK1734 => ?_
     refine zC ?_
     refine zA rfl rfl (zG (v := .int .i64 g1679) rfl) ?_
     obtain ⟨x1735, e1736, hF⟩ := zJ hF
     obtain ⟨b1737, o1738, c1739, cs1740, q1741, h1744, h1742, h1743, h1745⟩ := wB (H.item (i := 5) rfl) e1736
     obtain rfl : cs1740 = [.int .i64 x1735] := h1744
     have H := H.fz (.at b1737 (o1738 + g1679.toNat * 1) _) ⟨h1742, h1743, h1745⟩
     refine zA rfl rfl (xG u33 sz3 q1741 rfl (yD e1736).1 (yD e1736).2.1 rfl rfl) ?_
     refine zA rfl rfl (zU one3 rfl (Cells.get (H.item (i := 6) rfl).2.2 (i := 0) rfl)) ?_
     refine zA rfl rfl (zF (v := .int .i64 g1679) rfl) ?_
     refine zA rfl rfl (zF (v := .int .i64 x1735) rfl) ?_
     refine (zI (zB (hK1734 _ _ ?_)))
     refine zC ?_
     refine zA rfl rfl (fa62_3 rfl) ?_
     refine zA rfl rfl (zU one33 rfl (Cells.get (Blk.cells (H.item (i := 2) rfl)) (i := 3) rfl)) ?_
     refine zA rfl rfl (zG (v := .int .i64 g1679) rfl) ?_
     obtain ⟨x1747, e1748, hF⟩ := zJ hF
     obtain ⟨b1749, c1751, cs1752, q1753, h1756, h1757⟩ := own_at (H.item (i := 3) rfl) e1748
     obtain rfl : cs1752 = [.int .i64 x1747] := h1756
     refine zA rfl rfl (xG u33 sz3 q1753 rfl (yD e1748).1 (yD e1748).2.1 rfl rfl) ?_
     refine zA rfl rfl (zU one3 rfl (Cells.get h1757 (i := 0) rfl)) ?_
     refine zA rfl rfl (zG (v := .int .i64 x1735) rfl) ?_
     obtain ⟨x1758, e1759, hF⟩ := zH hF
     refine zA rfl rfl (xJ (a := x1747) (b := x1735) rfl rfl e1759) ?_
     obtain ⟨x1760, e1761, hF⟩ := zJ hF
     obtain ⟨b1762, c1764, cs1765, q1766, h1769, h1770⟩ := own_at (H.item (i := 3) rfl) e1761
     obtain rfl : cs1765 = [.int .i64 x1760] := h1769
     refine zA rfl rfl (xG u33 sz3 q1766 rfl (yD e1761).1 (yD e1761).2.1 rfl rfl) ?_
     obtain ⟨x1771, e1772, hF⟩ := zJ hF
     refine xO rfl (Lx_own_store (vs := [.int .i64 x1758]) (off := 0) H 3 rfl q1766 h1770 rfl sz3 rfl rfl rfl (allone_mem ⟨rfl, trivial⟩) e1772 (by decide) rfl rfl) ?_
     rintro w1773 H
     refine (zI (yU (zB (hK1733 _ _ ?_))))
     refine zC ?_
     obtain ⟨x1774, e1775, hF⟩ := zH hF
     refine zA rfl rfl (xJ (a := g1679) (b := 1) rfl rfl e1775) ?_
     refine zA rfl rfl (zG (v := .int .i64 x1774) rfl) ?_
     refine (zI (zB (And.intro ?_ ?_)))
     ·repeat' (first | with_reducible exact zN | refine zV rfl ?_ | refine zO rfl rfl ?_)
     exact ⟨(n1686, x1774, x1771), (zK rfl zQ), ⟨H.pick [0, 1, 2, 3, 4, 5] (by decide), hF⟩, Nat.lt_succ_self _⟩
    have hF := zX c1692 hF
    have hR := Option.some.inj hF
    subst hR
    refine (xB (yN (yN (yR (yU (zB (And.intro ?_ ?_)))))))
    ·repeat' (first | with_reducible exact zN | refine zV rfl ?_ | refine zO rfl rfl ?_)
    exact ⟨v1465, zQ, H.pick [0, 1, 2, 3, 4] (by decide)⟩
   rintro v1414 ρ w1417 H
   have hF := hK1418
   obtain ⟨g1411, g1413, g1415⟩ := j1419
   refine zC ?_
   obtain ⟨x1776, e1777, hF⟩ := zH hF
   refine zA rfl rfl (xJ (a := g1143) (b := 1) rfl rfl e1777) ?_
   refine zA rfl rfl (zG (v := .int .i64 x1776) rfl) ?_
   refine (zI (zB (And.intro ?_ ?_)))
   ·repeat' (first | with_reducible exact zN | refine zV rfl ?_ | refine zO rfl rfl ?_)
   exact ⟨(n1157, x1776, g1411, g1413, g1415, v1414), (zK rfl zQ), ⟨H.pick [0, 1, 2, 3, 4] (by decide), hF⟩, Nat.lt_succ_self _⟩
  have hF := zX c1163 hF
  have hR := Option.some.inj hF
  subst hR
  refine (xB (yN (yN (yR (zB (And.intro ?_ ?_))))))
  ·repeat' (first | with_reducible exact zN | refine zV rfl ?_ | refine zO rfl rfl ?_)
  exact ⟨v1147, zQ, H.pick [1, 2, 3, 4] (by decide)⟩
 rintro v593 ρ w596 H
 have hF := hK597
 obtain ⟨g590, g592, g594⟩ := j598
 refine zD fun K1778 hK1778 => ?_
 refine zC ?_
 refine zA rfl rfl (zT (yV (cs := [.string (bs []), .bool false, .int .i64 g590, v593]) agg62 rfl sz62 rfl (Blk.cells (H.item (i := 1) rfl))) rfl) ?_
 refine xO rfl (xA (vs := [.string (bs []), .bool false, .int .i64 g590, v593]) H 0 rfl sz62 rfl rfl rfl ⟨rfl, rfl, rfl, (own_one (H.item (i := 2) rfl)), trivial⟩ rfl) ?_
 rintro w1779 H
 refine zA rfl rfl (zF (v := .int .i64 0) rfl) ?_
 refine (zI (zB (hK1778 _ _ ?_)))
 have H := H.freeze (i := 2) rfl
 have hR := Option.some.inj hF
 subst hR
 refine (yG (postc1 (v1 := .int .i64 0) rfl rfl (xH agg62 sz62 rfl (Blk.cells (H.item (i := 0) rfl))) rfl ?_))
 exact ⟨v593, rfl, H.pick [2] (by decide)⟩
end Go.Proofs.YtbjhondbheijiaaGreatDoor.L
namespace Go.Proofs.YtbjhondbheijiaaGreatDoor.L
open Go.RowKit Go.OB Go.Lf
/- orangebox/orangeboxlaw9.totals -/
set_option maxHeartbeats 4000000 in
theorem F_law9_totals_w (r : Bool) (hF : F_law9_totals = some r) (O S : List Nat) (w : World) (H : Hd O w w S []) :
  Calls Tryz.prog 9 ([] : List Value).toArray w fun e w' => e = .returned (.bool r) ∧ Hd O w w' S [] := by
 unfold F_law9_totals at hF
 refine yB 32 Tryz.func9 rfl rfl rfl ?_
 refine zD fun K1 hK1 => ?_
 refine zC ?_
 refine zA rfl rfl (zF (v := .bool false) rfl) ?_
 refine (zI (zB (hK1 _ _ ?_)))
 refine zD fun K2 hK2 => ?_
 refine zC ?_
 obtain ⟨x3, e4, hF⟩ := zH hF
 subst e4
 refine xE rfl rfl (Lx_bs (r := (Rp.int .i64)) (xl := [1]) (cs := [.int .i64 1]) u33 el3 (by decide) (by decide) rfl (xW (vs := [.int .i64 1]) (by decide) rfl rfl ⟨rfl, trivial⟩ rfl) H ⟨[.int .i64 1], [], rfl, rfl, rfl⟩) ?_
 rintro v6 w7 H
 obtain ⟨a8, c9, q10⟩ := Sr.len (Sr.of_own (H.item (i := 0) rfl))
 refine zA rfl rfl (Do_build (cs := [.string (bs [97]), .bool false, .int .i64 2, v6]) (by rw [q10]; exact bt62_0_2_3 _ _ a8 _ c9)) ?_
 obtain ⟨x11, e12, hF⟩ := zH hF
 subst e12
 refine xE rfl rfl (Lx_bs (r := (Rp.int .i64)) (xl := [4]) (cs := [.int .i64 4]) u33 el3 (by decide) (by decide) rfl (xW (vs := [.int .i64 4]) (by decide) rfl rfl ⟨rfl, trivial⟩ rfl) H ⟨[.int .i64 4], [], rfl, rfl, rfl⟩) ?_
 rintro v14 w15 H
 obtain ⟨a16, c17, q18⟩ := Sr.len (Sr.of_own (H.item (i := 1) rfl))
 refine zA rfl rfl (Do_build (cs := [.string (bs [98]), .bool false, .int .i64 3, v14]) (by rw [q18]; exact bt62_0_2_3 _ _ a16 _ c17)) ?_
 have H := H.freeze (i := 0) rfl
 have H := H.freeze (i := 1) rfl
 obtain ⟨x19, e20, hF⟩ := zH hF
 subst e20
 refine xE rfl rfl (Lx_bs (r := rFleetRow) (xl := [FleetRow.mk [97] false 2 ([1] : List Int), FleetRow.mk [98] false 3 ([4] : List Int)]) (cs := [.string (bs [97]), .bool false, .int .i64 2, v6, .string (bs [98]), .bool false, .int .i64 3, v14]) u65 el62 (by decide) (by decide) rfl (xW (vs := [.agg [.string (bs [97]), .bool false, .int .i64 2, v6].toArray, .agg [.string (bs [98]), .bool false, .int .i64 3, v14].toArray]) (by decide) rfl rfl ⟨rfl, rfl, trivial⟩ rfl) H ⟨[.string (bs [97]), .bool false, .int .i64 2, v6], [.string (bs [98]), .bool false, .int .i64 3, v14], rfl, (rFleetRow_mk (x := FleetRow.mk [97] false 2 ([1] : List Int)) (H.item (i := 0) rfl)), ⟨[.string (bs [98]), .bool false, .int .i64 3, v14], [], rfl, (rFleetRow_mk (x := FleetRow.mk [98] false 3 ([4] : List Int)) (H.item (i := 1) rfl)), rfl⟩⟩) ?_
 rintro v22 w23 H
 have H := H.freeze (i := 2) rfl
 obtain ⟨⟨x24, x25⟩, e26, hF⟩ := zJ hF
 refine yJ rfl rfl (yC en25 rfl) (F_fleet_Total_w ([FleetRow.mk [97] false 2 ([1] : List Int), FleetRow.mk [98] false 3 ([4] : List Int)] : List FleetRow) v22 _ e26 _ _ _ (H.enter [] [2] (by decide) rfl)) ?_
 rintro _ w29 ⟨v27, rfl, G30⟩
 have H := H.back1 [2] rfl G30
 refine ⟨_, rfl, ?_⟩
 refine zA rfl rfl (zG (v := .tuple #[.agg [.string (bs x24.Key), .bool x24.Hidden, .int .i64 x24.Flights, v27].toArray, .int .i64 x25]) rfl) ?_
 refine zA rfl rfl (yQ (v := .agg [.string (bs x24.Key), .bool x24.Hidden, .int .i64 x24.Flights, v27].toArray) rfl rfl) ?_
 refine zA rfl rfl (yQ (v := .int .i64 x25) rfl rfl) ?_
 refine xE rfl rfl (xR zero62 H) ?_
 rintro _ w33 ⟨b31, rfl, H⟩
 refine xO rfl (xA (vs := [.string (bs x24.Key), .bool x24.Hidden, .int .i64 x24.Flights, v27]) H 4 rfl sz62 rfl rfl rfl ⟨rfl, rfl, rfl, (slf_one (H.item (i := 3) rfl)), trivial⟩ rfl) ?_
 rintro w34 H
 refine zA rfl rfl (zF (v := .int .i64 x25) rfl) ?_
 refine (zI (zB (hK2 _ _ ?_)))
 obtain ⟨g63, hF, hK65⟩ := zJ hF
 refine yL [0, 12, 13, 14, 15, 16, 17, 18, 19, 20, 21, 22, 23, 24, 25, 26, 27, 28, 29, 30, 31] (fun (g : Unit) => [(0, .bool g63)]) (fun g wl => Hd O w wl S []) ?_ ?_
 ·skip
  refine zC ?_
  refine zA rfl rfl (zG (v := .int .i64 x25) rfl) ?_
  obtain ⟨x66, e67, hF⟩ := zH hF
  refine zA rfl rfl (zT (Do_eql (a := x25) (b := 0) rfl rfl) (congrArg Value.bool e67)) ?_
  refine yO (b := x66) rfl rfl rfl (fun c68 => ?_) (fun c68 => ?_)
  ·have hF := zW c68 hF
   refine zA rfl rfl (fa62_2 rfl) ?_
   refine zA rfl rfl (zU one3 rfl (Cells.get (Blk.cells (H.item (i := 4) rfl)) (i := 2) rfl)) ?_
   obtain ⟨x69, e70, hF⟩ := zH hF
   refine zA rfl rfl (zT (Do_eql (a := x24.Flights) (b := 5) rfl rfl) (congrArg Value.bool e70)) ?_
   refine zA rfl rfl (yI (v := .bool x69) rfl rfl) ?_
   refine yO (b := x69) rfl rfl rfl (fun c71 => ?_) (fun c71 => ?_)
   ·have hF := zW c71 hF
    refine zA rfl rfl (fa62_3 rfl) ?_
    refine zA rfl rfl (zU one33 rfl (Cells.get (Blk.cells (H.item (i := 4) rfl)) (i := 3) rfl)) ?_
    obtain ⟨x72, e73, hF⟩ := zH hF
    obtain ⟨a74, c75, q76⟩ := SlF.len ((H.item (i := 3) rfl))
    refine zA rfl rfl (zT (xI u33 q76) (congrArg (Value.int .i64) e73)) ?_
    obtain ⟨x77, e78, hF⟩ := zH hF
    refine zA rfl rfl (zT (Do_eql (a := x72) (b := 1) rfl rfl) (congrArg Value.bool e78)) ?_
    refine zA rfl rfl (yI (v := .bool x77) rfl rfl) ?_
    refine yO (b := x77) rfl rfl rfl (fun c79 => ?_) (fun c79 => ?_)
    ·have hF := zW c79 hF
     refine zA rfl rfl (fa62_3 rfl) ?_
     refine zA rfl rfl (zU one33 rfl (Cells.get (Blk.cells (H.item (i := 4) rfl)) (i := 3) rfl)) ?_
     obtain ⟨x80, e81, hF⟩ := zJ hF
     obtain ⟨b82, o83, c84, cs85, q86, h89, h87, h88, h90⟩ := wB (H.item (i := 3) rfl) e81
     obtain rfl : cs85 = [.int .i64 x80] := h89
     have H := H.fz (.at b82 (o83 + (0 : Int).toNat * 1) _) ⟨h87, h88, h90⟩
     refine zA rfl rfl (xG u33 sz3 q86 rfl (yD e81).1 (yD e81).2.1 rfl rfl) ?_
     refine zA rfl rfl (zU one3 rfl (Cells.get (H.item (i := 5) rfl).2.2 (i := 0) rfl)) ?_
     obtain ⟨x92, e93, hF⟩ := zH hF
     refine zA rfl rfl (zT (Do_eql (a := x80) (b := 5) rfl rfl) (congrArg Value.bool e93)) ?_
     refine zA rfl rfl (yI (v := .bool x92) rfl rfl) ?_
     refine zA rfl rfl (zF (v := .bool x92) rfl) ?_
     have hR := Option.some.inj hF
     subst hR
     refine (zI (zB (And.intro ?_ ?_)))
     ·repeat' (first | with_reducible exact zN | refine zV rfl ?_ | refine zO rfl rfl ?_)
     exact ⟨(), (zK rfl zQ), H.pick [] (by decide)⟩
    have hF := zX c79 hF
    refine zM rfl rfl ?_
    refine zM rfl rfl ?_
    refine zM rfl rfl ?_
    refine zM rfl rfl ?_
    refine zM rfl rfl ?_
    refine zA rfl rfl (yH (v := .bool false) rfl rfl) ?_
    refine zA rfl rfl (zF (v := .bool false) rfl) ?_
    have hR := Option.some.inj hF
    subst hR
    refine (zI (zB (And.intro ?_ ?_)))
    ·repeat' (first | with_reducible exact zN | refine zV rfl ?_ | refine zO rfl rfl ?_)
    exact ⟨(), (zK rfl zQ), H.pick [] (by decide)⟩
   have hF := zX c71 hF
   refine zM rfl rfl ?_
   refine zM rfl rfl ?_
   refine zM rfl rfl ?_
   refine zM rfl rfl ?_
   refine zA rfl rfl (yH (v := .bool false) rfl rfl) ?_
   refine zA rfl rfl (zG (v := .bool false) rfl) ?_
   refine zM rfl rfl ?_
   refine zM rfl rfl ?_
   refine zM rfl rfl ?_
   refine zM rfl rfl ?_
   refine zM rfl rfl ?_
   refine zA rfl rfl (yH (v := .bool false) rfl rfl) ?_
   refine zA rfl rfl (zF (v := .bool false) rfl) ?_
   have hR := Option.some.inj hF
   subst hR
   refine (zI (zB (And.intro ?_ ?_)))
   ·repeat' (first | with_reducible exact zN | refine zV rfl ?_ | refine zO rfl rfl ?_)
   exact ⟨(), (zK rfl zQ), H.pick [] (by decide)⟩
  have hF := zX c68 hF
  refine zM rfl rfl ?_
  refine zM rfl rfl ?_
  refine zM rfl rfl ?_
  refine zA rfl rfl (yH (v := .bool false) rfl rfl) ?_
  refine zA rfl rfl (zG (v := .bool false) rfl) ?_
  refine zM rfl rfl ?_
  refine zM rfl rfl ?_
  refine zM rfl rfl ?_
  refine zM rfl rfl ?_
  refine zA rfl rfl (yH (v := .bool false) rfl rfl) ?_
  refine zA rfl rfl (zG (v := .bool false) rfl) ?_
  refine zM rfl rfl ?_
  refine zM rfl rfl ?_
  refine zM rfl rfl ?_
  refine zM rfl rfl ?_
  refine zM rfl rfl ?_
  refine zA rfl rfl (yH (v := .bool false) rfl rfl) ?_
  refine zA rfl rfl (zF (v := .bool false) rfl) ?_
  have hR := Option.some.inj hF
  subst hR
  refine (zI (zB (And.intro ?_ ?_)))
  ·repeat' (first | with_reducible exact zN | refine zV rfl ?_ | refine zO rfl rfl ?_)
  exact ⟨(), (zK rfl zQ), H.pick [] (by decide)⟩
 rintro _ ρ w64 H
 have hF := hK65
 have hR := Option.some.inj hF
 subst hR
 refine (yG (post1 (v1 := .bool g63) rfl rfl ?_))
 exact ⟨rfl, H.pick [] (by decide)⟩
end Go.Proofs.YtbjhondbheijiaaGreatDoor.L
namespace Go.Proofs.YtbjhondbheijiaaGreatDoor.L
open Go.RowKit Go.OB Go.Lf
/- orangebox/orangeboxlaw9.FleetApartMatchesSpec -/
set_option maxHeartbeats 4000000 in
theorem F_law9_FleetApartMatchesSpec_w (p0 : List Flight) (p1 : List Flight) (p2 : Mask) (p3 : Str) (p4 : Int) (v1 : Value) (v3 : Value) (v5 : Value) (v6 : Value) (r : Bool) (hF : F_law9_FleetApartMatchesSpec p0 p1 p2 p3 p4 = some r) (O S : List Nat) (w : World) (H : Hd O w w S [.fz (.sl rFlight v1 p0), .fz (.sl rFlight v3 p1), .fz (.sl Rp.str v5 p2.Hide), .fz (.sl rGrain v6 p2.Grains), .fz (.at 2 0 ((Fl.arr 20 (Fl.int .u64)).f zY))]) :
  Calls Tryz.prog 3 ([v1, v3, .agg [.bool p2.Tails, .int .i64 p2.Days, v5, v6, .int .i64 p2.Least].toArray, .string (bs p3), .int .i64 p4] : List Value).toArray w fun e w' => e = .returned (.bool r) ∧ Hd O w w' S [] := by
 unfold F_law9_FleetApartMatchesSpec at hF
 refine yB 88 Tryz.func3 rfl rfl rfl ?_
 refine zD fun K10 hK10 => ?_
 refine zC ?_
 refine xE rfl rfl (Lx_box (cs := [.bool p2.Tails, .int .i64 p2.Days, v5, v6, .int .i64 p2.Least]) rfl H) ?_
 rintro _ w13 ⟨b11, rfl, H⟩
 refine zA rfl rfl (zF (v := .bool false) rfl) ?_
 refine (zI (zB (hK10 _ _ ?_)))
 refine zD fun K14 hK14 => ?_
 refine zC ?_
 refine zA rfl rfl (zG (v := v1) rfl) ?_
 refine zA rfl rfl (zG (v := v3) rfl) ?_
 refine zA rfl rfl (zT (yV (cs := [.bool p2.Tails, .int .i64 p2.Days, v5, v6, .int .i64 p2.Least]) agg26 rfl sz26 rfl (Blk.cells (H.item (i := 5) rfl))) rfl) ?_
 refine zA rfl rfl (zG (v := .string (bs p3)) rfl) ?_
 have H15 := H
 obtain ⟨⟨x16, x17⟩, e18, hF⟩ := zJ hF
 refine yJ rfl rfl (yC en4 rfl) (F_fleet_Apart_w p0 p1 p2 p3 v1 v3 v5 v6 _ e18 _ _ _ (H.enter [] [0, 1, 2, 3] (by decide) rfl)) ?_
 rintro _ w19 ⟨rfl, G20⟩
 have H := H15.step (G20.only : Only [] _ _)
 refine ⟨_, rfl, ?_⟩
 refine zA rfl rfl (zG (v := .tuple #[.agg [.int .i64 x16.Num, .int .i64 x16.Den].toArray, .int .i64 x17]) rfl) ?_
 refine zA rfl rfl (yQ (v := .agg [.int .i64 x16.Num, .int .i64 x16.Den].toArray) rfl rfl) ?_
 refine zA rfl rfl (yQ (v := .int .i64 x17) rfl rfl) ?_
 refine xE rfl rfl (xR zero28 H) ?_
 rintro _ w23 ⟨b21, rfl, H⟩
 refine xO rfl (xA (vs := [.int .i64 x16.Num, .int .i64 x16.Den]) H 6 rfl sz28 rfl rfl rfl ⟨rfl, rfl, trivial⟩ rfl) ?_
 rintro w24 H
 refine zA rfl rfl (zF (v := .int .i64 x17) rfl) ?_
 refine (zI (zB (hK14 _ _ ?_)))
 refine zD fun K25 hK25 => ?_
 refine zC ?_
 refine zA rfl rfl (zG (v := v1) rfl) ?_
 refine zA rfl rfl (zG (v := v3) rfl) ?_
 refine zA rfl rfl (zT (yV (cs := [.bool p2.Tails, .int .i64 p2.Days, v5, v6, .int .i64 p2.Least]) agg26 rfl sz26 rfl (Blk.cells (H.item (i := 5) rfl))) rfl) ?_
 refine zA rfl rfl (zG (v := .string (bs p3)) rfl) ?_
 have H26 := H
 obtain ⟨⟨x27, x28⟩, e29, hF⟩ := zJ hF
 refine yJ rfl rfl (yC en5 rfl) (F_ref9_Apart_w p0 p1 p2 p3 v1 v3 v5 v6 _ e29 _ _ _ (H.enter [] [0, 1, 2, 3] (by decide) rfl)) ?_
 rintro _ w30 ⟨rfl, G31⟩
 have H := H26.step (G31.only : Only [] _ _)
 refine ⟨_, rfl, ?_⟩
 refine zA rfl rfl (zG (v := .tuple #[.agg [.int .i64 x27.Num, .int .i64 x27.Den].toArray, .int .i64 x28]) rfl) ?_
 refine zA rfl rfl (yQ (v := .agg [.int .i64 x27.Num, .int .i64 x27.Den].toArray) rfl rfl) ?_
 refine zA rfl rfl (yQ (v := .int .i64 x28) rfl rfl) ?_
 refine xE rfl rfl (xR zero28 H) ?_
 rintro _ w34 ⟨b32, rfl, H⟩
 refine xO rfl (xA (vs := [.int .i64 x27.Num, .int .i64 x27.Den]) H 7 rfl sz28 rfl rfl rfl ⟨rfl, rfl, trivial⟩ rfl) ?_
 rintro w35 H
 refine zA rfl rfl (zF (v := .int .i64 x28) rfl) ?_
 refine (zI (zB (hK25 _ _ ?_)))
 refine zD fun K46 hK46 => ?_
 obtain ⟨g52, hF, hK54⟩ := zJ hF
 refine yL [33, 34, 35, 36, 37, 38, 39, 40] (fun (g : Unit) => [(40, .bool g52)]) (fun g wl => Hd O w wl S [.fz (.sl rFlight v1 p0), .fz (.sl rFlight v3 p1), .fz (.at 2 0 ((Fl.arr 20 (Fl.int .u64)).f zY)), .blk b11 [.bool p2.Tails, .int .i64 p2.Days, v5, v6, .int .i64 p2.Least] 26, .fz (.sl Rp.str v5 p2.Hide), .fz (.sl rGrain v6 p2.Grains), .blk b21 [.int .i64 x16.Num, .int .i64 x16.Den] 28]) ?_ ?_
 ·skip
  refine zC ?_
  refine zA rfl rfl (zT (yV (cs := [.int .i64 x16.Num, .int .i64 x16.Den]) agg28 rfl sz28 rfl (Blk.cells (H.item (i := 6) rfl))) rfl) ?_
  refine zA rfl rfl (zT (yV (cs := [.int .i64 x27.Num, .int .i64 x27.Den]) agg28 rfl sz28 rfl (Blk.cells (H.item (i := 7) rfl))) rfl) ?_
  obtain ⟨x55, e56, hF⟩ := zH hF
  refine zA rfl rfl (zT (Do_neqF (e := flRatio) (a := x16) (b := x27) (by kernel_rfl) eqf28 (by decide) agg28 sz28 rfl rfl) (congrArg Value.bool e56)) ?_
  refine yO (b := x55) rfl rfl rfl (fun c57 => ?_) (fun c57 => ?_)
  ·have hF := zW c57 hF
   refine zM rfl rfl ?_
   refine zM rfl rfl ?_
   refine zM rfl rfl ?_
   refine zA rfl rfl (yI (v := .bool true) rfl rfl) ?_
   have hR := Option.some.inj hF
   subst hR
   refine (zI (zB (And.intro ?_ ?_)))
   ·repeat' (first | with_reducible exact zN | refine zV rfl ?_ | refine zO rfl rfl ?_)
   exact ⟨(), (zK rfl zQ), H.pick [0, 1, 4, 5, 2, 3, 6] (by decide)⟩
  have hF := zX c57 hF
  refine zA rfl rfl (zG (v := .int .i64 x17) rfl) ?_
  refine zA rfl rfl (zG (v := .int .i64 x28) rfl) ?_
  obtain ⟨x58, e59, hF⟩ := zH hF
  refine zA rfl rfl (zT (Do_neq (a := x17) (b := x28) rfl rfl) (congrArg Value.bool e59)) ?_
  refine zA rfl rfl (yH (v := .bool x58) rfl rfl) ?_
  have hR := Option.some.inj hF
  subst hR
  refine (zI (zB (And.intro ?_ ?_)))
  ·repeat' (first | with_reducible exact zN | refine zV rfl ?_ | refine zO rfl rfl ?_)
  exact ⟨(), (zK rfl zQ), H.pick [0, 1, 4, 5, 2, 3, 6] (by decide)⟩
 rintro _ ρ w53 H
 have hF := hK54
 refine yF (b := g52) rfl (fun c60 => ?_) (fun c60 => ?_)
 ·have hF := zW c60 hF
  refine zD fun K61 hK61 => ?_
  refine zC ?_
  refine zA rfl rfl (zF (v := .bool false) rfl) ?_
  refine (zI (zB (hK61 _ _ ?_)))
  have hR := Option.some.inj hF
  subst hR
  refine (yG (zZ (post1 (v1 := .bool false) rfl rfl ?_)))
  exact ⟨rfl, H.pick [] (by decide)⟩
 have hF := zX c60 hF
 refine (yA (zB (hK46 _ _ ?_)))
 obtain ⟨k93, ek94, hF⟩ := xU hF
 refine yL [10, 15, 16, 41, 42, 43, 44, 45, 46, 47, 48, 49, 50, 51, 52, 53, 54, 55, 56, 57, 58, 59, 60, 61, 62, 63, 64, 65, 66, 67] (fun (g : Unit) => []) (fun g wl => Hd O w wl S [.fz (.sl rFlight v1 p0), .fz (.at 2 0 ((Fl.arr 20 (Fl.int .u64)).f zY)), .blk b11 [.bool p2.Tails, .int .i64 p2.Days, v5, v6, .int .i64 p2.Least] 26, .fz (.sl Rp.str v5 p2.Hide), .fz (.sl rGrain v6 p2.Grains)] ∧ k93 () = some r) ?_ ?_
 ·skip
  refine zD fun K95 hK95 => ?_
  refine zC ?_
  refine zA rfl rfl (zG (v := .int .i64 x17) rfl) ?_
  obtain ⟨x96, e97, hF⟩ := zH hF
  refine zA rfl rfl (zT (Do_eql (a := x17) (b := 0) rfl rfl) (congrArg Value.bool e97)) ?_
  refine (zI (zB (hK95 _ _ ?_)))
  refine yF (b := x96) rfl (fun c98 => ?_) (fun c98 => ?_)
  ·have hF := zW c98 hF
   refine zD fun K99 hK99 => ?_
   refine zC ?_
   refine zA rfl rfl (zG (v := v3) rfl) ?_
   refine zA rfl rfl (zG (v := v1) rfl) ?_
   refine zA rfl rfl (zT (yV (cs := [.bool p2.Tails, .int .i64 p2.Days, v5, v6, .int .i64 p2.Least]) agg26 rfl sz26 rfl (Blk.cells (H.item (i := 3) rfl))) rfl) ?_
   refine zA rfl rfl (zG (v := .string (bs p3)) rfl) ?_
   have H100 := H
   obtain ⟨⟨x101, x102⟩, e103, hF⟩ := zJ hF
   refine yJ rfl rfl (yC en4 rfl) (F_fleet_Apart_w p1 p0 p2 p3 v3 v1 v5 v6 _ e103 _ _ _ (H.enter [] [1, 0, 4, 5] (by decide) rfl)) ?_
   rintro _ w104 ⟨rfl, G105⟩
   have H := H100.step (G105.only : Only [] _ _)
   refine ⟨_, rfl, ?_⟩
   refine zA rfl rfl (zG (v := .tuple #[.agg [.int .i64 x101.Num, .int .i64 x101.Den].toArray, .int .i64 x102]) rfl) ?_
   refine zA rfl rfl (yQ (v := .agg [.int .i64 x101.Num, .int .i64 x101.Den].toArray) rfl rfl) ?_
   refine zA rfl rfl (yQ (v := .int .i64 x102) rfl rfl) ?_
   refine xE rfl rfl (xR zero28 H) ?_
   rintro _ w108 ⟨b106, rfl, H⟩
   refine xO rfl (xA (vs := [.int .i64 x101.Num, .int .i64 x101.Den]) H 7 rfl sz28 rfl rfl rfl ⟨rfl, rfl, trivial⟩ rfl) ?_
   rintro w109 H
   refine zA rfl rfl (zF (v := .int .i64 x102) rfl) ?_
   refine (zI (zB (hK99 _ _ ?_)))
   obtain ⟨g120, hF, hK122⟩ := zJ hF
   refine yL [51, 52, 53, 54, 55, 56, 57, 58, 59, 60, 61, 62, 63, 64, 65, 66, 67] (fun (g : Unit) => [(67, .bool g120)]) (fun g wl => Hd O w wl S [.fz (.sl rFlight v1 p0), .fz (.at 2 0 ((Fl.arr 20 (Fl.int .u64)).f zY)), .blk b11 [.bool p2.Tails, .int .i64 p2.Days, v5, v6, .int .i64 p2.Least] 26, .fz (.sl Rp.str v5 p2.Hide), .fz (.sl rGrain v6 p2.Grains)]) ?_ ?_
   ·skip
    refine zC ?_
    refine zA rfl rfl (zG (v := .int .i64 x102) rfl) ?_
    obtain ⟨x123, e124, hF⟩ := zH hF
    refine zA rfl rfl (zT (Do_neq (a := x102) (b := 0) rfl rfl) (congrArg Value.bool e124)) ?_
    refine yO (b := x123) rfl rfl rfl (fun c125 => ?_) (fun c125 => ?_)
    ·have hF := zW c125 hF
     refine zM rfl rfl ?_
     refine zM rfl rfl ?_
     refine zM rfl rfl ?_
     refine zM rfl rfl ?_
     refine zM rfl rfl ?_
     refine zM rfl rfl ?_
     refine zA rfl rfl (yI (v := .bool true) rfl rfl) ?_
     refine zA rfl rfl (zG (v := .bool true) rfl) ?_
     refine zM rfl rfl ?_
     refine zM rfl rfl ?_
     refine zM rfl rfl ?_
     refine zM rfl rfl ?_
     refine zM rfl rfl ?_
     refine zA rfl rfl (yI (v := .bool true) rfl rfl) ?_
     have hR := Option.some.inj hF
     subst hR
     refine (zI (zB (And.intro ?_ ?_)))
     ·repeat' (first | with_reducible exact zN | refine zV rfl ?_ | refine zO rfl rfl ?_)
     exact ⟨(), (zK rfl zQ), H.pick [0, 2, 3, 4, 5] (by decide)⟩
    have hF := zX c125 hF
    refine zA rfl rfl (fa28_0 rfl) ?_
    refine zA rfl rfl (zU one3 rfl (Cells.get (Blk.cells (H.item (i := 7) rfl)) (i := 0) rfl)) ?_
    refine zA rfl rfl (fa28_0 rfl) ?_
    refine zA rfl rfl (zU one3 rfl (Cells.get (Blk.cells (H.item (i := 6) rfl)) (i := 0) rfl)) ?_
    obtain ⟨x126, e127, hF⟩ := zH hF
    refine zA rfl rfl (Do_neg (a := x16.Num) rfl e127) ?_
    obtain ⟨x128, e129, hF⟩ := zH hF
    refine zA rfl rfl (zT (Do_neq (a := x101.Num) (b := x126) rfl rfl) (congrArg Value.bool e129)) ?_
    refine zA rfl rfl (yH (v := .bool x128) rfl rfl) ?_
    refine yO (b := x128) rfl rfl rfl (fun c130 => ?_) (fun c130 => ?_)
    ·have hF := zW c130 hF
     refine zM rfl rfl ?_
     refine zM rfl rfl ?_
     refine zM rfl rfl ?_
     refine zM rfl rfl ?_
     refine zM rfl rfl ?_
     refine zA rfl rfl (yI (v := .bool true) rfl rfl) ?_
     have hR := Option.some.inj hF
     subst hR
     refine (zI (zB (And.intro ?_ ?_)))
     ·repeat' (first | with_reducible exact zN | refine zV rfl ?_ | refine zO rfl rfl ?_)
     exact ⟨(), (zK rfl zQ), H.pick [0, 2, 3, 4, 5] (by decide)⟩
    have hF := zX c130 hF
    refine zA rfl rfl (fa28_1 rfl) ?_
    refine zA rfl rfl (zU one3 rfl (Cells.get (Blk.cells (H.item (i := 7) rfl)) (i := 1) rfl)) ?_
    refine zA rfl rfl (fa28_1 rfl) ?_
    refine zA rfl rfl (zU one3 rfl (Cells.get (Blk.cells (H.item (i := 6) rfl)) (i := 1) rfl)) ?_
    obtain ⟨x131, e132, hF⟩ := zH hF
    refine zA rfl rfl (zT (Do_neq (a := x101.Den) (b := x16.Den) rfl rfl) (congrArg Value.bool e132)) ?_
    refine zA rfl rfl (yH (v := .bool x131) rfl rfl) ?_
    have hR := Option.some.inj hF
    subst hR
    refine (zI (zB (And.intro ?_ ?_)))
    ·repeat' (first | with_reducible exact zN | refine zV rfl ?_ | refine zO rfl rfl ?_)
    exact ⟨(), (zK rfl zQ), H.pick [0, 2, 3, 4, 5] (by decide)⟩
   rintro _ ρ w121 H
   have hF := hK122
   refine yF (b := g120) rfl (fun c133 => ?_) (fun c133 => ?_)
   ·have hF := zW c133 hF
    refine zD fun K134 hK134 => ?_
    refine zC ?_
    refine zA rfl rfl (zF (v := .bool false) rfl) ?_
    refine (zI (zB (hK134 _ _ ?_)))
    have hR := Option.some.inj hF
    subst hR
    refine (yG (zZ (post1 (v1 := .bool false) rfl rfl ?_)))
    exact ⟨rfl, H.pick [] (by decide)⟩
   have hF := zX c133 hF
   refine (yA (zB (And.intro ?_ ?_)))
   ·repeat' (first | with_reducible exact zN | refine zV rfl ?_ | refine zO rfl rfl ?_)
   exact ⟨(), zQ, ⟨H.pick [0, 1, 2, 3, 4] (by decide), hF⟩⟩
  have hF := zX c98 hF
  refine (yA (zB (And.intro ?_ ?_)))
  ·repeat' (first | with_reducible exact zN | refine zV rfl ?_ | refine zO rfl rfl ?_)
  exact ⟨(), zQ, ⟨H.pick [0, 2, 3, 4, 5] (by decide), hF⟩⟩
 rintro _ ρ w92 ⟨H, hF⟩
 have hF := xZ ek94 hF
 obtain ⟨g165, hF, hK167⟩ := zJ hF
 refine yL [10, 68, 69, 70, 71, 72, 73, 74, 75, 76, 77, 78, 79, 80, 81, 82, 83, 84, 85, 86, 87] (fun (g : Unit) => [(10, .bool g165)]) (fun g wl => Hd O w wl S [.fz (.at 2 0 ((Fl.arr 20 (Fl.int .u64)).f zY))]) ?_ ?_
 ·skip
  have H168 := H
  have H := H.rebase
  have H169 := H
  refine WP_mix H [0, 1, 2, 3, 8, 9, 10, 11, 4, 5, 6, 7, 12, 13, 14, 15, 16, 17, 18, 19, 20] [.pure, .read, .pure, .pure, .new, .pure, .pure, .read, .pure, .read, .pure, .pure, .new, .pure, .pure, .read, .pure, .pure, .fcall, .pure, .pure] mixed (by kernel_rfl) (by kernel_rfl) (by kernel_rfl) (by decide) ?_
  refine Mx.zS rfl rfl rfl (fun w' hw' => zG (v := v1) rfl) ?_
  refine Mx.xM oS rfl rfl rfl (fun w' hw' => zT (yV (cs := [.bool p2.Tails, .int .i64 p2.Days, v5, v6, .int .i64 p2.Least]) agg26 rfl sz26 rfl (Blk.cells ((H.sees hw').item (i := 2) rfl))) rfl) ?_
  refine Mx.zS rfl rfl rfl (fun w' hw' => zG (v := .string (bs p3)) rfl) ?_
  refine Mx.zS rfl rfl rfl (fun w' hw' => zG (v := .int .i64 p4) rfl) ?_
  refine Mx.zS rfl rfl rfl (fun w' hw' => zG (v := v1) rfl) ?_
  refine Mx.xM oS rfl rfl rfl (fun w' hw' => zT (yV (cs := [.bool p2.Tails, .int .i64 p2.Days, v5, v6, .int .i64 p2.Least]) agg26 rfl sz26 rfl (Blk.cells ((H.sees hw').item (i := 2) rfl))) rfl) ?_
  refine Mx.zS rfl rfl rfl (fun w' hw' => zG (v := .string (bs p3)) rfl) ?_
  refine Mx.zS rfl rfl rfl (fun w' hw' => zG (v := .int .i64 p4) rfl) ?_
  obtain ⟨⟨x170, x171⟩, e172, hF⟩ := zJ hF
  refine Mx.XL_newC oS rfl rfl rfl (fun w' hw' => yC en7 rfl) (fun w' hw' => F_fleet_Odd_w p0 p2 p3 p4 v1 v5 v6 _ e172 _ _ _ ((H.sees hw').enter [] [0, 3, 4] (by decide) rfl)) ?_
  rintro w' _ w175 hw' ⟨v173, rfl, G176⟩
  have H := (H.sees hw').back1 [0, 3, 4] rfl G176
  refine ⟨_, rfl, (G176.only : Only [] _ _).below, ?_⟩
  refine Mx.zS rfl rfl rfl (fun w' hw' => yQ (v := v173) rfl rfl) ?_
  refine Mx.zS rfl rfl rfl (fun w' hw' => yQ (v := .int .i64 x171) rfl rfl) ?_
  have H177 := H
  have H := H.freeze (i := 5) rfl
  obtain ⟨x178, e179, hF⟩ := zJ hF
  refine Mx.XL_call oS rfl rfl rfl (v := .string (bs x178)) (fun w' hw' => yC en6 rfl) (fun w' hw' => call_read (F_law9_ints_w x170 x171 v173 _ e179 _ _ _ ((H.sees hw').enter [] [5, 1] (by decide) rfl))) ?_
  have H := H177
  obtain ⟨⟨x180, x181⟩, e182, hF⟩ := zJ hF
  refine Mx.XL_newC oS rfl rfl rfl (fun w' hw' => yC en8 rfl) (fun w' hw' => F_ref9_Odd_w p0 p2 p3 p4 v1 v5 v6 _ e182 _ _ _ ((H.sees hw').enter [] [0, 3, 4] (by decide) rfl)) ?_
  rintro w' _ w185 hw' ⟨v183, rfl, G186⟩
  have H := (H.sees hw').back1 [0, 3, 4] rfl G186
  refine ⟨_, rfl, (G186.only : Only [] _ _).below, ?_⟩
  refine Mx.zS rfl rfl rfl (fun w' hw' => yQ (v := v183) rfl rfl) ?_
  refine Mx.zS rfl rfl rfl (fun w' hw' => yQ (v := .int .i64 x181) rfl rfl) ?_
  have H187 := H
  have H := H.freeze (i := 6) rfl
  obtain ⟨x188, e189, hF⟩ := zJ hF
  refine Mx.XL_call oS rfl rfl rfl (v := .string (bs x188)) (fun w' hw' => yC en6 rfl) (fun w' hw' => call_read (F_law9_ints_w x180 x181 v183 _ e189 _ _ _ ((H.sees hw').enter [] [6, 1] (by decide) rfl))) ?_
  have H := H187
  obtain ⟨x190, e191, hF⟩ := zH hF
  refine Mx.zS rfl rfl rfl (fun w' hw' => zT (Do_eqls (s1 := x178) (s2 := x188) rfl rfl) (congrArg Value.bool e191)) ?_
  refine Mx.XL_splitb (b := x190) rfl rfl rfl rfl (fun c192 => ?_) (fun c192 => ?_)
  ·have hF := zW c192 hF
   have H193 := H
   obtain ⟨x194, e195, hF⟩ := zJ hF
   refine Mx.XL_fcall oS rfl rfl rfl (v := .bool x194) (fun w' hw' => yC en9 rfl) (fun w' hw' => call_read (F_law9_totals_w _ e195 _ _ _ (Hd.fresh0 w'))) ?_
   have H := H193
   refine Mx.zS rfl rfl rfl (fun w' hw' => yI (v := .bool x194) rfl rfl) ?_
   refine Mx.zS rfl rfl rfl (fun w' hw' => zF (v := .bool x194) rfl) ?_
   refine Mx.wG fun w196 hS => ?_
   have H := H.sees hS
   have H := H168.rejoin H
   have hR := Option.some.inj hF
   subst hR
   refine (zB (And.intro ?_ ?_))
   ·repeat' (first | with_reducible exact zN | refine zV rfl ?_ | refine zO rfl rfl ?_)
   exact ⟨(), (zK rfl zQ), H.pick [1] (by decide)⟩
  have hF := zX c192 hF
  refine Mx.XL_offf oS rfl rfl rfl ?_
  refine Mx.zS rfl rfl rfl (fun w' hw' => yH (v := .bool false) rfl rfl) ?_
  refine Mx.zS rfl rfl rfl (fun w' hw' => zF (v := .bool false) rfl) ?_
  refine Mx.wG fun w197 hS => ?_
  have H := H.sees hS
  have H := H168.rejoin H
  have hR := Option.some.inj hF
  subst hR
  refine (zB (And.intro ?_ ?_))
  ·repeat' (first | with_reducible exact zN | refine zV rfl ?_ | refine zO rfl rfl ?_)
  exact ⟨(), (zK rfl zQ), H.pick [1] (by decide)⟩
 rintro _ ρ w166 H
 have hF := hK167
 have hR := Option.some.inj hF
 subst hR
 refine (yG (post1 (v1 := .bool g165) rfl rfl ?_))
 exact ⟨rfl, H.pick [] (by decide)⟩
end Go.Proofs.YtbjhondbheijiaaGreatDoor.L
