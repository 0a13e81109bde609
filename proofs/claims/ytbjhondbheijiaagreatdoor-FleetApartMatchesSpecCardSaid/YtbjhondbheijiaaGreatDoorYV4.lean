/- Walks: what each function computes, for every argument; no condition but those that stand in the statements. -/
import Derived.Test.YtbjhondbheijiaaGreatDoorYV0
import Derived.Test.YtbjhondbheijiaaGreatDoorYV3
namespace Go.Proofs.YtbjhondbheijiaaGreatDoor.L
open Go.RowKit Go.OB Go.Lf
/- orangebox/fleet.Apart -/
set_option maxHeartbeats 4000000 in
theorem F_fleet_Apart_w (p0 : List Flight) (p1 : List Flight) (p2 : Mask) (p3 : Str) (v1 : Value) (v3 : Value) (v5 : Value) (v6 : Value) (r : Ratio × Int) (hF : F_fleet_Apart p0 p1 p2 p3 = some r) (O S : List Nat) (w : World) (H : Hd O w w S [.fz (.sl rFlight v1 p0), .fz (.sl rFlight v3 p1), .fz (.sl Rp.str v5 p2.Hide), .fz (.sl rGrain v6 p2.Grains)]) :
  Calls Tryz.prog 4 ([v1, v3, .agg [.bool p2.Tails, .int .i64 p2.Days, v5, v6, .int .i64 p2.Least].toArray, .string (bs p3)] : List Value).toArray w fun e w' => e = .returned (.tuple #[.agg [.int .i64 r.1.Num, .int .i64 r.1.Den].toArray, .int .i64 r.2]) ∧ Hd O w w' S [] := by
 unfold F_fleet_Apart at hF
 refine yB 80 Tryz.func4 rfl rfl rfl ?_
 refine zD fun K9 hK9 => ?_
 refine zC ?_
 refine xE rfl rfl (Lx_box (cs := [.bool p2.Tails, .int .i64 p2.Days, v5, v6, .int .i64 p2.Least]) rfl H) ?_
 rintro _ w12 ⟨b10, rfl, H⟩
 refine xE rfl rfl (xR zero28 H) ?_
 rintro _ w15 ⟨b13, rfl, H⟩
 refine zA rfl rfl (zF (v := .int .i64 0) rfl) ?_
 refine (zI (zB (hK9 _ _ ?_)))
 refine zD fun K16 hK16 => ?_
 refine zC ?_
 refine zA rfl rfl (zG (v := v1) rfl) ?_
 refine zA rfl rfl (zG (v := v3) rfl) ?_
 obtain ⟨x17, e18, hF⟩ := zH hF
 subst e18
 refine xE rfl rfl (Lx_bs (r := (Rp.sl rFlight)) (xl := [p0, p1]) (cs := [v1, v3]) u41 el22 (by decide) (by decide) rfl (fillB_ones rfl rfl ⟨(slf_one (H.item (i := 0) rfl)), (slf_one (H.item (i := 1) rfl)), trivial⟩) H ⟨[v1], [v3], rfl, ⟨_, rfl, (H.item (i := 0) rfl)⟩, ⟨[v3], [], rfl, ⟨_, rfl, (H.item (i := 1) rfl)⟩, rfl⟩⟩) ?_
 rintro v20 w21 H
 refine zA rfl rfl (zT (yV (cs := [.bool p2.Tails, .int .i64 p2.Days, v5, v6, .int .i64 p2.Least]) agg26 rfl sz26 rfl (Blk.cells (H.item (i := 4) rfl))) rfl) ?_
 refine zA rfl rfl (zG (v := .string (bs p3)) rfl) ?_
 have H := H.freeze (i := 6) rfl
 obtain ⟨⟨x22, x23⟩, e24, hF⟩ := zJ hF
 refine yJ rfl rfl (yC en10 rfl) (F_fleet_peaksOf_w ([p0, p1] : List (List Flight)) p2 p3 v20 v5 v6 _ e24 _ _ _ (H.enter [] [6, 2, 3] (by decide) rfl)) ?_
 rintro _ w27 ⟨v25, rfl, G28⟩
 have H := H.back1 [6, 2, 3] rfl G28
 refine ⟨_, rfl, ?_⟩
 refine zA rfl rfl (zG (v := .tuple #[v25, .int .i64 x23]) rfl) ?_
 refine zA rfl rfl (yQ (v := v25) rfl rfl) ?_
 refine zA rfl rfl (yQ (v := .int .i64 x23) rfl rfl) ?_
 refine zA rfl rfl (zF (v := v25) rfl) ?_
 refine zA rfl rfl (zF (v := .int .i64 x23) rfl) ?_
 refine (zI (zB (hK16 _ _ ?_)))
 refine zD fun K35 hK35 => ?_
 refine zD fun K36 hK36 => ?_
 refine zC ?_
 refine zA rfl rfl (zG (v := .int .i64 x23) rfl) ?_
 obtain ⟨x37, e38, hF⟩ := zH hF
 refine zA rfl rfl (zT (Do_neq (a := x23) (b := 0) rfl rfl) (congrArg Value.bool e38)) ?_
 refine (zI (zB (hK36 _ _ ?_)))
 refine yF (b := x37) rfl (fun c39 => ?_) (fun c39 => ?_)
 ·have hF := zW c39 hF
  refine zD fun K40 hK40 => ?_
  refine zC ?_
  refine zA rfl rfl (Do_build (cs := [.int .i64 0, .int .i64 0]) bz28) ?_
  refine zA rfl rfl (zG (v := .int .i64 x23) rfl) ?_
  refine xO rfl (xA (vs := [.int .i64 0, .int .i64 0]) H 5 rfl sz28 rfl rfl rfl ⟨rfl, rfl, trivial⟩ rfl) ?_
  rintro w41 H
  refine zA rfl rfl (zF (v := .int .i64 x23) rfl) ?_
  refine (zI (zB (hK40 _ _ ?_)))
  have hR := Option.some.inj hF
  subst hR
  refine (yG (zZ (postc1 (v1 := .int .i64 x23) rfl rfl (xH agg28 sz28 rfl (Blk.cells (H.item (i := 5) rfl))) rfl ?_)))
  exact ⟨rfl, H.pick [] (by decide)⟩
 have hF := zX c39 hF
 refine (yA (zB (hK35 _ _ ?_)))
 refine zD fun K42 hK42 => ?_
 have H43 := H
 have H := H.rebase
 have H44 := H
 refine WP_mix0 H [0, 1, 2, 3, 4, 5, 6, 7, 8, 9, 10, 11] [.pure, .pure, .pure, .read, .read, .pure, .pure, .pure, .read, .pure, .pure, .pure] mixed (by kernel_rfl) (by kernel_rfl) (by kernel_rfl) rfl ?_
 refine Mx.zS rfl rfl rfl (fun w' hw' => zG (v := v25) rfl) ?_
 obtain ⟨x45, e46, hF⟩ := zJ hF
 obtain ⟨b47, o48, c49, cs50, q51, h54, h52, h53, h55⟩ := wB (H.item (i := 7) rfl) e46
 obtain ⟨v56, v57, rfl, h58, h59⟩ := rFleetPeaks_open h54
 have H := H.fzs [.at b47 (o48 + (0 : Int).toNat * 3) _, .sl (Rp.int .i64) v56 x45.l, .sl (Rp.int .i64) v57 x45.flights] ⟨⟨h52, h53, h55⟩, h58, h59, trivial⟩
 refine Mx.zS rfl rfl rfl (fun w' hw' => xG u38 sz44 q51 rfl (yD e46).1 (yD e46).2.1 rfl rfl) ?_
 refine Mx.zS rfl rfl rfl (fun w' hw' => fa44_0 rfl) ?_
 refine Mx.xM oS rfl rfl rfl (fun w' hw' => zU one33 rfl (Cells.get ((H.sees hw').item (i := 8) rfl).2.2 (i := 0) rfl)) ?_
 have H63 := H
 obtain ⟨x64, e65, hF⟩ := zJ hF
 refine Mx.XL_call oS rfl rfl rfl (v := .int .i64 x64) (fun w' hw' => yC en11 rfl) (fun w' hw' => call_read (F_fleet_sum_w x45.l v56 _ e65 _ _ _ ((H.sees hw').enter [] [9] (by decide) rfl))) ?_
 have H := H63
 refine Mx.zS rfl rfl rfl (fun w' hw' => zG (v := v25) rfl) ?_
 obtain ⟨x66, e67, hF⟩ := zJ hF
 obtain ⟨b68, o69, c70, cs71, q72, h75, h73, h74, h76⟩ := wB (H.item (i := 7) rfl) e67
 obtain ⟨v77, v78, rfl, h79, h80⟩ := rFleetPeaks_open h75
 have H := H.fzs [.at b68 (o69 + (0 : Int).toNat * 3) _, .sl (Rp.int .i64) v77 x66.l, .sl (Rp.int .i64) v78 x66.flights] ⟨⟨h73, h74, h76⟩, h79, h80, trivial⟩
 refine Mx.zS rfl rfl rfl (fun w' hw' => xG u38 sz44 q72 rfl (yD e67).1 (yD e67).2.1 rfl rfl) ?_
 refine Mx.zS rfl rfl rfl (fun w' hw' => fa44_0 rfl) ?_
 refine Mx.xM oS rfl rfl rfl (fun w' hw' => zU one33 rfl (Cells.get ((H.sees hw').item (i := 11) rfl).2.2 (i := 0) rfl)) ?_
 obtain ⟨x84, e85, hF⟩ := zH hF
 obtain ⟨a86, c87, q88⟩ := SlF.len ((H.item (i := 12) rfl))
 refine Mx.zS rfl rfl rfl (fun w' hw' => zT (xI u33 q88) (congrArg (Value.int .i64) e85)) ?_
 refine Mx.zS rfl rfl rfl (fun w' hw' => zF (v := .int .i64 x64) rfl) ?_
 refine Mx.zS rfl rfl rfl (fun w' hw' => zF (v := .int .i64 x84) rfl) ?_
 refine Mx.wG fun w89 hS => ?_
 have H := H.sees hS
 have H := H43.rejoin H
 refine (zB (hK42 _ _ ?_))
 refine zD fun K90 hK90 => ?_
 have H91 := H
 have H := H.rebase
 have H92 := H
 refine WP_mix0 H [0, 1, 2, 3, 4, 5, 6, 7, 8, 9, 10, 11] [.pure, .pure, .pure, .read, .read, .pure, .pure, .pure, .read, .pure, .pure, .pure] mixed (by kernel_rfl) (by kernel_rfl) (by kernel_rfl) rfl ?_
 refine Mx.zS rfl rfl rfl (fun w' hw' => zG (v := v25) rfl) ?_
 obtain ⟨x93, e94, hF⟩ := zJ hF
 obtain ⟨b95, o96, c97, cs98, q99, h102, h100, h101, h103⟩ := wB (H.item (i := 7) rfl) e94
 obtain ⟨v104, v105, rfl, h106, h107⟩ := rFleetPeaks_open h102
 have H := H.fzs [.at b95 (o96 + (1 : Int).toNat * 3) _, .sl (Rp.int .i64) v104 x93.l, .sl (Rp.int .i64) v105 x93.flights] ⟨⟨h100, h101, h103⟩, h106, h107, trivial⟩
 refine Mx.zS rfl rfl rfl (fun w' hw' => xG u38 sz44 q99 rfl (yD e94).1 (yD e94).2.1 rfl rfl) ?_
 refine Mx.zS rfl rfl rfl (fun w' hw' => fa44_0 rfl) ?_
 refine Mx.xM oS rfl rfl rfl (fun w' hw' => zU one33 rfl (Cells.get ((H.sees hw').item (i := 14) rfl).2.2 (i := 0) rfl)) ?_
 have H111 := H
 obtain ⟨x112, e113, hF⟩ := zJ hF
 refine Mx.XL_call oS rfl rfl rfl (v := .int .i64 x112) (fun w' hw' => yC en11 rfl) (fun w' hw' => call_read (F_fleet_sum_w x93.l v104 _ e113 _ _ _ ((H.sees hw').enter [] [15] (by decide) rfl))) ?_
 have H := H111
 refine Mx.zS rfl rfl rfl (fun w' hw' => zG (v := v25) rfl) ?_
 obtain ⟨x114, e115, hF⟩ := zJ hF
 obtain ⟨b116, o117, c118, cs119, q120, h123, h121, h122, h124⟩ := wB (H.item (i := 7) rfl) e115
 obtain ⟨v125, v126, rfl, h127, h128⟩ := rFleetPeaks_open h123
 have H := H.fzs [.at b116 (o117 + (1 : Int).toNat * 3) _, .sl (Rp.int .i64) v125 x114.l, .sl (Rp.int .i64) v126 x114.flights] ⟨⟨h121, h122, h124⟩, h127, h128, trivial⟩
 refine Mx.zS rfl rfl rfl (fun w' hw' => xG u38 sz44 q120 rfl (yD e115).1 (yD e115).2.1 rfl rfl) ?_
 refine Mx.zS rfl rfl rfl (fun w' hw' => fa44_0 rfl) ?_
 refine Mx.xM oS rfl rfl rfl (fun w' hw' => zU one33 rfl (Cells.get ((H.sees hw').item (i := 17) rfl).2.2 (i := 0) rfl)) ?_
 obtain ⟨x132, e133, hF⟩ := zH hF
 obtain ⟨a134, c135, q136⟩ := SlF.len ((H.item (i := 18) rfl))
 refine Mx.zS rfl rfl rfl (fun w' hw' => zT (xI u33 q136) (congrArg (Value.int .i64) e133)) ?_
 refine Mx.zS rfl rfl rfl (fun w' hw' => zF (v := .int .i64 x112) rfl) ?_
 refine Mx.zS rfl rfl rfl (fun w' hw' => zF (v := .int .i64 x132) rfl) ?_
 refine Mx.wG fun w137 hS => ?_
 have H := H.sees hS
 have H := H91.rejoin H
 refine (zB (hK90 _ _ ?_))
 refine zD fun K138 hK138 => ?_
 have H139 := H
 have H := H.rebase
 have H140 := H
 refine WP_mix0 H [0, 1, 2, 3, 4, 5, 6, 7, 8, 9, 10, 11, 12, 13, 14, 15, 16, 17, 18, 19, 20, 21, 22, 23, 24, 25, 26, 27] [.pure, .pure, .pure, .pure, .pure, .pure, .pure, .pure, .pure, .pure, .pure, .pure, .pure, .pure, .pure, .pure, .pure, .pure, .pure, .pure, .pure, .fcall, .pure, .pure, .pure, .new, .eff, .pure] mixed (by kernel_rfl) (by kernel_rfl) (by kernel_rfl) rfl ?_
 refine Mx.zS rfl rfl rfl (fun w' hw' => zG (v := .int .i64 x64) rfl) ?_
 refine Mx.zS rfl rfl rfl (fun w' hw' => zG (v := .int .i64 x84) rfl) ?_
 obtain ⟨x141, e142, hF⟩ := zJ hF
 refine Mx.zS rfl rfl rfl (fun w' hw' => Do_quo' (j := x64) (q := x84) rfl rfl e142) ?_
 refine Mx.zS rfl rfl rfl (fun w' hw' => zG (v := .int .i64 x112) rfl) ?_
 refine Mx.zS rfl rfl rfl (fun w' hw' => zG (v := .int .i64 x132) rfl) ?_
 obtain ⟨x143, e144, hF⟩ := zJ hF
 refine Mx.zS rfl rfl rfl (fun w' hw' => Do_quo' (j := x112) (q := x132) rfl rfl e144) ?_
 obtain ⟨x145, e146, hF⟩ := zH hF
 refine Mx.zS rfl rfl rfl (fun w' hw' => Do_sub (a := x141) (b := x143) rfl rfl e146) ?_
 refine Mx.zS rfl rfl rfl (fun w' hw' => zG (v := .int .i64 x64) rfl) ?_
 refine Mx.zS rfl rfl rfl (fun w' hw' => zG (v := .int .i64 x84) rfl) ?_
 obtain ⟨x147, e148, hF⟩ := zJ hF
 refine Mx.zS rfl rfl rfl (fun w' hw' => Do_rem' (j := x64) (q := x84) rfl rfl e148) ?_
 refine Mx.zS rfl rfl rfl (fun w' hw' => zG (v := .int .i64 x132) rfl) ?_
 obtain ⟨x149, e150, hF⟩ := zH hF
 refine Mx.zS rfl rfl rfl (fun w' hw' => Do_mul (a := x147) (b := x132) rfl rfl e150) ?_
 refine Mx.zS rfl rfl rfl (fun w' hw' => zG (v := .int .i64 x112) rfl) ?_
 refine Mx.zS rfl rfl rfl (fun w' hw' => zG (v := .int .i64 x132) rfl) ?_
 obtain ⟨x151, e152, hF⟩ := zJ hF
 refine Mx.zS rfl rfl rfl (fun w' hw' => Do_rem' (j := x112) (q := x132) rfl rfl e152) ?_
 refine Mx.zS rfl rfl rfl (fun w' hw' => zG (v := .int .i64 x84) rfl) ?_
 obtain ⟨x153, e154, hF⟩ := zH hF
 refine Mx.zS rfl rfl rfl (fun w' hw' => Do_mul (a := x151) (b := x84) rfl rfl e154) ?_
 obtain ⟨x155, e156, hF⟩ := zH hF
 refine Mx.zS rfl rfl rfl (fun w' hw' => Do_sub (a := x149) (b := x153) rfl rfl e156) ?_
 refine Mx.zS rfl rfl rfl (fun w' hw' => zG (v := .int .i64 x84) rfl) ?_
 refine Mx.zS rfl rfl rfl (fun w' hw' => zG (v := .int .i64 x132) rfl) ?_
 obtain ⟨x157, e158, hF⟩ := zH hF
 refine Mx.zS rfl rfl rfl (fun w' hw' => Do_mul (a := x84) (b := x132) rfl rfl e158) ?_
 have H159 := H
 obtain ⟨⟨x160, x161⟩, e162, hF⟩ := zJ hF
 refine Mx.XL_fcall oS rfl rfl rfl (v := .tuple #[.agg [.int .i64 x160.Num, .int .i64 x160.Den].toArray, .bool x161]) (fun w' hw' => yC en12 rfl) (fun w' hw' => by have q := call_read (F_fleet_mixed_w x145 x155 x157 _ e162 _ _ _ (Hd.fresh0 w')); exact q) ?_
 have H := H159
 refine Mx.zS rfl rfl rfl (fun w' hw' => zG (v := .tuple #[.agg [.int .i64 x160.Num, .int .i64 x160.Den].toArray, .bool x161]) rfl) ?_
 refine Mx.zS rfl rfl rfl (fun w' hw' => yQ (v := .agg [.int .i64 x160.Num, .int .i64 x160.Den].toArray) rfl rfl) ?_
 refine Mx.zS rfl rfl rfl (fun w' hw' => yQ (v := .bool x161) rfl rfl) ?_
 refine Mx.XL_exN oS rfl rfl rfl (fun w' hw' => Ls_of (xR zero28 (H.sees hw')) (Ys_alloc zero28)) ?_
 rintro w' _ w165 hw' ⟨b163, rfl, H⟩
 refine Mx.XL_exU oS rfl rfl (fun w' hw' => xA (vs := [.int .i64 x160.Num, .int .i64 x160.Den]) (H.sees hw') 20 rfl sz28 rfl rfl rfl ⟨rfl, rfl, trivial⟩ rfl) ?_
 rintro w' w166 hw' H
 refine ⟨H.only, ?_⟩
 refine Mx.zS rfl rfl rfl (fun w' hw' => zF (v := .bool x161) rfl) ?_
 refine Mx.wG fun w167 hS => ?_
 have H := H.sees hS
 have H := H139.rejoin H
 refine (zB (hK138 _ _ ?_))
 refine zD fun K174 hK174 => ?_
 refine zD fun K175 hK175 => ?_
 refine zC ?_
 refine zA rfl rfl (zG (v := .bool x161) rfl) ?_
 obtain ⟨x176, e177, hF⟩ := zH hF
 refine zA rfl rfl (zT (xY (p := x161) rfl) (congrArg Value.bool e177)) ?_
 refine (zI (zB (hK175 _ _ ?_)))
 refine yF (b := x176) rfl (fun c178 => ?_) (fun c178 => ?_)
 ·have hF := zW c178 hF
  refine zD fun K179 hK179 => ?_
  refine zC ?_
  refine zA rfl rfl (Do_build (cs := [.int .i64 0, .int .i64 0]) bz28) ?_
  refine xO rfl (xA (vs := [.int .i64 0, .int .i64 0]) H 5 rfl sz28 rfl rfl rfl ⟨rfl, rfl, trivial⟩ rfl) ?_
  rintro w180 H
  refine zA rfl rfl (zF (v := .int .i64 3) rfl) ?_
  refine (zI (zB (hK179 _ _ ?_)))
  have hR := Option.some.inj hF
  subst hR
  refine (yG (zZ (postc1 (v1 := .int .i64 3) rfl rfl (xH agg28 sz28 rfl (Blk.cells (H.item (i := 5) rfl))) rfl ?_)))
  exact ⟨rfl, H.pick [] (by decide)⟩
 have hF := zX c178 hF
 refine (yA (zB (hK174 _ _ ?_)))
 refine zD fun K181 hK181 => ?_
 refine zC ?_
 refine zA rfl rfl (zT (yV (cs := [.int .i64 x160.Num, .int .i64 x160.Den]) agg28 rfl sz28 rfl (Blk.cells (H.item (i := 20) rfl))) rfl) ?_
 refine xO rfl (xA (vs := [.int .i64 x160.Num, .int .i64 x160.Den]) H 5 rfl sz28 rfl rfl rfl ⟨rfl, rfl, trivial⟩ rfl) ?_
 rintro w182 H
 refine zA rfl rfl (zF (v := .int .i64 0) rfl) ?_
 refine (zI (zB (hK181 _ _ ?_)))
 have hR := Option.some.inj hF
 subst hR
 refine (yG (postc1 (v1 := .int .i64 0) rfl rfl (xH agg28 sz28 rfl (Blk.cells (H.item (i := 5) rfl))) rfl ?_))
 exact ⟨rfl, H.pick [] (by decide)⟩
end Go.Proofs.YtbjhondbheijiaaGreatDoor.L
namespace Go.Proofs.YtbjhondbheijiaaGreatDoor.L
open Go.RowKit Go.OB Go.Lf
/- orangebox/orangeboxref6.words -/
set_option maxHeartbeats 4000000 in
theorem F_ref6_words_w (r : (List Str)) (hF : F_ref6_words = some r) (O S : List Nat) (w : World) (H : Hd O w w S []) :
  Calls Tryz.prog 83 ([] : List Value).toArray w fun e w' => ∃ u1, e = .returned (u1) ∧ Hd O w w' S [.own Rp.str u1 9 r] := by
 unfold F_ref6_words at hF
 refine yB 2 Tryz.func83 rfl rfl rfl ?_
 refine zD fun K2 hK2 => ?_
 refine zC ?_
 refine zA rfl rfl (zF (v := .slice none 0 0) rfl) ?_
 refine (zI (zB (hK2 _ _ ?_)))
 refine zD fun K3 hK3 => ?_
 refine zC ?_
 obtain ⟨x4, e5, hF⟩ := zH hF
 subst e5
 refine xE rfl rfl (Lx_bs (r := Rp.str) (xl := [[112, 104, 97, 115, 101], [109, 111, 118, 101], [114, 117, 108, 101], [105, 102], [111, 114], [97, 110, 100], [116, 114, 117, 101], [102, 97, 108, 115, 101], [115, 116, 101, 97, 100, 121], [110, 111, 116], [102, 111, 114], [119, 105, 116, 104, 105, 110], [99, 111, 117, 110, 116], [111, 102], [114, 105, 115, 101, 115], [115, 105, 110, 99, 101]]) (cs := [.string (bs [112, 104, 97, 115, 101]), .string (bs [109, 111, 118, 101]), .string (bs [114, 117, 108, 101]), .string (bs [105, 102]), .string (bs [111, 114]), .string (bs [97, 110, 100]), .string (bs [116, 114, 117, 101]), .string (bs [102, 97, 108, 115, 101]), .string (bs [115, 116, 101, 97, 100, 121]), .string (bs [110, 111, 116]), .string (bs [102, 111, 114]), .string (bs [119, 105, 116, 104, 105, 110]), .string (bs [99, 111, 117, 110, 116]), .string (bs [111, 102]), .string (bs [114, 105, 115, 101, 115]), .string (bs [115, 105, 110, 99, 101])]) u23 el9 (by decide) (by decide) rfl (xW (vs := [.string (bs [112, 104, 97, 115, 101]), .string (bs [109, 111, 118, 101]), .string (bs [114, 117, 108, 101]), .string (bs [105, 102]), .string (bs [111, 114]), .string (bs [97, 110, 100]), .string (bs [116, 114, 117, 101]), .string (bs [102, 97, 108, 115, 101]), .string (bs [115, 116, 101, 97, 100, 121]), .string (bs [110, 111, 116]), .string (bs [102, 111, 114]), .string (bs [119, 105, 116, 104, 105, 110]), .string (bs [99, 111, 117, 110, 116]), .string (bs [111, 102]), .string (bs [114, 105, 115, 101, 115]), .string (bs [115, 105, 110, 99, 101])]) (by decide) rfl rfl ⟨rfl, rfl, rfl, rfl, rfl, rfl, rfl, rfl, rfl, rfl, rfl, rfl, rfl, rfl, rfl, rfl, trivial⟩ rfl) H ⟨[.string (bs [112, 104, 97, 115, 101])], [.string (bs [109, 111, 118, 101]), .string (bs [114, 117, 108, 101]), .string (bs [105, 102]), .string (bs [111, 114]), .string (bs [97, 110, 100]), .string (bs [116, 114, 117, 101]), .string (bs [102, 97, 108, 115, 101]), .string (bs [115, 116, 101, 97, 100, 121]), .string (bs [110, 111, 116]), .string (bs [102, 111, 114]), .string (bs [119, 105, 116, 104, 105, 110]), .string (bs [99, 111, 117, 110, 116]), .string (bs [111, 102]), .string (bs [114, 105, 115, 101, 115]), .string (bs [115, 105, 110, 99, 101])], rfl, rfl, ⟨[.string (bs [109, 111, 118, 101])], [.string (bs [114, 117, 108, 101]), .string (bs [105, 102]), .string (bs [111, 114]), .string (bs [97, 110, 100]), .string (bs [116, 114, 117, 101]), .string (bs [102, 97, 108, 115, 101]), .string (bs [115, 116, 101, 97, 100, 121]), .string (bs [110, 111, 116]), .string (bs [102, 111, 114]), .string (bs [119, 105, 116, 104, 105, 110]), .string (bs [99, 111, 117, 110, 116]), .string (bs [111, 102]), .string (bs [114, 105, 115, 101, 115]), .string (bs [115, 105, 110, 99, 101])], rfl, rfl, ⟨[.string (bs [114, 117, 108, 101])], [.string (bs [105, 102]), .string (bs [111, 114]), .string (bs [97, 110, 100]), .string (bs [116, 114, 117, 101]), .string (bs [102, 97, 108, 115, 101]), .string (bs [115, 116, 101, 97, 100, 121]), .string (bs [110, 111, 116]), .string (bs [102, 111, 114]), .string (bs [119, 105, 116, 104, 105, 110]), .string (bs [99, 111, 117, 110, 116]), .string (bs [111, 102]), .string (bs [114, 105, 115, 101, 115]), .string (bs [115, 105, 110, 99, 101])], rfl, rfl, ⟨[.string (bs [105, 102])], [.string (bs [111, 114]), .string (bs [97, 110, 100]), .string (bs [116, 114, 117, 101]), .string (bs [102, 97, 108, 115, 101]), .string (bs [115, 116, 101, 97, 100, 121]), .string (bs [110, 111, 116]), .string (bs [102, 111, 114]), .string (bs [119, 105, 116, 104, 105, 110]), .string (bs [99, 111, 117, 110, 116]), .string (bs [111, 102]), .string (bs [114, 105, 115, 101, 115]), .string (bs [115, 105, 110, 99, 101])], rfl, rfl, ⟨[.string (bs [111, 114])], [.string (bs [97, 110, 100]), .string (bs [116, 114, 117, 101]), .string (bs [102, 97, 108, 115, 101]), .string (bs [115, 116, 101, 97, 100, 121]), .string (bs [110, 111, 116]), .string (bs [102, 111, 114]), .string (bs [119, 105, 116, 104, 105, 110]), .string (bs [99, 111, 117, 110, 116]), .string (bs [111, 102]), .string (bs [114, 105, 115, 101, 115]), .string (bs [115, 105, 110, 99, 101])], rfl, rfl, ⟨[.string (bs [97, 110, 100])], [.string (bs [116, 114, 117, 101]), .string (bs [102, 97, 108, 115, 101]), .string (bs [115, 116, 101, 97, 100, 121]), .string (bs [110, 111, 116]), .string (bs [102, 111, 114]), .string (bs [119, 105, 116, 104, 105, 110]), .string (bs [99, 111, 117, 110, 116]), .string (bs [111, 102]), .string (bs [114, 105, 115, 101, 115]), .string (bs [115, 105, 110, 99, 101])], rfl, rfl, ⟨[.string (bs [116, 114, 117, 101])], [.string (bs [102, 97, 108, 115, 101]), .string (bs [115, 116, 101, 97, 100, 121]), .string (bs [110, 111, 116]), .string (bs [102, 111, 114]), .string (bs [119, 105, 116, 104, 105, 110]), .string (bs [99, 111, 117, 110, 116]), .string (bs [111, 102]), .string (bs [114, 105, 115, 101, 115]), .string (bs [115, 105, 110, 99, 101])], rfl, rfl, ⟨[.string (bs [102, 97, 108, 115, 101])], [.string (bs [115, 116, 101, 97, 100, 121]), .string (bs [110, 111, 116]), .string (bs [102, 111, 114]), .string (bs [119, 105, 116, 104, 105, 110]), .string (bs [99, 111, 117, 110, 116]), .string (bs [111, 102]), .string (bs [114, 105, 115, 101, 115]), .string (bs [115, 105, 110, 99, 101])], rfl, rfl, ⟨[.string (bs [115, 116, 101, 97, 100, 121])], [.string (bs [110, 111, 116]), .string (bs [102, 111, 114]), .string (bs [119, 105, 116, 104, 105, 110]), .string (bs [99, 111, 117, 110, 116]), .string (bs [111, 102]), .string (bs [114, 105, 115, 101, 115]), .string (bs [115, 105, 110, 99, 101])], rfl, rfl, ⟨[.string (bs [110, 111, 116])], [.string (bs [102, 111, 114]), .string (bs [119, 105, 116, 104, 105, 110]), .string (bs [99, 111, 117, 110, 116]), .string (bs [111, 102]), .string (bs [114, 105, 115, 101, 115]), .string (bs [115, 105, 110, 99, 101])], rfl, rfl, ⟨[.string (bs [102, 111, 114])], [.string (bs [119, 105, 116, 104, 105, 110]), .string (bs [99, 111, 117, 110, 116]), .string (bs [111, 102]), .string (bs [114, 105, 115, 101, 115]), .string (bs [115, 105, 110, 99, 101])], rfl, rfl, ⟨[.string (bs [119, 105, 116, 104, 105, 110])], [.string (bs [99, 111, 117, 110, 116]), .string (bs [111, 102]), .string (bs [114, 105, 115, 101, 115]), .string (bs [115, 105, 110, 99, 101])], rfl, rfl, ⟨[.string (bs [99, 111, 117, 110, 116])], [.string (bs [111, 102]), .string (bs [114, 105, 115, 101, 115]), .string (bs [115, 105, 110, 99, 101])], rfl, rfl, ⟨[.string (bs [111, 102])], [.string (bs [114, 105, 115, 101, 115]), .string (bs [115, 105, 110, 99, 101])], rfl, rfl, ⟨[.string (bs [114, 105, 115, 101, 115])], [.string (bs [115, 105, 110, 99, 101])], rfl, rfl, ⟨[.string (bs [115, 105, 110, 99, 101])], [], rfl, rfl, rfl⟩⟩⟩⟩⟩⟩⟩⟩⟩⟩⟩⟩⟩⟩⟩⟩) ?_
 rintro v7 w8 H
 refine zA rfl rfl (zF (v := v7) rfl) ?_
 refine (zI (zB (hK3 _ _ ?_)))
 have hR := Option.some.inj hF
 subst hR
 refine (yG (post1 (v1 := v7) rfl rfl ?_))
 exact ⟨v7, rfl, H.pick [0] (by decide)⟩
end Go.Proofs.YtbjhondbheijiaaGreatDoor.L
namespace Go.Proofs.YtbjhondbheijiaaGreatDoor.L
open Go.RowKit Go.OB Go.Lf
/- orangebox/orangeboxref6.Reserved -/
set_option maxHeartbeats 4000000 in
theorem F_ref6_Reserved_w (p0 : Str) (r : Bool) (hF : F_ref6_Reserved p0 = some r) (O S : List Nat) (w : World) (H : Hd O w w S []) :
  Calls Tryz.prog 62 ([.string (bs p0)] : List Value).toArray w fun e w' => e = .returned (.bool r) ∧ Hd O w w' S [] := by
 unfold F_ref6_Reserved at hF
 refine yB 18 Tryz.func62 rfl rfl rfl ?_
 refine zD fun K1 hK1 => ?_
 refine zC ?_
 refine zA rfl rfl (zF (v := .bool false) rfl) ?_
 refine (zI (zB (hK1 _ _ ?_)))
 refine zD fun K2 hK2 => ?_
 refine zC ?_
 obtain ⟨x3, e4, hF⟩ := zJ hF
 refine yJ rfl rfl (yC en83 rfl) (F_ref6_words_w _ e4 _ _ _ (H.enter [] [] (by decide) rfl)) ?_
 rintro _ w7 ⟨v5, rfl, G8⟩
 have H := H.back1 [] rfl G8
 refine ⟨_, rfl, ?_⟩
 refine zA rfl rfl (zF (v := v5) rfl) ?_
 refine (zI (zB (hK2 _ _ ?_)))
 obtain ⟨k126, ek127, hF⟩ := xU hF
 refine yL [2, 4, 6, 7, 8, 9, 10, 11, 12, 13, 14, 15, 16, 17] (fun (g : Unit) => []) (fun g wl => Hd O w wl S [] ∧ k126 () = some r) ?_ ?_
 ·skip
  refine zD fun K128 hK128 => ?_
  refine zC ?_
  refine zA rfl rfl (zF (v := .int .i64 0) rfl) ?_
  refine (zI (zB (hK128 _ _ ?_)))
  refine yK ?_
  unfold F_ref6_Reserved_L1 at hF
  obtain ⟨B239, n240, eB241, hF⟩ := yT hF
  refine xC [2, 4, 6, 7, 8, 9, 10, 11, 12, 13, 14, 15, 16, 17] (fun (g : Nat × Int) => [(4, .int .i64 g.2)]) (fun g wl => Hd O w wl S [.own Rp.str v5 9 x3] ∧ loopN B239 g.1 g.2 = some r) (fun g => g.1) (n240, 0) (zK rfl zQ) ⟨H.pick [0] (by decide), hF⟩ ?_
  clear H hF
  rintro ⟨n240, g238⟩ ρ w243 ⟨H, hF⟩
  obtain ⟨n244, rfl, hF⟩ := yX hF
  have hF := yY eB241 hF
  refine zD fun K254 hK254 => ?_
  refine zD fun K255 hK255 => ?_
  refine zC ?_
  refine zA rfl rfl (zG (v := .int .i64 g238) rfl) ?_
  refine zA rfl rfl (zG (v := v5) rfl) ?_
  obtain ⟨x256, e257, hF⟩ := zH hF
  obtain ⟨a258, c259, q260⟩ := Sr.len (Sr.of_own (H.item (i := 0) rfl))
  refine zA rfl rfl (zT (xI u23 q260) (congrArg (Value.int .i64) e257)) ?_
  obtain ⟨x261, e262, hF⟩ := zH hF
  refine zA rfl rfl (zT (xK (a := g238) (b := x256) rfl rfl) (congrArg Value.bool e262)) ?_
  refine (zI (zB (hK255 _ _ ?_)))
  refine yF (b := x261) rfl (fun c263 => ?_) (fun c263 => ?_)
  ·have hF := zW c263 hF
   refine (yA (zB (hK254 _ _ ?_)))
   refine zD fun K280 hK280 => ?_
   refine yK ?_
   refine zD fun K281 hK281 => ?_
   refine zC ?_
   refine zA rfl rfl (zG (v := v5) rfl) ?_
   refine zA rfl rfl (zG (v := .int .i64 g238) rfl) ?_
   obtain ⟨x282, e283, hF⟩ := zJ hF
   obtain ⟨b284, c286, cs287, q288, h291, h292⟩ := own_at (H.item (i := 0) rfl) e283
   obtain rfl : cs287 = [.string (bs x282)] := h291
   refine zA rfl rfl (xG u23 sz9 q288 rfl (yD e283).1 (yD e283).2.1 rfl rfl) ?_
   refine zA rfl rfl (zU one9 rfl (Cells.get h292 (i := 0) rfl)) ?_
   refine zA rfl rfl (zG (v := .string (bs p0)) rfl) ?_
   obtain ⟨x293, e294, hF⟩ := zH hF
   refine zA rfl rfl (zT (Do_eqls (s1 := x282) (s2 := p0) rfl rfl) (congrArg Value.bool e294)) ?_
   refine (zI (zB (hK281 _ _ ?_)))
   refine yF (b := x293) rfl (fun c295 => ?_) (fun c295 => ?_)
   ·have hF := zW c295 hF
    refine zD fun K296 hK296 => ?_
    refine zC ?_
    refine zA rfl rfl (zF (v := .bool true) rfl) ?_
    refine (zI (zB (hK296 _ _ ?_)))
    have hR := Option.some.inj hF
    subst hR
    refine (yG (yM (zZ (zZ (yM (zZ (post1 (v1 := .bool true) rfl rfl ?_)))))))
    exact ⟨rfl, H.pick [] (by decide)⟩
   have hF := zX c295 hF
   refine (yA (yU (zB (hK280 _ _ ?_))))
   refine zC ?_
   refine zA rfl rfl (zG (v := .int .i64 g238) rfl) ?_
   obtain ⟨x297, e298, hF⟩ := zH hF
   refine zA rfl rfl (xJ (a := g238) (b := 1) rfl rfl e298) ?_
   refine zA rfl rfl (zF (v := .int .i64 x297) rfl) ?_
   refine (zI (zB (And.intro ?_ ?_)))
   ·repeat' (first | with_reducible exact zN | refine zV rfl ?_ | refine zO rfl rfl ?_)
   exact ⟨(n244, x297), (zK rfl zQ), ⟨H.pick [0] (by decide), hF⟩, Nat.lt_succ_self _⟩
  have hF := zX c263 hF
  refine (xB (yN (yN (yR (zB (And.intro ?_ ?_))))))
  ·repeat' (first | with_reducible exact zN | refine zV rfl ?_ | refine zO rfl rfl ?_)
  exact ⟨(), zQ, ⟨H.pick [] (by decide), hF⟩⟩
 rintro _ ρ w125 ⟨H, hF⟩
 have hF := xZ ek127 hF
 refine zD fun K299 hK299 => ?_
 refine zC ?_
 refine zA rfl rfl (zF (v := .bool false) rfl) ?_
 refine (zI (zB (hK299 _ _ ?_)))
 have hR := Option.some.inj hF
 subst hR
 refine (yG (post1 (v1 := .bool false) rfl rfl ?_))
 exact ⟨rfl, H.pick [] (by decide)⟩
end Go.Proofs.YtbjhondbheijiaaGreatDoor.L
namespace Go.Proofs.YtbjhondbheijiaaGreatDoor.L
open Go.RowKit Go.OB Go.Lf
/- orangebox/orangeboxref6.IsName -/
set_option maxHeartbeats 4000000 in
theorem F_ref6_IsName_w (p0 : Str) (r : Bool) (hF : F_ref6_IsName p0 = some r) (O S : List Nat) (w : World) (H : Hd O w w S []) :
  Calls Tryz.prog 38 ([.string (bs p0)] : List Value).toArray w fun e w' => e = .returned (.bool r) ∧ Hd O w w' S [] := by
 unfold F_ref6_IsName at hF
 refine yB 49 Tryz.func38 rfl rfl rfl ?_
 refine zD fun K1 hK1 => ?_
 refine zC ?_
 refine zA rfl rfl (zF (v := .bool false) rfl) ?_
 refine (zI (zB (hK1 _ _ ?_)))
 obtain ⟨k235, ek236, hF⟩ := xU hF
 refine yL [2, 3, 4, 5, 6, 7, 8, 9, 10, 11, 12, 13, 14, 15, 16, 17, 18, 19, 20, 21, 22, 23, 24, 25, 26, 27, 28, 29, 30, 31, 32, 33, 34, 35, 36] (fun (g : Unit) => []) (fun g wl => Hd O w wl S [] ∧ k235 () = some r) ?_ ?_
 ·skip
  refine zD fun K237 hK237 => ?_
  refine zC ?_
  refine zA rfl rfl (zF (v := .int .i64 0) rfl) ?_
  refine (zI (zB (hK237 _ _ ?_)))
  refine yK ?_
  unfold F_ref6_IsName_L1 at hF
  obtain ⟨B464, n465, eB466, hF⟩ := yT hF
  refine xC [2, 3, 4, 5, 6, 7, 8, 9, 10, 11, 12, 13, 14, 15, 16, 17, 18, 19, 20, 21, 22, 23, 24, 25, 26, 27, 28, 29, 30, 31, 32, 33, 34, 35, 36] (fun (g : Nat × Int) => [(3, .int .i64 g.2)]) (fun g wl => Hd O w wl S [] ∧ loopN B464 g.1 g.2 = some r) (fun g => g.1) (n465, 0) (zK rfl zQ) ⟨H.pick [] (by decide), hF⟩ ?_
  clear H hF
  rintro ⟨n465, g463⟩ ρ w468 ⟨H, hF⟩
  obtain ⟨n469, rfl, hF⟩ := yX hF
  have hF := yY eB466 hF
  refine zD fun K476 hK476 => ?_
  refine zD fun K477 hK477 => ?_
  refine zC ?_
  refine zA rfl rfl (zG (v := .int .i64 g463) rfl) ?_
  refine zA rfl rfl (zG (v := .string (bs p0)) rfl) ?_
  obtain ⟨x478, e479, hF⟩ := zH hF
  refine zA rfl rfl (zT (Do_slen (s1 := p0) u9 rfl) (congrArg (Value.int .i64) e479)) ?_
  obtain ⟨x480, e481, hF⟩ := zH hF
  refine zA rfl rfl (zT (xK (a := g463) (b := x478) rfl rfl) (congrArg Value.bool e481)) ?_
  refine (zI (zB (hK477 _ _ ?_)))
  refine yF (b := x480) rfl (fun c482 => ?_) (fun c482 => ?_)
  ·have hF := zW c482 hF
   refine (yA (zB (hK476 _ _ ?_)))
   refine zD fun K531 hK531 => ?_
   refine yK ?_
   refine zD fun K532 hK532 => ?_
   refine zC ?_
   refine zA rfl rfl (zG (v := .string (bs p0)) rfl) ?_
   refine zA rfl rfl (zG (v := .int .i64 g463) rfl) ?_
   obtain ⟨x533, e534, hF⟩ := zJ hF
   refine zA rfl rfl (Do_sidx (s1 := p0) (q := g463) u9 rfl rfl e534) ?_
   refine zA rfl rfl (zF (v := .int .u8 x533) rfl) ?_
   refine (zI (zB (hK532 _ _ ?_)))
   obtain ⟨g575, hF, hK577⟩ := zJ hF
   refine yL [14, 15, 16, 17, 18, 19, 20, 21, 22, 23, 24, 25, 26, 27, 28, 29, 30, 31, 32, 33, 34, 35, 36] (fun (g : Unit) => [(36, .bool g575)]) (fun g wl => Hd O w wl S []) ?_ ?_
   ·skip
    refine zC ?_
    refine zA rfl rfl (zG (v := .int .u8 x533) rfl) ?_
    obtain ⟨x578, e579, hF⟩ := zH hF
    refine zA rfl rfl (zT (Do_geq (a := x533) (b := 97) rfl rfl) (congrArg Value.bool e579)) ?_
    refine yO (b := x578) rfl rfl rfl (fun c580 => ?_) (fun c580 => ?_)
    ·have hF := zW c580 hF
     refine zA rfl rfl (zG (v := .int .u8 x533) rfl) ?_
     obtain ⟨x581, e582, hF⟩ := zH hF
     refine zA rfl rfl (zT (Do_leq (a := x533) (b := 122) rfl rfl) (congrArg Value.bool e582)) ?_
     refine zA rfl rfl (yI (v := .bool x581) rfl rfl) ?_
     refine yO (b := x581) rfl rfl rfl (fun c583 => ?_) (fun c583 => ?_)
     ·have hF := zW c583 hF
      refine zM rfl rfl ?_
      refine zM rfl rfl ?_
      refine zM rfl rfl ?_
      refine zM rfl rfl ?_
      refine zM rfl rfl ?_
      refine zM rfl rfl ?_
      refine zM rfl rfl ?_
      refine zM rfl rfl ?_
      refine zM rfl rfl ?_
      refine zM rfl rfl ?_
      refine zM rfl rfl ?_
      refine zM rfl rfl ?_
      refine zM rfl rfl ?_
      refine zM rfl rfl ?_
      refine zA rfl rfl (yI (v := .bool true) rfl rfl) ?_
      refine zA rfl rfl (xY (p := true) rfl) ?_
      have hR := Option.some.inj hF
      subst hR
      refine (zI (zB (And.intro ?_ ?_)))
      ·repeat' (first | with_reducible exact zN | refine zV rfl ?_ | refine zO rfl rfl ?_)
      exact ⟨(), (zK rfl zQ), H.pick [] (by decide)⟩
     have hF := zX c583 hF
     refine zA rfl rfl (zG (v := .int .i64 g463) rfl) ?_
     obtain ⟨x584, e585, hF⟩ := zH hF
     refine zA rfl rfl (zT (wF (a := g463) (b := 0) rfl rfl) (congrArg Value.bool e585)) ?_
     refine yO (b := x584) rfl rfl rfl (fun c586 => ?_) (fun c586 => ?_)
     ·have hF := zW c586 hF
      refine zA rfl rfl (zG (v := .int .u8 x533) rfl) ?_
      obtain ⟨x587, e588, hF⟩ := zH hF
      refine zA rfl rfl (zT (Do_geq (a := x533) (b := 48) rfl rfl) (congrArg Value.bool e588)) ?_
      refine yO (b := x587) rfl rfl rfl (fun c589 => ?_) (fun c589 => ?_)
      ·have hF := zW c589 hF
       refine zA rfl rfl (zG (v := .int .u8 x533) rfl) ?_
       obtain ⟨x590, e591, hF⟩ := zH hF
       refine zA rfl rfl (zT (Do_leq (a := x533) (b := 57) rfl rfl) (congrArg Value.bool e591)) ?_
       refine zA rfl rfl (yI (v := .bool x590) rfl rfl) ?_
       refine yO (b := x590) rfl rfl rfl (fun c592 => ?_) (fun c592 => ?_)
       ·have hF := zW c592 hF
        refine zM rfl rfl ?_
        refine zM rfl rfl ?_
        refine zA rfl rfl (yI (v := .bool true) rfl rfl) ?_
        refine zA rfl rfl (yI (v := .bool true) rfl rfl) ?_
        refine zA rfl rfl (yH (v := .bool true) rfl rfl) ?_
        refine zA rfl rfl (xY (p := true) rfl) ?_
        have hR := Option.some.inj hF
        subst hR
        refine (zI (zB (And.intro ?_ ?_)))
        ·repeat' (first | with_reducible exact zN | refine zV rfl ?_ | refine zO rfl rfl ?_)
        exact ⟨(), (zK rfl zQ), H.pick [] (by decide)⟩
       have hF := zX c592 hF
       refine zA rfl rfl (zG (v := .int .u8 x533) rfl) ?_
       obtain ⟨x593, e594, hF⟩ := zH hF
       refine zA rfl rfl (zT (Do_eql (a := x533) (b := 45) rfl rfl) (congrArg Value.bool e594)) ?_
       refine zA rfl rfl (yH (v := .bool x593) rfl rfl) ?_
       refine zA rfl rfl (yI (v := .bool x593) rfl rfl) ?_
       refine zA rfl rfl (yH (v := .bool x593) rfl rfl) ?_
       obtain ⟨x595, e596, hF⟩ := zH hF
       refine zA rfl rfl (zT (xY (p := x593) rfl) (congrArg Value.bool e596)) ?_
       have hR := Option.some.inj hF
       subst hR
       refine (zI (zB (And.intro ?_ ?_)))
       ·repeat' (first | with_reducible exact zN | refine zV rfl ?_ | refine zO rfl rfl ?_)
       exact ⟨(), (zK rfl zQ), H.pick [] (by decide)⟩
      have hF := zX c589 hF
      refine zM rfl rfl ?_
      refine zM rfl rfl ?_
      refine zA rfl rfl (yH (v := .bool false) rfl rfl) ?_
      refine zA rfl rfl (zG (v := .bool false) rfl) ?_
      refine zA rfl rfl (zG (v := .int .u8 x533) rfl) ?_
      obtain ⟨x597, e598, hF⟩ := zH hF
      refine zA rfl rfl (zT (Do_eql (a := x533) (b := 45) rfl rfl) (congrArg Value.bool e598)) ?_
      refine zA rfl rfl (yH (v := .bool x597) rfl rfl) ?_
      refine zA rfl rfl (yI (v := .bool x597) rfl rfl) ?_
      refine zA rfl rfl (yH (v := .bool x597) rfl rfl) ?_
      obtain ⟨x599, e600, hF⟩ := zH hF
      refine zA rfl rfl (zT (xY (p := x597) rfl) (congrArg Value.bool e600)) ?_
      have hR := Option.some.inj hF
      subst hR
      refine (zI (zB (And.intro ?_ ?_)))
      ·repeat' (first | with_reducible exact zN | refine zV rfl ?_ | refine zO rfl rfl ?_)
      exact ⟨(), (zK rfl zQ), H.pick [] (by decide)⟩
     have hF := zX c586 hF
     refine zM rfl rfl ?_
     refine zM rfl rfl ?_
     refine zM rfl rfl ?_
     refine zM rfl rfl ?_
     refine zM rfl rfl ?_
     refine zM rfl rfl ?_
     refine zM rfl rfl ?_
     refine zM rfl rfl ?_
     refine zM rfl rfl ?_
     refine zM rfl rfl ?_
     refine zA rfl rfl (yH (v := .bool false) rfl rfl) ?_
     refine zA rfl rfl (yH (v := .bool false) rfl rfl) ?_
     refine zA rfl rfl (xY (p := false) rfl) ?_
     have hR := Option.some.inj hF
     subst hR
     refine (zI (zB (And.intro ?_ ?_)))
     ·repeat' (first | with_reducible exact zN | refine zV rfl ?_ | refine zO rfl rfl ?_)
     exact ⟨(), (zK rfl zQ), H.pick [] (by decide)⟩
    have hF := zX c580 hF
    refine zM rfl rfl ?_
    refine zM rfl rfl ?_
    refine zA rfl rfl (yH (v := .bool false) rfl rfl) ?_
    refine zA rfl rfl (zG (v := .bool false) rfl) ?_
    refine zA rfl rfl (zG (v := .int .i64 g463) rfl) ?_
    obtain ⟨x601, e602, hF⟩ := zH hF
    refine zA rfl rfl (zT (wF (a := g463) (b := 0) rfl rfl) (congrArg Value.bool e602)) ?_
    refine yO (b := x601) rfl rfl rfl (fun c603 => ?_) (fun c603 => ?_)
    ·have hF := zW c603 hF
     refine zA rfl rfl (zG (v := .int .u8 x533) rfl) ?_
     obtain ⟨x604, e605, hF⟩ := zH hF
     refine zA rfl rfl (zT (Do_geq (a := x533) (b := 48) rfl rfl) (congrArg Value.bool e605)) ?_
     refine yO (b := x604) rfl rfl rfl (fun c606 => ?_) (fun c606 => ?_)
     ·have hF := zW c606 hF
      refine zA rfl rfl (zG (v := .int .u8 x533) rfl) ?_
      obtain ⟨x607, e608, hF⟩ := zH hF
      refine zA rfl rfl (zT (Do_leq (a := x533) (b := 57) rfl rfl) (congrArg Value.bool e608)) ?_
      refine zA rfl rfl (yI (v := .bool x607) rfl rfl) ?_
      refine yO (b := x607) rfl rfl rfl (fun c609 => ?_) (fun c609 => ?_)
      ·have hF := zW c609 hF
       refine zM rfl rfl ?_
       refine zM rfl rfl ?_
       refine zA rfl rfl (yI (v := .bool true) rfl rfl) ?_
       refine zA rfl rfl (yI (v := .bool true) rfl rfl) ?_
       refine zA rfl rfl (yH (v := .bool true) rfl rfl) ?_
       refine zA rfl rfl (xY (p := true) rfl) ?_
       have hR := Option.some.inj hF
       subst hR
       refine (zI (zB (And.intro ?_ ?_)))
       ·repeat' (first | with_reducible exact zN | refine zV rfl ?_ | refine zO rfl rfl ?_)
       exact ⟨(), (zK rfl zQ), H.pick [] (by decide)⟩
      have hF := zX c609 hF
      refine zA rfl rfl (zG (v := .int .u8 x533) rfl) ?_
      obtain ⟨x610, e611, hF⟩ := zH hF
      refine zA rfl rfl (zT (Do_eql (a := x533) (b := 45) rfl rfl) (congrArg Value.bool e611)) ?_
      refine zA rfl rfl (yH (v := .bool x610) rfl rfl) ?_
      refine zA rfl rfl (yI (v := .bool x610) rfl rfl) ?_
      refine zA rfl rfl (yH (v := .bool x610) rfl rfl) ?_
      obtain ⟨x612, e613, hF⟩ := zH hF
      refine zA rfl rfl (zT (xY (p := x610) rfl) (congrArg Value.bool e613)) ?_
      have hR := Option.some.inj hF
      subst hR
      refine (zI (zB (And.intro ?_ ?_)))
      ·repeat' (first | with_reducible exact zN | refine zV rfl ?_ | refine zO rfl rfl ?_)
      exact ⟨(), (zK rfl zQ), H.pick [] (by decide)⟩
     have hF := zX c606 hF
     refine zM rfl rfl ?_
     refine zM rfl rfl ?_
     refine zA rfl rfl (yH (v := .bool false) rfl rfl) ?_
     refine zA rfl rfl (zG (v := .bool false) rfl) ?_
     refine zA rfl rfl (zG (v := .int .u8 x533) rfl) ?_
     obtain ⟨x614, e615, hF⟩ := zH hF
     refine zA rfl rfl (zT (Do_eql (a := x533) (b := 45) rfl rfl) (congrArg Value.bool e615)) ?_
     refine zA rfl rfl (yH (v := .bool x614) rfl rfl) ?_
     refine zA rfl rfl (yI (v := .bool x614) rfl rfl) ?_
     refine zA rfl rfl (yH (v := .bool x614) rfl rfl) ?_
     obtain ⟨x616, e617, hF⟩ := zH hF
     refine zA rfl rfl (zT (xY (p := x614) rfl) (congrArg Value.bool e617)) ?_
     have hR := Option.some.inj hF
     subst hR
     refine (zI (zB (And.intro ?_ ?_)))
     ·repeat' (first | with_reducible exact zN | refine zV rfl ?_ | refine zO rfl rfl ?_)
     exact ⟨(), (zK rfl zQ), H.pick [] (by decide)⟩
    have hF := zX c603 hF
    refine zM rfl rfl ?_
    refine zM rfl rfl ?_
    refine zM rfl rfl ?_
    refine zM rfl rfl ?_
    refine zM rfl rfl ?_
    refine zM rfl rfl ?_
    refine zM rfl rfl ?_
    refine zM rfl rfl ?_
    refine zM rfl rfl ?_
    refine zM rfl rfl ?_
    refine zA rfl rfl (yH (v := .bool false) rfl rfl) ?_
    refine zA rfl rfl (yH (v := .bool false) rfl rfl) ?_
    refine zA rfl rfl (xY (p := false) rfl) ?_
    have hR := Option.some.inj hF
    subst hR
    refine (zI (zB (And.intro ?_ ?_)))
    ·repeat' (first | with_reducible exact zN | refine zV rfl ?_ | refine zO rfl rfl ?_)
    exact ⟨(), (zK rfl zQ), H.pick [] (by decide)⟩
   rintro _ ρ w576 H
   have hF := hK577
   refine yF (b := g575) rfl (fun c618 => ?_) (fun c618 => ?_)
   ·have hF := zW c618 hF
    refine zD fun K619 hK619 => ?_
    refine zC ?_
    refine zA rfl rfl (zF (v := .bool false) rfl) ?_
    refine (zI (zB (hK619 _ _ ?_)))
    have hR := Option.some.inj hF
    subst hR
    refine (yG (yM (zZ (zZ (yM (zZ (post1 (v1 := .bool false) rfl rfl ?_)))))))
    exact ⟨rfl, H.pick [] (by decide)⟩
   have hF := zX c618 hF
   refine (yA (yU (zB (hK531 _ _ ?_))))
   refine zC ?_
   refine zA rfl rfl (zG (v := .int .i64 g463) rfl) ?_
   obtain ⟨x620, e621, hF⟩ := zH hF
   refine zA rfl rfl (xJ (a := g463) (b := 1) rfl rfl e621) ?_
   refine zA rfl rfl (zF (v := .int .i64 x620) rfl) ?_
   refine (zI (zB (And.intro ?_ ?_)))
   ·repeat' (first | with_reducible exact zN | refine zV rfl ?_ | refine zO rfl rfl ?_)
   exact ⟨(n469, x620), (zK rfl zQ), ⟨H.pick [] (by decide), hF⟩, Nat.lt_succ_self _⟩
  have hF := zX c482 hF
  refine (xB (yN (yN (yR (zB (And.intro ?_ ?_))))))
  ·repeat' (first | with_reducible exact zN | refine zV rfl ?_ | refine zO rfl rfl ?_)
  exact ⟨(), zQ, ⟨H.pick [] (by decide), hF⟩⟩
 rintro _ ρ w234 ⟨H, hF⟩
 have hF := xZ ek236 hF
 obtain ⟨g637, hF, hK639⟩ := zJ hF
 refine yL [2, 37, 38, 39, 40, 41, 42, 43, 44, 45, 46, 47, 48] (fun (g : Unit) => [(2, .bool g637)]) (fun g wl => Hd O w wl S []) ?_ ?_
 ·skip
  refine zC ?_
  refine zA rfl rfl (zG (v := .string (bs p0)) rfl) ?_
  obtain ⟨x640, e641, hF⟩ := zH hF
  refine zA rfl rfl (zT (Do_neqs (s1 := p0) (s2 := []) rfl rfl) (congrArg Value.bool e641)) ?_
  refine yO (b := x640) rfl rfl rfl (fun c642 => ?_) (fun c642 => ?_)
  ·have hF := zW c642 hF
   refine zA rfl rfl (zG (v := .string (bs p0)) rfl) ?_
   obtain ⟨x643, e644, hF⟩ := zH hF
   refine zA rfl rfl (zT (Do_slen (s1 := p0) u9 rfl) (congrArg (Value.int .i64) e644)) ?_
   obtain ⟨x645, e646, hF⟩ := zH hF
   refine zA rfl rfl (zT (Do_leq (a := x643) (b := 30) rfl rfl) (congrArg Value.bool e646)) ?_
   refine zA rfl rfl (yI (v := .bool x645) rfl rfl) ?_
   refine yO (b := x645) rfl rfl rfl (fun c647 => ?_) (fun c647 => ?_)
   ·have hF := zW c647 hF
    refine zA rfl rfl (zG (v := .string (bs p0)) rfl) ?_
    have H648 := H
    obtain ⟨x649, e650, hF⟩ := zJ hF
    refine yJ rfl rfl (yC en62 rfl) (F_ref6_Reserved_w p0 _ e650 _ _ _ (H.enter [] [] (by decide) rfl)) ?_
    rintro _ w651 ⟨rfl, G652⟩
    have H := H648.step (G652.only : Only [] _ _)
    refine ⟨_, rfl, ?_⟩
    obtain ⟨x653, e654, hF⟩ := zH hF
    refine zA rfl rfl (zT (xY (p := x649) rfl) (congrArg Value.bool e654)) ?_
    refine zA rfl rfl (yI (v := .bool x653) rfl rfl) ?_
    refine zA rfl rfl (zF (v := .bool x653) rfl) ?_
    have hR := Option.some.inj hF
    subst hR
    refine (zI (zB (And.intro ?_ ?_)))
    ·repeat' (first | with_reducible exact zN | refine zV rfl ?_ | refine zO rfl rfl ?_)
    exact ⟨(), (zK rfl zQ), H.pick [] (by decide)⟩
   have hF := zX c647 hF
   refine zM rfl rfl ?_
   refine zM rfl rfl ?_
   refine zM rfl rfl ?_
   refine zA rfl rfl (yH (v := .bool false) rfl rfl) ?_
   refine zA rfl rfl (zF (v := .bool false) rfl) ?_
   have hR := Option.some.inj hF
   subst hR
   refine (zI (zB (And.intro ?_ ?_)))
   ·repeat' (first | with_reducible exact zN | refine zV rfl ?_ | refine zO rfl rfl ?_)
   exact ⟨(), (zK rfl zQ), H.pick [] (by decide)⟩
  have hF := zX c642 hF
  refine zM rfl rfl ?_
  refine zM rfl rfl ?_
  refine zM rfl rfl ?_
  refine zA rfl rfl (yH (v := .bool false) rfl rfl) ?_
  refine zA rfl rfl (zG (v := .bool false) rfl) ?_
  refine zM rfl rfl ?_
  refine zM rfl rfl ?_
  refine zM rfl rfl ?_
  refine zA rfl rfl (yH (v := .bool false) rfl rfl) ?_
  refine zA rfl rfl (zF (v := .bool false) rfl) ?_
  have hR := Option.some.inj hF
  subst hR
  refine (zI (zB (And.intro ?_ ?_)))
  ·repeat' (first | with_reducible exact zN | refine zV rfl ?_ | refine zO rfl rfl ?_)
  exact ⟨(), (zK rfl zQ), H.pick [] (by decide)⟩
 rintro _ ρ w638 H
 have hF := hK639
 have hR := Option.some.inj hF
 subst hR
 refine (yG (post1 (v1 := .bool g637) rfl rfl ?_))
 exact ⟨rfl, H.pick [] (by decide)⟩
end Go.Proofs.YtbjhondbheijiaaGreatDoor.L
namespace Go.Proofs.YtbjhondbheijiaaGreatDoor.L
open Go.RowKit Go.OB Go.Lf
/- orangebox/orangeboxref9.outside -/
set_option maxHeartbeats 4000000 in
theorem F_ref9_outside_w (p0 : Int) (p1 : Int) (p2 : Int) (r : Bool) (hF : F_ref9_outside p0 p1 p2 = some r) (O S : List Nat) (w : World) (H : Hd O w w S []) :
  Calls Tryz.prog 23 ([.int .i64 p0, .int .i64 p1, .int .i64 p2] : List Value).toArray w fun e w' => e = .returned (.bool r) ∧ Hd O w w' S [] := by
 unfold F_ref9_outside at hF
 refine yB 15 Tryz.func23 rfl rfl rfl ?_
 refine zD fun K1 hK1 => ?_
 refine zC ?_
 refine zA rfl rfl (zF (v := .bool false) rfl) ?_
 refine (zI (zB (hK1 _ _ ?_)))
 obtain ⟨g7, hF, hK9⟩ := zJ hF
 refine yL [6, 7, 8, 9, 10, 11, 12, 13, 14] (fun (g : Unit) => [(6, .bool g7)]) (fun g wl => Hd O w wl S []) ?_ ?_
 ·skip
  refine zC ?_
  refine zA rfl rfl (zG (v := .int .i64 p0) rfl) ?_
  refine zA rfl rfl (zG (v := .int .i64 p1) rfl) ?_
  obtain ⟨x10, e11, hF⟩ := zH hF
  refine zA rfl rfl (zT (xK (a := p0) (b := p1) rfl rfl) (congrArg Value.bool e11)) ?_
  refine yO (b := x10) rfl rfl rfl (fun c12 => ?_) (fun c12 => ?_)
  ·have hF := zW c12 hF
   refine zM rfl rfl ?_
   refine zM rfl rfl ?_
   refine zM rfl rfl ?_
   refine zA rfl rfl (yI (v := .bool true) rfl rfl) ?_
   refine zA rfl rfl (zF (v := .bool true) rfl) ?_
   have hR := Option.some.inj hF
   subst hR
   refine (zI (zB (And.intro ?_ ?_)))
   ·repeat' (first | with_reducible exact zN | refine zV rfl ?_ | refine zO rfl rfl ?_)
   exact ⟨(), (zK rfl zQ), H.pick [] (by decide)⟩
  have hF := zX c12 hF
  refine zA rfl rfl (zG (v := .int .i64 p0) rfl) ?_
  refine zA rfl rfl (zG (v := .int .i64 p2) rfl) ?_
  obtain ⟨x13, e14, hF⟩ := zH hF
  refine zA rfl rfl (zT (wF (a := p0) (b := p2) rfl rfl) (congrArg Value.bool e14)) ?_
  refine zA rfl rfl (yH (v := .bool x13) rfl rfl) ?_
  refine zA rfl rfl (zF (v := .bool x13) rfl) ?_
  have hR := Option.some.inj hF
  subst hR
  refine (zI (zB (And.intro ?_ ?_)))
  ·repeat' (first | with_reducible exact zN | refine zV rfl ?_ | refine zO rfl rfl ?_)
  exact ⟨(), (zK rfl zQ), H.pick [] (by decide)⟩
 rintro _ ρ w8 H
 have hF := hK9
 have hR := Option.some.inj hF
 subst hR
 refine (yG (post1 (v1 := .bool g7) rfl rfl ?_))
 exact ⟨rfl, H.pick [] (by decide)⟩
end Go.Proofs.YtbjhondbheijiaaGreatDoor.L
namespace Go.Proofs.YtbjhondbheijiaaGreatDoor.L
open Go.RowKit Go.OB Go.Lf
/- orangebox/orangeboxref5.outside -/
set_option maxHeartbeats 4000000 in
theorem F_ref5_outside_w (p0 : Int) (p1 : Int) (p2 : Int) (r : Bool) (hF : F_ref5_outside p0 p1 p2 = some r) (O S : List Nat) (w : World) (H : Hd O w w S []) :
  Calls Tryz.prog 111 ([.int .i64 p0, .int .i64 p1, .int .i64 p2] : List Value).toArray w fun e w' => e = .returned (.bool r) ∧ Hd O w w' S [] := by
 unfold F_ref5_outside at hF
 refine yB 15 Tryz.func111 rfl rfl rfl ?_
 refine zD fun K1 hK1 => ?_
 refine zC ?_
 refine zA rfl rfl (zF (v := .bool false) rfl) ?_
 refine (zI (zB (hK1 _ _ ?_)))
 obtain ⟨g7, hF, hK9⟩ := zJ hF
 refine yL [6, 7, 8, 9, 10, 11, 12, 13, 14] (fun (g : Unit) => [(6, .bool g7)]) (fun g wl => Hd O w wl S []) ?_ ?_
 ·skip
  refine zC ?_
  refine zA rfl rfl (zG (v := .int .i64 p0) rfl) ?_
  refine zA rfl rfl (zG (v := .int .i64 p1) rfl) ?_
  obtain ⟨x10, e11, hF⟩ := zH hF
  refine zA rfl rfl (zT (xK (a := p0) (b := p1) rfl rfl) (congrArg Value.bool e11)) ?_
  refine yO (b := x10) rfl rfl rfl (fun c12 => ?_) (fun c12 => ?_)
  ·have hF := zW c12 hF
   refine zM rfl rfl ?_
   refine zM rfl rfl ?_
   refine zM rfl rfl ?_
   refine zA rfl rfl (yI (v := .bool true) rfl rfl) ?_
   refine zA rfl rfl (zF (v := .bool true) rfl) ?_
   have hR := Option.some.inj hF
   subst hR
   refine (zI (zB (And.intro ?_ ?_)))
   ·repeat' (first | with_reducible exact zN | refine zV rfl ?_ | refine zO rfl rfl ?_)
   exact ⟨(), (zK rfl zQ), H.pick [] (by decide)⟩
  have hF := zX c12 hF
  refine zA rfl rfl (zG (v := .int .i64 p0) rfl) ?_
  refine zA rfl rfl (zG (v := .int .i64 p2) rfl) ?_
  obtain ⟨x13, e14, hF⟩ := zH hF
  refine zA rfl rfl (zT (wF (a := p0) (b := p2) rfl rfl) (congrArg Value.bool e14)) ?_
  refine zA rfl rfl (yH (v := .bool x13) rfl rfl) ?_
  refine zA rfl rfl (zF (v := .bool x13) rfl) ?_
  have hR := Option.some.inj hF
  subst hR
  refine (zI (zB (And.intro ?_ ?_)))
  ·repeat' (first | with_reducible exact zN | refine zV rfl ?_ | refine zO rfl rfl ?_)
  exact ⟨(), (zK rfl zQ), H.pick [] (by decide)⟩
 rintro _ ρ w8 H
 have hF := hK9
 have hR := Option.some.inj hF
 subst hR
 refine (yG (post1 (v1 := .bool g7) rfl rfl ?_))
 exact ⟨rfl, H.pick [] (by decide)⟩
end Go.Proofs.YtbjhondbheijiaaGreatDoor.L
namespace Go.Proofs.YtbjhondbheijiaaGreatDoor.L
open Go.RowKit Go.OB Go.Lf
/- orangebox/orangeboxref5.numbered -/
set_option maxHeartbeats 4000000 in
theorem F_ref5_numbered_w (p0 : Int) (r : Bool) (hF : F_ref5_numbered p0 = some r) (O S : List Nat) (w : World) (H : Hd O w w S []) :
  Calls Tryz.prog 116 ([.int .i64 p0] : List Value).toArray w fun e w' => e = .returned (.bool r) ∧ Hd O w w' S [] := by
 unfold F_ref5_numbered at hF
 refine yB 5 Tryz.func116 rfl rfl rfl ?_
 refine zD fun K1 hK1 => ?_
 refine zC ?_
 refine zA rfl rfl (zF (v := .bool false) rfl) ?_
 refine (zI (zB (hK1 _ _ ?_)))
 refine zD fun K2 hK2 => ?_
 refine zC ?_
 refine zA rfl rfl (zG (v := .int .i64 p0) rfl) ?_
 obtain ⟨x3, e4, hF⟩ := zH hF
 refine zA rfl rfl (zT (Do_geq (a := p0) (b := 2) rfl rfl) (congrArg Value.bool e4)) ?_
 refine zA rfl rfl (zF (v := .bool x3) rfl) ?_
 refine (zI (zB (hK2 _ _ ?_)))
 have hR := Option.some.inj hF
 subst hR
 refine (yG (post1 (v1 := .bool x3) rfl rfl ?_))
 exact ⟨rfl, H.pick [] (by decide)⟩
end Go.Proofs.YtbjhondbheijiaaGreatDoor.L
namespace Go.Proofs.YtbjhondbheijiaaGreatDoor.L
open Go.RowKit Go.OB Go.Lf
/- orangebox/orangeboxref5.sampleFault -/
set_option maxHeartbeats 4000000 in
theorem F_ref5_sampleFault_w (p0 : Sample) (r : Int) (hF : F_ref5_sampleFault p0 = some r) (O S : List Nat) (w : World) (H : Hd O w w S []) :
  Calls Tryz.prog 112 ([.agg [.int .i64 p0.At, .int .i64 p0.N, .int .i64 p0.Mark].toArray] : List Value).toArray w fun e w' => e = .returned (.int .i64 r) ∧ Hd O w w' S [] := by
 unfold F_ref5_sampleFault at hF
 refine yB 25 Tryz.func112 rfl rfl rfl ?_
 refine zD fun K1 hK1 => ?_
 refine zC ?_
 refine xE rfl rfl (Lx_box (cs := [.int .i64 p0.At, .int .i64 p0.N, .int .i64 p0.Mark]) rfl H) ?_
 rintro _ w4 ⟨b2, rfl, H⟩
 refine zA rfl rfl (zF (v := .int .i64 0) rfl) ?_
 refine (zI (zB (hK1 _ _ ?_)))
 refine zD fun K27 hK27 => ?_
 obtain ⟨g45, hF, hK47⟩ := zJ hF
 refine yL [3, 4, 5, 6, 7, 8, 9, 10, 11, 12, 13, 14, 15] (fun (g : Unit) => [(15, .bool g45)]) (fun g wl => Hd O w wl S [.blk b2 [.int .i64 p0.At, .int .i64 p0.N, .int .i64 p0.Mark] 109]) ?_ ?_
 ·skip
  refine zC ?_
  refine zA rfl rfl (fa109_0 rfl) ?_
  refine zA rfl rfl (zU one3 rfl (Cells.get (Blk.cells (H.item (i := 0) rfl)) (i := 0) rfl)) ?_
  have H48 := H
  obtain ⟨x49, e50, hF⟩ := zJ hF
  refine yJ rfl rfl (yC en111 rfl) (F_ref5_outside_w p0.At 0 1099511627776 _ e50 _ _ _ (H.enter [] [] (by decide) rfl)) ?_
  rintro _ w51 ⟨rfl, G52⟩
  have H := H48.step (G52.only : Only [] _ _)
  refine ⟨_, rfl, ?_⟩
  refine yO (b := x49) rfl rfl rfl (fun c53 => ?_) (fun c53 => ?_)
  ·have hF := zW c53 hF
   refine zM rfl rfl ?_
   refine zM rfl rfl ?_
   refine zM rfl rfl ?_
   refine zA rfl rfl (yI (v := .bool true) rfl rfl) ?_
   refine zA rfl rfl (zG (v := .bool true) rfl) ?_
   refine zM rfl rfl ?_
   refine zM rfl rfl ?_
   refine zM rfl rfl ?_
   refine zA rfl rfl (yI (v := .bool true) rfl rfl) ?_
   have hR := Option.some.inj hF
   subst hR
   refine (zI (zB (And.intro ?_ ?_)))
   ·repeat' (first | with_reducible exact zN | refine zV rfl ?_ | refine zO rfl rfl ?_)
   exact ⟨(), (zK rfl zQ), H.pick [0] (by decide)⟩
  have hF := zX c53 hF
  refine zA rfl rfl (fa109_1 rfl) ?_
  refine zA rfl rfl (zU one3 rfl (Cells.get (Blk.cells (H.item (i := 0) rfl)) (i := 1) rfl)) ?_
  have H54 := H
  obtain ⟨x55, e56, hF⟩ := zJ hF
  refine yJ rfl rfl (yC en111 rfl) (F_ref5_outside_w p0.N (-1125899906842624) 1125899906842624 _ e56 _ _ _ (H.enter [] [] (by decide) rfl)) ?_
  rintro _ w57 ⟨rfl, G58⟩
  have H := H54.step (G58.only : Only [] _ _)
  refine ⟨_, rfl, ?_⟩
  refine zA rfl rfl (yH (v := .bool x55) rfl rfl) ?_
  refine yO (b := x55) rfl rfl rfl (fun c59 => ?_) (fun c59 => ?_)
  ·have hF := zW c59 hF
   refine zM rfl rfl ?_
   refine zM rfl rfl ?_
   refine zM rfl rfl ?_
   refine zA rfl rfl (yI (v := .bool true) rfl rfl) ?_
   have hR := Option.some.inj hF
   subst hR
   refine (zI (zB (And.intro ?_ ?_)))
   ·repeat' (first | with_reducible exact zN | refine zV rfl ?_ | refine zO rfl rfl ?_)
   exact ⟨(), (zK rfl zQ), H.pick [0] (by decide)⟩
  have hF := zX c59 hF
  refine zA rfl rfl (fa109_2 rfl) ?_
  refine zA rfl rfl (zU one3 rfl (Cells.get (Blk.cells (H.item (i := 0) rfl)) (i := 2) rfl)) ?_
  have H60 := H
  obtain ⟨x61, e62, hF⟩ := zJ hF
  refine yJ rfl rfl (yC en111 rfl) (F_ref5_outside_w p0.Mark 0 4 _ e62 _ _ _ (H.enter [] [] (by decide) rfl)) ?_
  rintro _ w63 ⟨rfl, G64⟩
  have H := H60.step (G64.only : Only [] _ _)
  refine ⟨_, rfl, ?_⟩
  refine zA rfl rfl (yH (v := .bool x61) rfl rfl) ?_
  have hR := Option.some.inj hF
  subst hR
  refine (zI (zB (And.intro ?_ ?_)))
  ·repeat' (first | with_reducible exact zN | refine zV rfl ?_ | refine zO rfl rfl ?_)
  exact ⟨(), (zK rfl zQ), H.pick [0] (by decide)⟩
 rintro _ ρ w46 H
 have hF := hK47
 refine yF (b := g45) rfl (fun c65 => ?_) (fun c65 => ?_)
 ·have hF := zW c65 hF
  refine zD fun K66 hK66 => ?_
  refine zC ?_
  refine zA rfl rfl (zF (v := .int .i64 9) rfl) ?_
  refine (zI (zB (hK66 _ _ ?_)))
  have hR := Option.some.inj hF
  subst hR
  refine (yG (zZ (post1 (v1 := .int .i64 9) rfl rfl ?_)))
  exact ⟨rfl, H.pick [] (by decide)⟩
 have hF := zX c65 hF
 refine (yA (zB (hK27 _ _ ?_)))
 refine zD fun K82 hK82 => ?_
 obtain ⟨g93, hF, hK95⟩ := zJ hF
 refine yL [16, 17, 18, 19, 20, 21, 22, 23, 24] (fun (g : Unit) => [(24, .bool g93)]) (fun g wl => Hd O w wl S []) ?_ ?_
 ·skip
  refine zC ?_
  refine zA rfl rfl (fa109_1 rfl) ?_
  refine zA rfl rfl (zU one3 rfl (Cells.get (Blk.cells (H.item (i := 0) rfl)) (i := 1) rfl)) ?_
  obtain ⟨x96, e97, hF⟩ := zH hF
  refine zA rfl rfl (zT (Do_neq (a := p0.N) (b := 0) rfl rfl) (congrArg Value.bool e97)) ?_
  refine yO (b := x96) rfl rfl rfl (fun c98 => ?_) (fun c98 => ?_)
  ·have hF := zW c98 hF
   refine zA rfl rfl (fa109_2 rfl) ?_
   refine zA rfl rfl (zU one3 rfl (Cells.get (Blk.cells (H.item (i := 0) rfl)) (i := 2) rfl)) ?_
   have H99 := H
   obtain ⟨x100, e101, hF⟩ := zJ hF
   refine yJ rfl rfl (yC en116 rfl) (F_ref5_numbered_w p0.Mark _ e101 _ _ _ (H.enter [] [] (by decide) rfl)) ?_
   rintro _ w102 ⟨rfl, G103⟩
   have H := H99.step (G103.only : Only [] _ _)
   refine ⟨_, rfl, ?_⟩
   obtain ⟨x104, e105, hF⟩ := zH hF
   refine zA rfl rfl (zT (xY (p := x100) rfl) (congrArg Value.bool e105)) ?_
   refine zA rfl rfl (yI (v := .bool x104) rfl rfl) ?_
   have hR := Option.some.inj hF
   subst hR
   refine (zI (zB (And.intro ?_ ?_)))
   ·repeat' (first | with_reducible exact zN | refine zV rfl ?_ | refine zO rfl rfl ?_)
   exact ⟨(), (zK rfl zQ), H.pick [] (by decide)⟩
  have hF := zX c98 hF
  refine zM rfl rfl ?_
  refine zM rfl rfl ?_
  refine zM rfl rfl ?_
  refine zM rfl rfl ?_
  refine zA rfl rfl (yH (v := .bool false) rfl rfl) ?_
  have hR := Option.some.inj hF
  subst hR
  refine (zI (zB (And.intro ?_ ?_)))
  ·repeat' (first | with_reducible exact zN | refine zV rfl ?_ | refine zO rfl rfl ?_)
  exact ⟨(), (zK rfl zQ), H.pick [] (by decide)⟩
 rintro _ ρ w94 H
 have hF := hK95
 refine yF (b := g93) rfl (fun c106 => ?_) (fun c106 => ?_)
 ·have hF := zW c106 hF
  refine zD fun K107 hK107 => ?_
  refine zC ?_
  refine zA rfl rfl (zF (v := .int .i64 2) rfl) ?_
  refine (zI (zB (hK107 _ _ ?_)))
  have hR := Option.some.inj hF
  subst hR
  refine (yG (zZ (post1 (v1 := .int .i64 2) rfl rfl ?_)))
  exact ⟨rfl, H.pick [] (by decide)⟩
 have hF := zX c106 hF
 refine (yA (zB (hK82 _ _ ?_)))
 refine zD fun K108 hK108 => ?_
 refine zC ?_
 refine zA rfl rfl (zF (v := .int .i64 0) rfl) ?_
 refine (zI (zB (hK108 _ _ ?_)))
 have hR := Option.some.inj hF
 subst hR
 refine (yG (post1 (v1 := .int .i64 0) rfl rfl ?_))
 exact ⟨rfl, H.pick [] (by decide)⟩
end Go.Proofs.YtbjhondbheijiaaGreatDoor.L
namespace Go.Proofs.YtbjhondbheijiaaGreatDoor.L
open Go.RowKit Go.OB Go.Lf
/- orangebox/orangeboxref5.fault -/
set_option maxHeartbeats 4000000 in
theorem F_ref5_fault_w (p0 : Series) (v1 : Value) (r : Int × Int) (hF : F_ref5_fault p0 = some r) (O S : List Nat) (w : World) (H : Hd O w w S [.fz (.sl rSample v1 p0.Samples)]) :
  Calls Tryz.prog 101 ([.agg [.int .i64 p0.Den, v1].toArray] : List Value).toArray w fun e w' => e = .returned (.tuple #[.int .i64 r.1, .int .i64 r.2]) ∧ Hd O w w' S [] := by
 unfold F_ref5_fault at hF
 refine yB 49 Tryz.func101 rfl rfl rfl ?_
 refine zD fun K3 hK3 => ?_
 refine zC ?_
 refine xE rfl rfl (Lx_box (cs := [.int .i64 p0.Den, v1]) rfl H) ?_
 rintro _ w6 ⟨b4, rfl, H⟩
 refine zA rfl rfl (zF (v := .int .i64 0) rfl) ?_
 refine zA rfl rfl (zF (v := .int .i64 0) rfl) ?_
 refine (zI (zB (hK3 _ _ ?_)))
 refine zD fun K15 hK15 => ?_
 refine zD fun K16 hK16 => ?_
 refine zC ?_
 refine zA rfl rfl (fa76_0 rfl) ?_
 refine zA rfl rfl (zU one3 rfl (Cells.get (Blk.cells (H.item (i := 1) rfl)) (i := 0) rfl)) ?_
 have H17 := H
 obtain ⟨x18, e19, hF⟩ := zJ hF
 refine yJ rfl rfl (yC en111 rfl) (F_ref5_outside_w p0.Den 1 1000000 _ e19 _ _ _ (H.enter [] [] (by decide) rfl)) ?_
 rintro _ w20 ⟨rfl, G21⟩
 have H := H17.step (G21.only : Only [] _ _)
 refine ⟨_, rfl, ?_⟩
 refine (zI (zB (hK16 _ _ ?_)))
 refine yF (b := x18) rfl (fun c22 => ?_) (fun c22 => ?_)
 ·have hF := zW c22 hF
  refine zD fun K23 hK23 => ?_
  refine zC ?_
  refine zA rfl rfl (zF (v := .int .i64 (-1)) rfl) ?_
  refine zA rfl rfl (zF (v := .int .i64 9) rfl) ?_
  refine (zI (zB (hK23 _ _ ?_)))
  have hR := Option.some.inj hF
  subst hR
  refine (yG (zZ (post2 (v1 := .int .i64 (-1)) (v2 := .int .i64 9) rfl rfl rfl ?_)))
  exact ⟨rfl, H.pick [] (by decide)⟩
 have hF := zX c22 hF
 refine (yA (zB (hK15 _ _ ?_)))
 refine zD fun K34 hK34 => ?_
 refine zD fun K35 hK35 => ?_
 refine zC ?_
 refine zA rfl rfl (fa76_1 rfl) ?_
 refine zA rfl rfl (zU one74 rfl (Cells.get (Blk.cells (H.item (i := 1) rfl)) (i := 1) rfl)) ?_
 obtain ⟨x36, e37, hF⟩ := zH hF
 obtain ⟨a38, c39, q40⟩ := SlF.len ((H.item (i := 0) rfl))
 refine zA rfl rfl (zT (xI u74 q40) (congrArg (Value.int .i64) e37)) ?_
 obtain ⟨x41, e42, hF⟩ := zH hF
 refine zA rfl rfl (zT (wF (a := x36) (b := 20000) rfl rfl) (congrArg Value.bool e42)) ?_
 refine (zI (zB (hK35 _ _ ?_)))
 refine yF (b := x41) rfl (fun c43 => ?_) (fun c43 => ?_)
 ·have hF := zW c43 hF
  refine zD fun K44 hK44 => ?_
  refine zC ?_
  refine zA rfl rfl (zF (v := .int .i64 (-1)) rfl) ?_
  refine zA rfl rfl (zF (v := .int .i64 3) rfl) ?_
  refine (zI (zB (hK44 _ _ ?_)))
  have hR := Option.some.inj hF
  subst hR
  refine (yG (zZ (post2 (v1 := .int .i64 (-1)) (v2 := .int .i64 3) rfl rfl rfl ?_)))
  exact ⟨rfl, H.pick [] (by decide)⟩
 have hF := zX c43 hF
 refine (yA (zB (hK34 _ _ ?_)))
 obtain ⟨k446, ek447, hF⟩ := xU hF
 refine yL [2, 3, 4, 5, 13, 14, 15, 16, 17, 18, 19, 20, 21, 22, 23, 24, 25, 26, 27, 28, 29, 30, 31, 32, 33, 34, 35, 36, 37, 38, 39, 40, 41, 42, 43, 44, 45, 46, 47, 48] (fun (g : Unit) => []) (fun g wl => Hd O w wl S [] ∧ k446 () = some r) ?_ ?_
 ·skip
  refine zD fun K448 hK448 => ?_
  refine zC ?_
  refine zA rfl rfl (zF (v := .int .i64 0) rfl) ?_
  refine (zI (zB (hK448 _ _ ?_)))
  refine yK ?_
  unfold F_ref5_fault_L1 at hF
  obtain ⟨B843, n844, eB845, hF⟩ := yT hF
  refine xC [2, 3, 4, 5, 13, 14, 15, 16, 17, 18, 19, 20, 21, 22, 23, 24, 25, 26, 27, 28, 29, 30, 31, 32, 33, 34, 35, 36, 37, 38, 39, 40, 41, 42, 43, 44, 45, 46, 47, 48] (fun (g : Nat × Int) => [(4, .int .i64 g.2)]) (fun g wl => Hd O w wl S [.blk b4 [.int .i64 p0.Den, v1] 76, .fz (.sl rSample v1 p0.Samples)] ∧ loopN B843 g.1 g.2 = some r) (fun g => g.1) (n844, 0) (zK rfl zQ) ⟨H.pick [1, 0] (by decide), hF⟩ ?_
  clear H hF
  rintro ⟨n844, g842⟩ ρ w847 ⟨H, hF⟩
  obtain ⟨n848, rfl, hF⟩ := yX hF
  have hF := yY eB845 hF
  refine zD fun K858 hK858 => ?_
  refine zD fun K859 hK859 => ?_
  refine zC ?_
  refine zA rfl rfl (zG (v := .int .i64 g842) rfl) ?_
  refine zA rfl rfl (fa76_1 rfl) ?_
  refine zA rfl rfl (zU one74 rfl (Cells.get (Blk.cells (H.item (i := 0) rfl)) (i := 1) rfl)) ?_
  obtain ⟨x860, e861, hF⟩ := zH hF
  obtain ⟨a862, c863, q864⟩ := SlF.len ((H.item (i := 1) rfl))
  refine zA rfl rfl (zT (xI u74 q864) (congrArg (Value.int .i64) e861)) ?_
  obtain ⟨x865, e866, hF⟩ := zH hF
  refine zA rfl rfl (zT (xK (a := g842) (b := x860) rfl rfl) (congrArg Value.bool e866)) ?_
  refine (zI (zB (hK859 _ _ ?_)))
  refine yF (b := x865) rfl (fun c867 => ?_) (fun c867 => ?_)
  ·have hF := zW c867 hF
   refine (yA (zB (hK858 _ _ ?_)))
   refine zD fun K955 hK955 => ?_
   refine yK ?_
   refine zD fun K979 hK979 => ?_
   refine zD fun K980 hK980 => ?_
   refine zC ?_
   refine zA rfl rfl (fa76_1 rfl) ?_
   refine zA rfl rfl (zU one74 rfl (Cells.get (Blk.cells (H.item (i := 0) rfl)) (i := 1) rfl)) ?_
   refine zA rfl rfl (zG (v := .int .i64 g842) rfl) ?_
   obtain ⟨x981, e982, hF⟩ := zJ hF
   obtain ⟨b983, o984, c985, cs986, q987, h990, h988, h989, h991⟩ := wB (H.item (i := 1) rfl) e982
   obtain rfl := rSample_open h990
   have H := H.fz (.at b983 (o984 + g842.toNat * 3) _) ⟨h988, h989, h991⟩
   refine zA rfl rfl (xG u74 sz109 q987 rfl (yD e982).1 (yD e982).2.1 rfl rfl) ?_
   refine zA rfl rfl (zT (yV (cs := [.int .i64 x981.At, .int .i64 x981.N, .int .i64 x981.Mark]) agg109 rfl sz109 rfl (H.item (i := 2) rfl).2.2) rfl) ?_
   have H993 := H
   obtain ⟨x994, e995, hF⟩ := zJ hF
   refine yJ rfl rfl (yC en112 rfl) (F_ref5_sampleFault_w x981 _ e995 _ _ _ (H.enter [] [] (by decide) rfl)) ?_
   rintro _ w996 ⟨rfl, G997⟩
   have H := H993.step (G997.only : Only [] _ _)
   refine ⟨_, rfl, ?_⟩
   refine zA rfl rfl (zF (v := .int .i64 x994) rfl) ?_
   refine (zI (zB (hK980 _ _ ?_)))
   refine zD fun K998 hK998 => ?_
   refine zC ?_
   refine zA rfl rfl (zG (v := .int .i64 x994) rfl) ?_
   obtain ⟨x999, e1000, hF⟩ := zH hF
   refine zA rfl rfl (zT (Do_neq (a := x994) (b := 0) rfl rfl) (congrArg Value.bool e1000)) ?_
   refine (zI (zB (hK998 _ _ ?_)))
   refine yF (b := x999) rfl (fun c1001 => ?_) (fun c1001 => ?_)
   ·have hF := zW c1001 hF
    refine zD fun K1002 hK1002 => ?_
    refine zC ?_
    refine zA rfl rfl (zG (v := .int .i64 g842) rfl) ?_
    refine zA rfl rfl (zG (v := .int .i64 x994) rfl) ?_
    refine zA rfl rfl (zF (v := .int .i64 g842) rfl) ?_
    refine zA rfl rfl (zF (v := .int .i64 x994) rfl) ?_
    refine (zI (zB (hK1002 _ _ ?_)))
    have hR := Option.some.inj hF
    subst hR
    refine (yG (zZ (yM (zZ (zZ (yM (zZ (post2 (v1 := .int .i64 g842) (v2 := .int .i64 x994) rfl rfl rfl ?_))))))))
    exact ⟨rfl, H.pick [] (by decide)⟩
   have hF := zX c1001 hF
   refine (yA (zB (hK979 _ _ ?_)))
   obtain ⟨g1038, hF, hK1040⟩ := zJ hF
   refine yL [30, 31, 32, 33, 34, 35, 36, 37, 38, 39, 40, 41, 42, 43, 44, 45, 46, 47] (fun (g : Unit) => [(47, .bool g1038)]) (fun g wl => Hd O w wl S [.blk b4 [.int .i64 p0.Den, v1] 76, .fz (.sl rSample v1 p0.Samples)]) ?_ ?_
   ·skip
    have H1041 := H
    have H := H.rebase
    have H1042 := H
    refine WP_mix0 H [0, 1, 2, 3, 4, 5, 6, 7, 8, 9, 10, 11, 12, 13, 14, 15, 16, 17] [.pure, .pure, .pure, .pure, .read, .pure, .pure, .pure, .read, .pure, .read, .pure, .pure, .pure, .pure, .read, .pure, .pure] mixed (by kernel_rfl) (by kernel_rfl) (by kernel_rfl) rfl ?_
    refine Mx.zS rfl rfl rfl (fun w' hw' => zG (v := .int .i64 g842) rfl) ?_
    obtain ⟨x1043, e1044, hF⟩ := zH hF
    refine Mx.zS rfl rfl rfl (fun w' hw' => zT (wF (a := g842) (b := 0) rfl rfl) (congrArg Value.bool e1044)) ?_
    refine Mx.XL_splitb (b := x1043) rfl rfl rfl rfl (fun c1045 => ?_) (fun c1045 => ?_)
    ·have hF := zW c1045 hF
     refine Mx.zS rfl rfl rfl (fun w' hw' => fa76_1 rfl) ?_
     refine Mx.xM oS rfl rfl rfl (fun w' hw' => zU one74 rfl (Cells.get (Blk.cells ((H.sees hw').item (i := 0) rfl)) (i := 1) rfl)) ?_
     refine Mx.zS rfl rfl rfl (fun w' hw' => zG (v := .int .i64 g842) rfl) ?_
     obtain ⟨x1046, e1047, hF⟩ := zJ hF
     obtain ⟨b1048, o1049, c1050, cs1051, q1052, h1055, h1053, h1054, h1056⟩ := wB (H.item (i := 1) rfl) e1047
     obtain rfl := rSample_open h1055
     have H := H.fz (.at b1048 (o1049 + g842.toNat * 3) _) ⟨h1053, h1054, h1056⟩
     refine Mx.zS rfl rfl rfl (fun w' hw' => xG u74 sz109 q1052 rfl (yD e1047).1 (yD e1047).2.1 rfl rfl) ?_
     refine Mx.zS rfl rfl rfl (fun w' hw' => fa109_0 rfl) ?_
     refine Mx.xM oS rfl rfl rfl (fun w' hw' => zU one3 rfl (Cells.get ((H.sees hw').item (i := 3) rfl).2.2 (i := 0) rfl)) ?_
     refine Mx.zS rfl rfl rfl (fun w' hw' => fa76_1 rfl) ?_
     refine Mx.xM oS rfl rfl rfl (fun w' hw' => zU one74 rfl (Cells.get (Blk.cells ((H.sees hw').item (i := 0) rfl)) (i := 1) rfl)) ?_
     refine Mx.zS rfl rfl rfl (fun w' hw' => zG (v := .int .i64 g842) rfl) ?_
     obtain ⟨x1058, e1059, hF⟩ := zH hF
     refine Mx.zS rfl rfl rfl (fun w' hw' => Do_sub (a := g842) (b := 1) rfl rfl e1059) ?_
     obtain ⟨x1060, e1061, hF⟩ := zJ hF
     obtain ⟨b1062, o1063, c1064, cs1065, q1066, h1069, h1067, h1068, h1070⟩ := wB (H.item (i := 1) rfl) e1061
     obtain rfl := rSample_open h1069
     have H := H.fz (.at b1062 (o1063 + x1058.toNat * 3) _) ⟨h1067, h1068, h1070⟩
     refine Mx.zS rfl rfl rfl (fun w' hw' => xG u74 sz109 q1066 rfl (yD e1061).1 (yD e1061).2.1 rfl rfl) ?_
     refine Mx.zS rfl rfl rfl (fun w' hw' => fa109_0 rfl) ?_
     refine Mx.xM oS rfl rfl rfl (fun w' hw' => zU one3 rfl (Cells.get ((H.sees hw').item (i := 4) rfl).2.2 (i := 0) rfl)) ?_
     obtain ⟨x1072, e1073, hF⟩ := zH hF
     refine Mx.zS rfl rfl rfl (fun w' hw' => zT (Do_leq (a := x1046.At) (b := x1060.At) rfl rfl) (congrArg Value.bool e1073)) ?_
     refine Mx.zS rfl rfl rfl (fun w' hw' => yI (v := .bool x1072) rfl rfl) ?_
     refine Mx.wG fun w1074 hS => ?_
     have H := H.sees hS
     have H := H1041.rejoin H
     have hR := Option.some.inj hF
     subst hR
     refine (zB (And.intro ?_ ?_))
     ·repeat' (first | with_reducible exact zN | refine zV rfl ?_ | refine zO rfl rfl ?_)
     exact ⟨(), (zK rfl zQ), H.pick [0, 1] (by decide)⟩
    have hF := zX c1045 hF
    refine Mx.xX rfl rfl rfl ?_
    refine Mx.XL_offr oS rfl rfl rfl ?_
    refine Mx.xX rfl rfl rfl ?_
    refine Mx.xX rfl rfl rfl ?_
    refine Mx.xX rfl rfl rfl ?_
    refine Mx.XL_offr oS rfl rfl rfl ?_
    refine Mx.xX rfl rfl rfl ?_
    refine Mx.XL_offr oS rfl rfl rfl ?_
    refine Mx.xX rfl rfl rfl ?_
    refine Mx.xX rfl rfl rfl ?_
    refine Mx.xX rfl rfl rfl ?_
    refine Mx.xX rfl rfl rfl ?_
    refine Mx.XL_offr oS rfl rfl rfl ?_
    refine Mx.xX rfl rfl rfl ?_
    refine Mx.zS rfl rfl rfl (fun w' hw' => yH (v := .bool false) rfl rfl) ?_
    refine Mx.wG fun w1075 hS => ?_
    have H := H.sees hS
    have H := H1041.rejoin H
    have hR := Option.some.inj hF
    subst hR
    refine (zB (And.intro ?_ ?_))
    ·repeat' (first | with_reducible exact zN | refine zV rfl ?_ | refine zO rfl rfl ?_)
    exact ⟨(), (zK rfl zQ), H.pick [0, 1] (by decide)⟩
   rintro _ ρ w1039 H
   have hF := hK1040
   refine yF (b := g1038) rfl (fun c1076 => ?_) (fun c1076 => ?_)
   ·have hF := zW c1076 hF
    refine zD fun K1077 hK1077 => ?_
    refine zC ?_
    refine zA rfl rfl (zG (v := .int .i64 g842) rfl) ?_
    refine zA rfl rfl (zF (v := .int .i64 g842) rfl) ?_
    refine zA rfl rfl (zF (v := .int .i64 10) rfl) ?_
    refine (zI (zB (hK1077 _ _ ?_)))
    have hR := Option.some.inj hF
    subst hR
    refine (yG (yM (zZ (zZ (yM (zZ (post2 (v1 := .int .i64 g842) (v2 := .int .i64 10) rfl rfl rfl ?_)))))))
    exact ⟨rfl, H.pick [] (by decide)⟩
   have hF := zX c1076 hF
   refine (yA (yU (zB (hK955 _ _ ?_))))
   refine zC ?_
   refine zA rfl rfl (zG (v := .int .i64 g842) rfl) ?_
   obtain ⟨x1078, e1079, hF⟩ := zH hF
   refine zA rfl rfl (xJ (a := g842) (b := 1) rfl rfl e1079) ?_
   refine zA rfl rfl (zF (v := .int .i64 x1078) rfl) ?_
   refine (zI (zB (And.intro ?_ ?_)))
   ·repeat' (first | with_reducible exact zN | refine zV rfl ?_ | refine zO rfl rfl ?_)
   exact ⟨(n848, x1078), (zK rfl zQ), ⟨H.pick [0, 1] (by decide), hF⟩, Nat.lt_succ_self _⟩
  have hF := zX c867 hF
  refine (xB (yN (yN (yR (zB (And.intro ?_ ?_))))))
  ·repeat' (first | with_reducible exact zN | refine zV rfl ?_ | refine zO rfl rfl ?_)
  exact ⟨(), zQ, ⟨H.pick [] (by decide), hF⟩⟩
 rintro _ ρ w445 ⟨H, hF⟩
 have hF := xZ ek447 hF
 refine zD fun K1080 hK1080 => ?_
 refine zC ?_
 refine zA rfl rfl (zF (v := .int .i64 (-1)) rfl) ?_
 refine zA rfl rfl (zF (v := .int .i64 0) rfl) ?_
 refine (zI (zB (hK1080 _ _ ?_)))
 have hR := Option.some.inj hF
 subst hR
 refine (yG (post2 (v1 := .int .i64 (-1)) (v2 := .int .i64 0) rfl rfl rfl ?_))
 exact ⟨rfl, H.pick [] (by decide)⟩
end Go.Proofs.YtbjhondbheijiaaGreatDoor.L
namespace Go.Proofs.YtbjhondbheijiaaGreatDoor.L
open Go.RowKit Go.OB Go.Lf
/- orangebox/orangeboxref5.Check -/
set_option maxHeartbeats 4000000 in
theorem F_ref5_Check_w (p0 : Series) (v1 : Value) (r : Int) (hF : F_ref5_Check p0 = some r) (O S : List Nat) (w : World) (H : Hd O w w S [.fz (.sl rSample v1 p0.Samples)]) :
  Calls Tryz.prog 81 ([.agg [.int .i64 p0.Den, v1].toArray] : List Value).toArray w fun e w' => e = .returned (.int .i64 r) ∧ Hd O w w' S [] := by
 unfold F_ref5_Check at hF
 refine yB 11 Tryz.func81 rfl rfl rfl ?_
 refine zD fun K3 hK3 => ?_
 refine zC ?_
 refine xE rfl rfl (Lx_box (cs := [.int .i64 p0.Den, v1]) rfl H) ?_
 rintro _ w6 ⟨b4, rfl, H⟩
 refine zA rfl rfl (zF (v := .int .i64 0) rfl) ?_
 refine (zI (zB (hK3 _ _ ?_)))
 refine zD fun K7 hK7 => ?_
 refine zC ?_
 refine zA rfl rfl (zT (yV (cs := [.int .i64 p0.Den, v1]) agg76 rfl sz76 rfl (Blk.cells (H.item (i := 1) rfl))) rfl) ?_
 have H8 := H
 obtain ⟨⟨x9, x10⟩, e11, hF⟩ := zJ hF
 refine yJ rfl rfl (yC en101 rfl) (F_ref5_fault_w p0 v1 _ e11 _ _ _ (H.enter [] [0] (by decide) rfl)) ?_
 rintro _ w12 ⟨rfl, G13⟩
 have H := H8.step (G13.only : Only [] _ _)
 refine ⟨_, rfl, ?_⟩
 refine zA rfl rfl (zG (v := .tuple #[.int .i64 x9, .int .i64 x10]) rfl) ?_
 refine zA rfl rfl (yQ (v := .int .i64 x9) rfl rfl) ?_
 refine zA rfl rfl (yQ (v := .int .i64 x10) rfl rfl) ?_
 refine zA rfl rfl (zF (v := .int .i64 x9) rfl) ?_
 refine zA rfl rfl (zF (v := .int .i64 x10) rfl) ?_
 refine (zI (zB (hK7 _ _ ?_)))
 refine zD fun K14 hK14 => ?_
 refine zC ?_
 refine zA rfl rfl (zG (v := .int .i64 x10) rfl) ?_
 refine zA rfl rfl (zF (v := .int .i64 x10) rfl) ?_
 refine (zI (zB (hK14 _ _ ?_)))
 have hR := Option.some.inj hF
 subst hR
 refine (yG (post1 (v1 := .int .i64 x10) rfl rfl ?_))
 exact ⟨rfl, H.pick [] (by decide)⟩
end Go.Proofs.YtbjhondbheijiaaGreatDoor.L
namespace Go.Proofs.YtbjhondbheijiaaGreatDoor.L
open Go.RowKit Go.OB Go.Lf
/- orangebox/orangeboxref6.outside -/
set_option maxHeartbeats 4000000 in
theorem F_ref6_outside_w (p0 : Int) (p1 : Int) (p2 : Int) (r : Bool) (hF : F_ref6_outside p0 p1 p2 = some r) (O S : List Nat) (w : World) (H : Hd O w w S []) :
  Calls Tryz.prog 82 ([.int .i64 p0, .int .i64 p1, .int .i64 p2] : List Value).toArray w fun e w' => e = .returned (.bool r) ∧ Hd O w w' S [] := by
 unfold F_ref6_outside at hF
 refine yB 15 Tryz.func82 rfl rfl rfl ?_
 refine zD fun K1 hK1 => ?_
 refine zC ?_
 refine zA rfl rfl (zF (v := .bool false) rfl) ?_
 refine (zI (zB (hK1 _ _ ?_)))
 obtain ⟨g7, hF, hK9⟩ := zJ hF
 refine yL [6, 7, 8, 9, 10, 11, 12, 13, 14] (fun (g : Unit) => [(6, .bool g7)]) (fun g wl => Hd O w wl S []) ?_ ?_
 ·skip
  refine zC ?_
  refine zA rfl rfl (zG (v := .int .i64 p0) rfl) ?_
  refine zA rfl rfl (zG (v := .int .i64 p1) rfl) ?_
  obtain ⟨x10, e11, hF⟩ := zH hF
  refine zA rfl rfl (zT (xK (a := p0) (b := p1) rfl rfl) (congrArg Value.bool e11)) ?_
  refine yO (b := x10) rfl rfl rfl (fun c12 => ?_) (fun c12 => ?_)
  ·have hF := zW c12 hF
   refine zM rfl rfl ?_
   refine zM rfl rfl ?_
   refine zM rfl rfl ?_
   refine zA rfl rfl (yI (v := .bool true) rfl rfl) ?_
   refine zA rfl rfl (zF (v := .bool true) rfl) ?_
   have hR := Option.some.inj hF
   subst hR
   refine (zI (zB (And.intro ?_ ?_)))
   ·repeat' (first | with_reducible exact zN | refine zV rfl ?_ | refine zO rfl rfl ?_)
   exact ⟨(), (zK rfl zQ), H.pick [] (by decide)⟩
  have hF := zX c12 hF
  refine zA rfl rfl (zG (v := .int .i64 p0) rfl) ?_
  refine zA rfl rfl (zG (v := .int .i64 p2) rfl) ?_
  obtain ⟨x13, e14, hF⟩ := zH hF
  refine zA rfl rfl (zT (wF (a := p0) (b := p2) rfl rfl) (congrArg Value.bool e14)) ?_
  refine zA rfl rfl (yH (v := .bool x13) rfl rfl) ?_
  refine zA rfl rfl (zF (v := .bool x13) rfl) ?_
  have hR := Option.some.inj hF
  subst hR
  refine (zI (zB (And.intro ?_ ?_)))
  ·repeat' (first | with_reducible exact zN | refine zV rfl ?_ | refine zO rfl rfl ?_)
  exact ⟨(), (zK rfl zQ), H.pick [] (by decide)⟩
 rintro _ ρ w8 H
 have hF := hK9
 have hR := Option.some.inj hF
 subst hR
 refine (yG (post1 (v1 := .bool g7) rfl rfl ?_))
 exact ⟨rfl, H.pick [] (by decide)⟩
end Go.Proofs.YtbjhondbheijiaaGreatDoor.L
