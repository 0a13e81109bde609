/- Walks: what each function computes, for every argument; no condition but those that stand in the statements. -/
import Derived.Test.YtbjhondbheijiaaGreatDoorYV0
import Derived.Test.YtbjhondbheijiaaGreatDoorYV7
import Derived.Test.YtbjhondbheijiaaGreatDoorYV5
import Derived.Test.YtbjhondbheijiaaGreatDoorYV3
namespace Go.Proofs.YtbjhondbheijiaaGreatDoor.L
open Go.RowKit Go.OB Go.Lf
/- orangebox/orangeboxref9.told -/
set_option maxHeartbeats 4000000 in
theorem F_ref9_told_w (p0 : Orangeboxref9Wide) (p1 : Int) (r : Ratio × Int) (hF : F_ref9_told p0 p1 = some r) (O S : List Nat) (w : World) (H : Hd O w w S []) :
  Calls Tryz.prog 19 ([.agg [.bool p0.neg, .int .u64 p0.high, .int .u64 p0.low].toArray, .int .u64 p1] : List Value).toArray w fun e w' => e = .returned (.tuple #[.agg [.int .i64 r.1.Num, .int .i64 r.1.Den].toArray, .int .i64 r.2]) ∧ Hd O w w' S [] := by
 unfold F_ref9_told at hF
 refine yB 18 Tryz.func19 rfl rfl rfl ?_
 refine zD fun K1 hK1 => ?_
 refine zC ?_
 refine xE rfl rfl (Lx_box (cs := [.bool p0.neg, .int .u64 p0.high, .int .u64 p0.low]) rfl H) ?_
 rintro _ w4 ⟨b2, rfl, H⟩
 refine xE rfl rfl (xR zero28 H) ?_
 rintro _ w7 ⟨b5, rfl, H⟩
 refine zA rfl rfl (zF (v := .int .i64 0) rfl) ?_
 refine (zI (zB (hK1 _ _ ?_)))
 refine zD fun K8 hK8 => ?_
 refine zC ?_
 refine zA rfl rfl (zT (yV (cs := [.bool p0.neg, .int .u64 p0.high, .int .u64 p0.low]) agg53 rfl sz53 rfl (Blk.cells (H.item (i := 0) rfl))) rfl) ?_
 refine zA rfl rfl (zG (v := .int .u64 p1) rfl) ?_
 have H9 := H
 obtain ⟨⟨x10, x11⟩, e12, hF⟩ := zJ hF
 refine yJ rfl rfl (yC en43 rfl) (F_ref9_ratio_w p0 p1 _ e12 _ _ _ (H.enter [] [] (by decide) rfl)) ?_
 rintro _ w13 ⟨rfl, G14⟩
 have H := H9.step (G14.only : Only [] _ _)
 refine ⟨_, rfl, ?_⟩
 refine zA rfl rfl (zG (v := .tuple #[.agg [.int .i64 x10.Num, .int .i64 x10.Den].toArray, .bool x11]) rfl) ?_
 refine zA rfl rfl (yQ (v := .agg [.int .i64 x10.Num, .int .i64 x10.Den].toArray) rfl rfl) ?_
 refine zA rfl rfl (yQ (v := .bool x11) rfl rfl) ?_
 refine xE rfl rfl (xR zero28 H) ?_
 rintro _ w17 ⟨b15, rfl, H⟩
 refine xO rfl (xA (vs := [.int .i64 x10.Num, .int .i64 x10.Den]) H 2 rfl sz28 rfl rfl rfl ⟨rfl, rfl, trivial⟩ rfl) ?_
 rintro w18 H
 refine zA rfl rfl (zF (v := .bool x11) rfl) ?_
 refine (zI (zB (hK8 _ _ ?_)))
 refine zD fun K25 hK25 => ?_
 refine zD fun K26 hK26 => ?_
 refine zC ?_
 refine zA rfl rfl (zG (v := .bool x11) rfl) ?_
 obtain ⟨x27, e28, hF⟩ := zH hF
 refine zA rfl rfl (zT (xY (p := x11) rfl) (congrArg Value.bool e28)) ?_
 refine (zI (zB (hK26 _ _ ?_)))
 refine yF (b := x27) rfl (fun c29 => ?_) (fun c29 => ?_)
 ·have hF := zW c29 hF
  refine zD fun K30 hK30 => ?_
  refine zC ?_
  refine zA rfl rfl (Do_build (cs := [.int .i64 0, .int .i64 0]) bz28) ?_
  refine xO rfl (xA (vs := [.int .i64 0, .int .i64 0]) H 1 rfl sz28 rfl rfl rfl ⟨rfl, rfl, trivial⟩ rfl) ?_
  rintro w31 H
  refine zA rfl rfl (zF (v := .int .i64 3) rfl) ?_
  refine (zI (zB (hK30 _ _ ?_)))
  have hR := Option.some.inj hF
  subst hR
  refine (yG (zZ (postc1 (v1 := .int .i64 3) rfl rfl (xH agg28 sz28 rfl (Blk.cells (H.item (i := 1) rfl))) rfl ?_)))
  exact ⟨rfl, H.pick [] (by decide)⟩
 have hF := zX c29 hF
 refine (yA (zB (hK25 _ _ ?_)))
 refine zD fun K32 hK32 => ?_
 refine zC ?_
 refine zA rfl rfl (zT (yV (cs := [.int .i64 x10.Num, .int .i64 x10.Den]) agg28 rfl sz28 rfl (Blk.cells (H.item (i := 2) rfl))) rfl) ?_
 refine xO rfl (xA (vs := [.int .i64 x10.Num, .int .i64 x10.Den]) H 1 rfl sz28 rfl rfl rfl ⟨rfl, rfl, trivial⟩ rfl) ?_
 rintro w33 H
 refine zA rfl rfl (zF (v := .int .i64 0) rfl) ?_
 refine (zI (zB (hK32 _ _ ?_)))
 have hR := Option.some.inj hF
 subst hR
 refine (yG (postc1 (v1 := .int .i64 0) rfl rfl (xH agg28 sz28 rfl (Blk.cells (H.item (i := 1) rfl))) rfl ?_))
 exact ⟨rfl, H.pick [] (by decide)⟩
end Go.Proofs.YtbjhondbheijiaaGreatDoor.L
namespace Go.Proofs.YtbjhondbheijiaaGreatDoor.L
open Go.RowKit Go.OB Go.Lf
/- orangebox/orangeboxref9.Apart -/
set_option maxHeartbeats 4000000 in
theorem F_ref9_Apart_w (p0 : List Flight) (p1 : List Flight) (p2 : Mask) (p3 : Str) (v1 : Value) (v3 : Value) (v5 : Value) (v6 : Value) (r : Ratio × Int) (hF : F_ref9_Apart p0 p1 p2 p3 = some r) (O S : List Nat) (w : World) (H : Hd O w w S [.fz (.sl rFlight v1 p0), .fz (.sl rFlight v3 p1), .fz (.sl Rp.str v5 p2.Hide), .fz (.sl rGrain v6 p2.Grains)]) :
  Calls Tryz.prog 5 ([v1, v3, .agg [.bool p2.Tails, .int .i64 p2.Days, v5, v6, .int .i64 p2.Least].toArray, .string (bs p3)] : List Value).toArray w fun e w' => e = .returned (.tuple #[.agg [.int .i64 r.1.Num, .int .i64 r.1.Den].toArray, .int .i64 r.2]) ∧ Hd O w w' S [] := by
 unfold F_ref9_Apart at hF
 refine yB 94 Tryz.func5 rfl rfl rfl ?_
 refine zD fun K9 hK9 => ?_
 refine zC ?_
 refine xE rfl rfl (Lx_box (cs := [.bool p2.Tails, .int .i64 p2.Days, v5, v6, .int .i64 p2.Least]) rfl H) ?_
 rintro _ w12 ⟨b10, rfl, H⟩
 refine xE rfl rfl (xR zero28 H) ?_
 rintro _ w15 ⟨b13, rfl, H⟩
 refine zA rfl rfl (zF (v := .int .i64 0) rfl) ?_
 refine (zI (zB (hK9 _ _ ?_)))
 refine zD fun K28 hK28 => ?_
 refine zD fun K29 hK29 => ?_
 refine zC ?_
 refine zA rfl rfl (zG (v := v1) rfl) ?_
 have H30 := H
 obtain ⟨x31, e32, hF⟩ := zJ hF
 refine yJ rfl rfl (yC en13 rfl) (F_ref9_listFault_w p0 v1 _ e32 _ _ _ (H.enter [] [0] (by decide) rfl)) ?_
 rintro _ w33 ⟨rfl, G34⟩
 have H := H30.step (G34.only : Only [] _ _)
 refine ⟨_, rfl, ?_⟩
 refine zA rfl rfl (zF (v := .int .i64 x31) rfl) ?_
 refine (zI (zB (hK29 _ _ ?_)))
 refine zD fun K35 hK35 => ?_
 refine zC ?_
 refine zA rfl rfl (zG (v := .int .i64 x31) rfl) ?_
 obtain ⟨x36, e37, hF⟩ := zH hF
 refine zA rfl rfl (zT (Do_neq (a := x31) (b := 0) rfl rfl) (congrArg Value.bool e37)) ?_
 refine (zI (zB (hK35 _ _ ?_)))
 refine yF (b := x36) rfl (fun c38 => ?_) (fun c38 => ?_)
 ·have hF := zW c38 hF
  refine zD fun K39 hK39 => ?_
  refine zC ?_
  refine zA rfl rfl (Do_build (cs := [.int .i64 0, .int .i64 0]) bz28) ?_
  refine zA rfl rfl (zG (v := .int .i64 x31) rfl) ?_
  refine xO rfl (xA (vs := [.int .i64 0, .int .i64 0]) H 5 rfl sz28 rfl rfl rfl ⟨rfl, rfl, trivial⟩ rfl) ?_
  rintro w40 H
  refine zA rfl rfl (zF (v := .int .i64 x31) rfl) ?_
  refine (zI (zB (hK39 _ _ ?_)))
  have hR := Option.some.inj hF
  subst hR
  refine (yG (zZ (postc1 (v1 := .int .i64 x31) rfl rfl (xH agg28 sz28 rfl (Blk.cells (H.item (i := 5) rfl))) rfl ?_)))
  exact ⟨rfl, H.pick [] (by decide)⟩
 have hF := zX c38 hF
 refine (yA (zB (hK28 _ _ ?_)))
 refine zD fun K53 hK53 => ?_
 refine zD fun K54 hK54 => ?_
 refine zC ?_
 refine zA rfl rfl (zG (v := v3) rfl) ?_
 refine zA rfl rfl (zT (yV (cs := [.bool p2.Tails, .int .i64 p2.Days, v5, v6, .int .i64 p2.Least]) agg26 rfl sz26 rfl (Blk.cells (H.item (i := 4) rfl))) rfl) ?_
 refine zA rfl rfl (zG (v := .string (bs p3)) rfl) ?_
 have H55 := H
 obtain ⟨x56, e57, hF⟩ := zJ hF
 refine yJ rfl rfl (yC en14 rfl) (F_ref9_peaksFault_w p1 p2 p3 v3 v5 v6 _ e57 _ _ _ (H.enter [] [1, 2, 3] (by decide) rfl)) ?_
 rintro _ w58 ⟨rfl, G59⟩
 have H := H55.step (G59.only : Only [] _ _)
 refine ⟨_, rfl, ?_⟩
 refine zA rfl rfl (zF (v := .int .i64 x56) rfl) ?_
 refine (zI (zB (hK54 _ _ ?_)))
 refine zD fun K60 hK60 => ?_
 refine zC ?_
 refine zA rfl rfl (zG (v := .int .i64 x56) rfl) ?_
 obtain ⟨x61, e62, hF⟩ := zH hF
 refine zA rfl rfl (zT (Do_neq (a := x56) (b := 0) rfl rfl) (congrArg Value.bool e62)) ?_
 refine (zI (zB (hK60 _ _ ?_)))
 refine yF (b := x61) rfl (fun c63 => ?_) (fun c63 => ?_)
 ·have hF := zW c63 hF
  refine zD fun K64 hK64 => ?_
  refine zC ?_
  refine zA rfl rfl (Do_build (cs := [.int .i64 0, .int .i64 0]) bz28) ?_
  refine zA rfl rfl (zG (v := .int .i64 x56) rfl) ?_
  refine xO rfl (xA (vs := [.int .i64 0, .int .i64 0]) H 5 rfl sz28 rfl rfl rfl ⟨rfl, rfl, trivial⟩ rfl) ?_
  rintro w65 H
  refine zA rfl rfl (zF (v := .int .i64 x56) rfl) ?_
  refine (zI (zB (hK64 _ _ ?_)))
  have hR := Option.some.inj hF
  subst hR
  refine (yG (zZ (postc1 (v1 := .int .i64 x56) rfl rfl (xH agg28 sz28 rfl (Blk.cells (H.item (i := 5) rfl))) rfl ?_)))
  exact ⟨rfl, H.pick [] (by decide)⟩
 have hF := zX c63 hF
 refine (yA (zB (hK53 _ _ ?_)))
 refine zD fun K66 hK66 => ?_
 refine zC ?_
 refine zA rfl rfl (zG (v := v1) rfl) ?_
 refine zA rfl rfl (zT (yV (cs := [.bool p2.Tails, .int .i64 p2.Days, v5, v6, .int .i64 p2.Least]) agg26 rfl sz26 rfl (Blk.cells (H.item (i := 4) rfl))) rfl) ?_
 refine zA rfl rfl (zG (v := .string (bs p3)) rfl) ?_
 obtain ⟨⟨x67, x68, x69, x70⟩, e71, hF⟩ := zJ hF
 refine yJ rfl rfl (yC en15 rfl) (F_ref9_peaks_w p0 p2 p3 v1 v5 v6 _ e71 _ _ _ (H.enter [] [0, 2, 3] (by decide) rfl)) ?_
 rintro _ w76 ⟨v72, v74, rfl, G77⟩
 have H := H.back1 [0, 2, 3] rfl G77
 refine ⟨_, rfl, ?_⟩
 refine zA rfl rfl (zG (v := .tuple #[v72, v74, .int .i64 x69, .int .i64 x70]) rfl) ?_
 refine zA rfl rfl (yQ (v := v72) rfl rfl) ?_
 refine zA rfl rfl (yQ (v := v74) rfl rfl) ?_
 refine zA rfl rfl (yQ (v := .int .i64 x69) rfl rfl) ?_
 refine zA rfl rfl (yQ (v := .int .i64 x70) rfl rfl) ?_
 refine zA rfl rfl (zF (v := v72) rfl) ?_
 refine zA rfl rfl (zF (v := v74) rfl) ?_
 refine zA rfl rfl (zF (v := .int .i64 x69) rfl) ?_
 refine zA rfl rfl (zF (v := .int .i64 x70) rfl) ?_
 refine (zI (zB (hK66 _ _ ?_)))
 refine zD fun K78 hK78 => ?_
 refine zC ?_
 refine zA rfl rfl (zG (v := v3) rfl) ?_
 refine zA rfl rfl (zT (yV (cs := [.bool p2.Tails, .int .i64 p2.Days, v5, v6, .int .i64 p2.Least]) agg26 rfl sz26 rfl (Blk.cells (H.item (i := 4) rfl))) rfl) ?_
 refine zA rfl rfl (zG (v := .string (bs p3)) rfl) ?_
 obtain ⟨⟨x79, x80, x81, x82⟩, e83, hF⟩ := zJ hF
 refine yJ rfl rfl (yC en15 rfl) (F_ref9_peaks_w p1 p2 p3 v3 v5 v6 _ e83 _ _ _ (H.enter [] [1, 2, 3] (by decide) rfl)) ?_
 rintro _ w88 ⟨v84, v86, rfl, G89⟩
 have H := H.back1 [1, 2, 3] rfl G89
 refine ⟨_, rfl, ?_⟩
 refine zA rfl rfl (zG (v := .tuple #[v84, v86, .int .i64 x81, .int .i64 x82]) rfl) ?_
 refine zA rfl rfl (yQ (v := v84) rfl rfl) ?_
 refine zA rfl rfl (yQ (v := v86) rfl rfl) ?_
 refine zA rfl rfl (yQ (v := .int .i64 x81) rfl rfl) ?_
 refine zA rfl rfl (yQ (v := .int .i64 x82) rfl rfl) ?_
 refine zA rfl rfl (zF (v := v84) rfl) ?_
 refine zA rfl rfl (zF (v := v86) rfl) ?_
 refine zA rfl rfl (zF (v := .int .i64 x81) rfl) ?_
 refine zA rfl rfl (zF (v := .int .i64 x82) rfl) ?_
 refine (zI (zB (hK78 _ _ ?_)))
 refine zD fun K101 hK101 => ?_
 obtain ⟨g107, hF, hK109⟩ := zJ hF
 refine yL [53, 54, 55, 56, 57, 58] (fun (g : Unit) => [(58, .bool g107)]) (fun g wl => Hd O w wl S [.blk b13 [.int .i64 0, .int .i64 0] 28, .own (Rp.int .i64) v72 3 x67, .own (Rp.int .i64) v84 3 x79]) ?_ ?_
 ·skip
  refine zC ?_
  refine zA rfl rfl (zG (v := .int .i64 x70) rfl) ?_
  obtain ⟨x110, e111, hF⟩ := zH hF
  refine zA rfl rfl (zT (Do_eql (a := x70) (b := 4) rfl rfl) (congrArg Value.bool e111)) ?_
  refine yO (b := x110) rfl rfl rfl (fun c112 => ?_) (fun c112 => ?_)
  ·have hF := zW c112 hF
   refine zM rfl rfl ?_
   refine zM rfl rfl ?_
   refine zA rfl rfl (yI (v := .bool true) rfl rfl) ?_
   have hR := Option.some.inj hF
   subst hR
   refine (zI (zB (And.intro ?_ ?_)))
   ·repeat' (first | with_reducible exact zN | refine zV rfl ?_ | refine zO rfl rfl ?_)
   exact ⟨(), (zK rfl zQ), H.pick [5, 6, 8] (by decide)⟩
  have hF := zX c112 hF
  refine zA rfl rfl (zG (v := .int .i64 x82) rfl) ?_
  obtain ⟨x113, e114, hF⟩ := zH hF
  refine zA rfl rfl (zT (Do_eql (a := x82) (b := 4) rfl rfl) (congrArg Value.bool e114)) ?_
  refine zA rfl rfl (yH (v := .bool x113) rfl rfl) ?_
  have hR := Option.some.inj hF
  subst hR
  refine (zI (zB (And.intro ?_ ?_)))
  ·repeat' (first | with_reducible exact zN | refine zV rfl ?_ | refine zO rfl rfl ?_)
  exact ⟨(), (zK rfl zQ), H.pick [5, 6, 8] (by decide)⟩
 rintro _ ρ w108 H
 have hF := hK109
 refine yF (b := g107) rfl (fun c115 => ?_) (fun c115 => ?_)
 ·have hF := zW c115 hF
  refine zD fun K116 hK116 => ?_
  refine zC ?_
  refine zA rfl rfl (Do_build (cs := [.int .i64 0, .int .i64 0]) bz28) ?_
  refine xO rfl (xA (vs := [.int .i64 0, .int .i64 0]) H 0 rfl sz28 rfl rfl rfl ⟨rfl, rfl, trivial⟩ rfl) ?_
  rintro w117 H
  refine zA rfl rfl (zF (v := .int .i64 4) rfl) ?_
  refine (zI (zB (hK116 _ _ ?_)))
  have hR := Option.some.inj hF
  subst hR
  refine (yG (zZ (postc1 (v1 := .int .i64 4) rfl rfl (xH agg28 sz28 rfl (Blk.cells (H.item (i := 0) rfl))) rfl ?_)))
  exact ⟨rfl, H.pick [] (by decide)⟩
 have hF := zX c115 hF
 refine (yA (zB (hK101 _ _ ?_)))
 refine zD fun K132 hK132 => ?_
 obtain ⟨g141, hF, hK143⟩ := zJ hF
 refine yL [60, 61, 62, 63, 64, 65, 66, 67, 68, 69, 70] (fun (g : Unit) => [(70, .bool g141)]) (fun g wl => Hd O w wl S [.blk b13 [.int .i64 0, .int .i64 0] 28, .own (Rp.int .i64) v72 3 x67, .own (Rp.int .i64) v84 3 x79]) ?_ ?_
 ·skip
  refine zC ?_
  refine zA rfl rfl (zG (v := .int .i64 x70) rfl) ?_
  obtain ⟨x144, e145, hF⟩ := zH hF
  refine zA rfl rfl (zT (Do_neq (a := x70) (b := 0) rfl rfl) (congrArg Value.bool e145)) ?_
  refine yO (b := x144) rfl rfl rfl (fun c146 => ?_) (fun c146 => ?_)
  ·have hF := zW c146 hF
   refine zM rfl rfl ?_
   refine zM rfl rfl ?_
   refine zA rfl rfl (yI (v := .bool true) rfl rfl) ?_
   refine zA rfl rfl (zG (v := .bool true) rfl) ?_
   refine zM rfl rfl ?_
   refine zM rfl rfl ?_
   refine zM rfl rfl ?_
   refine zA rfl rfl (yI (v := .bool true) rfl rfl) ?_
   have hR := Option.some.inj hF
   subst hR
   refine (zI (zB (And.intro ?_ ?_)))
   ·repeat' (first | with_reducible exact zN | refine zV rfl ?_ | refine zO rfl rfl ?_)
   exact ⟨(), (zK rfl zQ), H.pick [0, 1, 2] (by decide)⟩
  have hF := zX c146 hF
  refine zA rfl rfl (zG (v := .int .i64 x82) rfl) ?_
  obtain ⟨x147, e148, hF⟩ := zH hF
  refine zA rfl rfl (zT (Do_neq (a := x82) (b := 0) rfl rfl) (congrArg Value.bool e148)) ?_
  refine zA rfl rfl (yH (v := .bool x147) rfl rfl) ?_
  refine yO (b := x147) rfl rfl rfl (fun c149 => ?_) (fun c149 => ?_)
  ·have hF := zW c149 hF
   refine zM rfl rfl ?_
   refine zM rfl rfl ?_
   refine zM rfl rfl ?_
   refine zA rfl rfl (yI (v := .bool true) rfl rfl) ?_
   have hR := Option.some.inj hF
   subst hR
   refine (zI (zB (And.intro ?_ ?_)))
   ·repeat' (first | with_reducible exact zN | refine zV rfl ?_ | refine zO rfl rfl ?_)
   exact ⟨(), (zK rfl zQ), H.pick [0, 1, 2] (by decide)⟩
  have hF := zX c149 hF
  refine zA rfl rfl (zG (v := .int .i64 x69) rfl) ?_
  refine zA rfl rfl (zG (v := .int .i64 x81) rfl) ?_
  obtain ⟨x150, e151, hF⟩ := zH hF
  refine zA rfl rfl (zT (Do_neq (a := x69) (b := x81) rfl rfl) (congrArg Value.bool e151)) ?_
  refine zA rfl rfl (yH (v := .bool x150) rfl rfl) ?_
  have hR := Option.some.inj hF
  subst hR
  refine (zI (zB (And.intro ?_ ?_)))
  ·repeat' (first | with_reducible exact zN | refine zV rfl ?_ | refine zO rfl rfl ?_)
  exact ⟨(), (zK rfl zQ), H.pick [0, 1, 2] (by decide)⟩
 rintro _ ρ w142 H
 have hF := hK143
 refine yF (b := g141) rfl (fun c152 => ?_) (fun c152 => ?_)
 ·have hF := zW c152 hF
  refine zD fun K153 hK153 => ?_
  refine zC ?_
  refine zA rfl rfl (Do_build (cs := [.int .i64 0, .int .i64 0]) bz28) ?_
  refine xO rfl (xA (vs := [.int .i64 0, .int .i64 0]) H 0 rfl sz28 rfl rfl rfl ⟨rfl, rfl, trivial⟩ rfl) ?_
  rintro w154 H
  refine zA rfl rfl (zF (v := .int .i64 2) rfl) ?_
  refine (zI (zB (hK153 _ _ ?_)))
  have hR := Option.some.inj hF
  subst hR
  refine (yG (zZ (postc1 (v1 := .int .i64 2) rfl rfl (xH agg28 sz28 rfl (Blk.cells (H.item (i := 0) rfl))) rfl ?_)))
  exact ⟨rfl, H.pick [] (by decide)⟩
 have hF := zX c152 hF
 refine (yA (zB (hK132 _ _ ?_)))
 refine zD fun K155 hK155 => ?_
 refine zC ?_
 refine zA rfl rfl (zG (v := v72) rfl) ?_
 have H156 := H
 have H := H.freeze (i := 1) rfl
 obtain ⟨x157, e158, hF⟩ := zJ hF
 refine yJ rfl rfl (yC en18 rfl) (F_ref9_sum_w x67 v72 _ e158 _ _ _ (H.enter [] [1] (by decide) rfl)) ?_
 rintro _ w159 ⟨rfl, G160⟩
 have H := H156.step (G160.only : Only [] _ _)
 refine ⟨_, rfl, ?_⟩
 refine zA rfl rfl (zG (v := v84) rfl) ?_
 obtain ⟨x161, e162, hF⟩ := zH hF
 obtain ⟨a163, c164, q165⟩ := Sr.len (Sr.of_own (H.item (i := 2) rfl))
 refine zA rfl rfl (zT (xI u33 q165) (congrArg (Value.int .i64) e162)) ?_
 have H166 := H
 obtain ⟨x167, e168, hF⟩ := zJ hF
 refine yJ rfl rfl (yC en17 rfl) (F_ref9_times_w x157 x161 _ e168 _ _ _ (H.enter [] [] (by decide) rfl)) ?_
 rintro _ w169 ⟨rfl, G170⟩
 have H := H166.step (G170.only : Only [] _ _)
 refine ⟨_, rfl, ?_⟩
 refine zA rfl rfl (zG (v := v84) rfl) ?_
 have H171 := H
 have H := H.freeze (i := 2) rfl
 obtain ⟨x172, e173, hF⟩ := zJ hF
 refine yJ rfl rfl (yC en18 rfl) (F_ref9_sum_w x79 v84 _ e173 _ _ _ (H.enter [] [2] (by decide) rfl)) ?_
 rintro _ w174 ⟨rfl, G175⟩
 have H := H171.step (G175.only : Only [] _ _)
 refine ⟨_, rfl, ?_⟩
 obtain ⟨x176, e177, hF⟩ := zH hF
 refine zA rfl rfl (Do_neg (a := x172) rfl e177) ?_
 refine zA rfl rfl (zG (v := v72) rfl) ?_
 obtain ⟨x178, e179, hF⟩ := zH hF
 obtain ⟨a180, c181, q182⟩ := Sr.len (Sr.of_own (H.item (i := 1) rfl))
 refine zA rfl rfl (zT (xI u33 q182) (congrArg (Value.int .i64) e179)) ?_
 have H183 := H
 obtain ⟨x184, e185, hF⟩ := zJ hF
 refine yJ rfl rfl (yC en17 rfl) (F_ref9_times_w x176 x178 _ e185 _ _ _ (H.enter [] [] (by decide) rfl)) ?_
 rintro _ w186 ⟨rfl, G187⟩
 have H := H183.step (G187.only : Only [] _ _)
 refine ⟨_, rfl, ?_⟩
 have H188 := H
 obtain ⟨x189, e190, hF⟩ := zJ hF
 refine yJ rfl rfl (yC en16 rfl) (F_ref9_plus_w x167 x184 _ e190 _ _ _ (H.enter [] [] (by decide) rfl)) ?_
 rintro _ w191 ⟨rfl, G192⟩
 have H := H188.step (G192.only : Only [] _ _)
 refine ⟨_, rfl, ?_⟩
 refine xE rfl rfl (xR zero53 H) ?_
 rintro _ w195 ⟨b193, rfl, H⟩
 refine xO rfl (xA (vs := [.bool x189.neg, .int .u64 x189.high, .int .u64 x189.low]) H 3 rfl sz53 rfl rfl rfl ⟨rfl, rfl, rfl, trivial⟩ rfl) ?_
 rintro w196 H
 refine (zI (zB (hK155 _ _ ?_)))
 refine zD fun K197 hK197 => ?_
 refine zC ?_
 refine zA rfl rfl (zT (yV (cs := [.bool x189.neg, .int .u64 x189.high, .int .u64 x189.low]) agg53 rfl sz53 rfl (Blk.cells (H.item (i := 3) rfl))) rfl) ?_
 refine zA rfl rfl (zG (v := v72) rfl) ?_
 obtain ⟨x198, e199, hF⟩ := zH hF
 obtain ⟨a200, c201, q202⟩ := Sr.len (Sr.of_own (H.item (i := 1) rfl))
 refine zA rfl rfl (zT (xI u33 q202) (congrArg (Value.int .i64) e199)) ?_
 refine zA rfl rfl (zG (v := v84) rfl) ?_
 obtain ⟨x203, e204, hF⟩ := zH hF
 obtain ⟨a205, c206, q207⟩ := Sr.len (Sr.of_own (H.item (i := 2) rfl))
 refine zA rfl rfl (zT (xI u33 q207) (congrArg (Value.int .i64) e204)) ?_
 obtain ⟨x208, e209, hF⟩ := zH hF
 refine zA rfl rfl (Do_mul (a := x198) (b := x203) rfl rfl e209) ?_
 obtain ⟨x210, e211, hF⟩ := zH hF
 refine zA rfl rfl (Do_conv u3 u51 rfl e211) ?_
 have H212 := H
 obtain ⟨⟨x213, x214⟩, e215, hF⟩ := zJ hF
 refine yJ rfl rfl (yC en19 rfl) (F_ref9_told_w x189 x210 _ e215 _ _ _ (H.enter [] [] (by decide) rfl)) ?_
 rintro _ w216 ⟨rfl, G217⟩
 have H := H212.step (G217.only : Only [] _ _)
 refine ⟨_, rfl, ?_⟩
 refine zA rfl rfl (yQ (v := .agg [.int .i64 x213.Num, .int .i64 x213.Den].toArray) rfl rfl) ?_
 refine zA rfl rfl (yQ (v := .int .i64 x214) rfl rfl) ?_
 refine xO rfl (xA (vs := [.int .i64 x213.Num, .int .i64 x213.Den]) H 0 rfl sz28 rfl rfl rfl ⟨rfl, rfl, trivial⟩ rfl) ?_
 rintro w218 H
 refine zA rfl rfl (zF (v := .int .i64 x214) rfl) ?_
 refine (zI (zB (hK197 _ _ ?_)))
 have hR := Option.some.inj hF
 subst hR
 refine (yG (postc1 (v1 := .int .i64 x214) rfl rfl (xH agg28 sz28 rfl (Blk.cells (H.item (i := 0) rfl))) rfl ?_))
 exact ⟨rfl, H.pick [] (by decide)⟩
end Go.Proofs.YtbjhondbheijiaaGreatDoor.L
namespace Go.Proofs.YtbjhondbheijiaaGreatDoor.L
open Go.RowKit Go.OB Go.Lf
/- slices.Clone[[]int,int] -/
set_option maxHeartbeats 4000000 in
theorem F_slices_Clone___int_int__w (p0 : List Int) (v1 : Value) (r : (List Int)) (hF : F_slices_Clone___int_int_ p0 = some r) (O S : List Nat) (w : World) (H : Hd O w w S [.fz (.sl (Rp.int .i64) v1 p0)]) :
  Calls Tryz.prog 47 ([v1] : List Value).toArray w fun e w' => ∃ u3, e = .returned (u3) ∧ Hd O w w' S [.own (Rp.int .i64) u3 3 r] := by
 unfold F_slices_Clone___int_int_ at hF
 refine yB 8 Tryz.func47 rfl rfl rfl ?_
 refine zD fun K4 hK4 => ?_
 refine zC ?_
 refine zA rfl rfl (zF (v := .slice none 0 0) rfl) ?_
 refine (zI (zB (hK4 _ _ ?_)))
 refine zD fun K13 hK13 => ?_
 refine zD fun K14 hK14 => ?_
 refine zC ?_
 refine zA rfl rfl (zG (v := v1) rfl) ?_
 obtain ⟨a15, c16, q17, e190⟩ := slf_nilq (H.item (i := 0) rfl)
 obtain ⟨x18, e19, hF⟩ := nilO_some hF e190
 refine zA rfl rfl (zT (Do_eqlnils u33 q17 rfl) (congrArg Value.bool e19)) ?_
 refine (zI (zB (hK14 _ _ ?_)))
 refine yF (b := x18) rfl (fun c20 => ?_) (fun c20 => ?_)
 ·have hF := zW c20 hF
  refine zD fun K21 hK21 => ?_
  refine zC ?_
  refine zA rfl rfl (zF (v := .slice none 0 0) rfl) ?_
  refine (zI (zB (hK21 _ _ ?_)))
  have H := own_nil H (Rp.int .i64) 3
  have hR := Option.some.inj hF
  subst hR
  refine (yG (zZ (post1 (v1 := .slice none 0 0) rfl rfl ?_)))
  exact ⟨.slice none 0 0, rfl, H.pick [1] (by decide)⟩
 have hF := zX c20 hF
 refine (yA (zB (hK13 _ _ ?_)))
 refine zD fun K23 hK23 => ?_
 refine zC ?_
 refine xE rfl rfl (Lx_bs0 (r := (Rp.int .i64)) u33 el3 H) ?_
 rintro v25 w26 H
 refine zA rfl rfl (zG (v := v1) rfl) ?_
 obtain ⟨x27, e28, hF⟩ := zJ hF
 refine xE rfl rfl (Lx_app H (i := 1) rfl u33 el3 rfl rfl (Sr.of_rd (H.item (i := 0) rfl)) e28) ?_
 rintro v29 w30 H
 refine zA rfl rfl (zF (v := v29) rfl) ?_
 refine (zI (zB (hK23 _ _ ?_)))
 have hR := Option.some.inj hF
 subst hR
 refine (yG (post1 (v1 := v29) rfl rfl ?_))
 exact ⟨v29, rfl, H.pick [1] (by decide)⟩
end Go.Proofs.YtbjhondbheijiaaGreatDoor.L
namespace Go.Proofs.YtbjhondbheijiaaGreatDoor.L
open Go.RowKit Go.OB Go.Lf
/- orangebox/fleet.quantile -/
set_option maxHeartbeats 4000000 in
theorem F_fleet_quantile_w (p0 : List Int) (p1 : Int) (p2 : Int) (v1 : Value) (r : Int) (hF : F_fleet_quantile p0 p1 p2 = some r) (O S : List Nat) (w : World) (H : Hd O w w S [.fz (.sl (Rp.int .i64) v1 p0)]) :
  Calls Tryz.prog 22 ([v1, .int .i64 p1, .int .i64 p2] : List Value).toArray w fun e w' => e = .returned (.int .i64 r) ∧ Hd O w w' S [] := by
 unfold F_fleet_quantile at hF
 refine yB 27 Tryz.func22 rfl rfl rfl ?_
 refine zD fun K3 hK3 => ?_
 refine zC ?_
 refine zA rfl rfl (zF (v := .int .i64 0) rfl) ?_
 refine (zI (zB (hK3 _ _ ?_)))
 refine zD fun K4 hK4 => ?_
 refine zC ?_
 refine zA rfl rfl (zG (v := v1) rfl) ?_
 obtain ⟨x5, e6, hF⟩ := zJ hF
 refine yJ rfl rfl (yC en47 rfl) (F_slices_Clone___int_int__w p0 v1 _ e6 _ _ _ (H.enter [] [0] (by decide) rfl)) ?_
 rintro _ w9 ⟨v7, rfl, G10⟩
 have H := H.back1 [0] rfl G10
 refine ⟨_, rfl, ?_⟩
 refine zA rfl rfl (zF (v := v7) rfl) ?_
 refine (zI (zB (hK4 _ _ ?_)))
 refine zD fun K11 hK11 => ?_
 refine zC ?_
 refine zA rfl rfl (zG (v := v7) rfl) ?_
 obtain ⟨x12, e13, hF⟩ := zJ hF
 refine yJ rfl rfl (yC en48 rfl) (E.X_Sort_w x5 v7 _ e13 _ _ _ (H.enter [1] [] (by decide) rfl)) ?_
 rintro _ w14 ⟨rfl, G15⟩
 have H : Hd O _ w14 _ [.fz (.sl (Rp.int .i64) v1 p0), .own (Rp.int .i64) v7 3 x12] := H.back [1] [] rfl G15
 refine ⟨_, rfl, ?_⟩
 refine (zI (zB (hK11 _ _ ?_)))
 refine zD fun K16 hK16 => ?_
 refine zC ?_
 refine zA rfl rfl (zG (v := .int .i64 p1) rfl) ?_
 refine zA rfl rfl (zG (v := v7) rfl) ?_
 obtain ⟨x17, e18, hF⟩ := zH hF
 obtain ⟨a19, c20, q21⟩ := Sr.len (Sr.of_own (H.item (i := 1) rfl))
 refine zA rfl rfl (zT (xI u33 q21) (congrArg (Value.int .i64) e18)) ?_
 obtain ⟨x22, e23, hF⟩ := zH hF
 refine zA rfl rfl (Do_mul (a := p1) (b := x17) rfl rfl e23) ?_
 refine zA rfl rfl (zG (v := .int .i64 p2) rfl) ?_
 obtain ⟨x24, e25, hF⟩ := zH hF
 refine zA rfl rfl (xJ (a := x22) (b := p2) rfl rfl e25) ?_
 obtain ⟨x26, e27, hF⟩ := zH hF
 refine zA rfl rfl (Do_sub (a := x24) (b := 1) rfl rfl e27) ?_
 refine zA rfl rfl (zG (v := .int .i64 p2) rfl) ?_
 obtain ⟨x28, e29, hF⟩ := zJ hF
 refine zA rfl rfl (Do_quo' (j := x26) (q := p2) rfl rfl e29) ?_
 refine zA rfl rfl (zF (v := .int .i64 x28) rfl) ?_
 refine (zI (zB (hK16 _ _ ?_)))
 refine zD fun K30 hK30 => ?_
 refine zC ?_
 refine zA rfl rfl (zG (v := v7) rfl) ?_
 refine zA rfl rfl (zG (v := .int .i64 x28) rfl) ?_
 obtain ⟨x31, e32, hF⟩ := zH hF
 refine zA rfl rfl (Do_max (j := x28) (q := 1) rfl rfl e32) ?_
 obtain ⟨x33, e34, hF⟩ := zH hF
 refine zA rfl rfl (Do_sub (a := x31) (b := 1) rfl rfl e34) ?_
 obtain ⟨x35, e36, hF⟩ := zJ hF
 obtain ⟨b37, c39, cs40, q41, h44, h45⟩ := own_at (H.item (i := 1) rfl) e36
 obtain rfl : cs40 = [.int .i64 x35] := h44
 refine zA rfl rfl (xG u33 sz3 q41 rfl (yD e36).1 (yD e36).2.1 rfl rfl) ?_
 refine zA rfl rfl (zU one3 rfl (Cells.get h45 (i := 0) rfl)) ?_
 refine zA rfl rfl (zF (v := .int .i64 x35) rfl) ?_
 refine (zI (zB (hK30 _ _ ?_)))
 have hR := Option.some.inj hF
 subst hR
 refine (yG (post1 (v1 := .int .i64 x35) rfl rfl ?_))
 exact ⟨rfl, H.pick [] (by decide)⟩
end Go.Proofs.YtbjhondbheijiaaGreatDoor.L
namespace Go.Proofs.YtbjhondbheijiaaGreatDoor.L
open Go.RowKit Go.OB Go.Lf
/- orangebox/fleet.Odd -/
set_option maxHeartbeats 4000000 in
theorem F_fleet_Odd_w (p0 : List Flight) (p1 : Mask) (p2 : Str) (p3 : Int) (v1 : Value) (v3 : Value) (v4 : Value) (r : (List Int) × Int) (hF : F_fleet_Odd p0 p1 p2 p3 = some r) (O S : List Nat) (w : World) (H : Hd O w w S [.fz (.sl rFlight v1 p0), .fz (.sl Rp.str v3 p1.Hide), .fz (.sl rGrain v4 p1.Grains)]) :
  Calls Tryz.prog 7 ([v1, .agg [.bool p1.Tails, .int .i64 p1.Days, v3, v4, .int .i64 p1.Least].toArray, .string (bs p2), .int .i64 p3] : List Value).toArray w fun e w' => ∃ u7, e = .returned (.tuple #[u7, .int .i64 r.2]) ∧ Hd O w w' S [.own (Rp.int .i64) u7 3 r.1] := by
 unfold F_fleet_Odd at hF
 refine yB 85 Tryz.func7 rfl rfl rfl ?_
 refine zD fun K8 hK8 => ?_
 refine zC ?_
 refine xE rfl rfl (Lx_box (cs := [.bool p1.Tails, .int .i64 p1.Days, v3, v4, .int .i64 p1.Least]) rfl H) ?_
 rintro _ w11 ⟨b9, rfl, H⟩
 refine zA rfl rfl (zF (v := .slice none 0 0) rfl) ?_
 refine zA rfl rfl (zF (v := .int .i64 0) rfl) ?_
 refine (zI (zB (hK8 _ _ ?_)))
 refine zD fun K12 hK12 => ?_
 refine zC ?_
 refine zA rfl rfl (zG (v := v1) rfl) ?_
 obtain ⟨x13, e14, hF⟩ := zH hF
 subst e14
 refine xE rfl rfl (Lx_bs (r := (Rp.sl rFlight)) (xl := [p0]) (cs := [v1]) u41 el22 (by decide) (by decide) rfl (fillB_ones rfl rfl ⟨(slf_one (H.item (i := 0) rfl)), trivial⟩) H ⟨[v1], [], rfl, ⟨_, rfl, (H.item (i := 0) rfl)⟩, rfl⟩) ?_
 rintro v16 w17 H
 refine zA rfl rfl (zT (yV (cs := [.bool p1.Tails, .int .i64 p1.Days, v3, v4, .int .i64 p1.Least]) agg26 rfl sz26 rfl (Blk.cells (H.item (i := 3) rfl))) rfl) ?_
 refine zA rfl rfl (zG (v := .string (bs p2)) rfl) ?_
 have H := H.freeze (i := 4) rfl
 obtain ⟨⟨x18, x19⟩, e20, hF⟩ := zJ hF
 refine yJ rfl rfl (yC en10 rfl) (F_fleet_peaksOf_w ([p0] : List (List Flight)) p1 p2 v16 v3 v4 _ e20 _ _ _ (H.enter [] [4, 1, 2] (by decide) rfl)) ?_
 rintro _ w23 ⟨v21, rfl, G24⟩
 have H := H.back1 [4, 1, 2] rfl G24
 refine ⟨_, rfl, ?_⟩
 refine zA rfl rfl (zG (v := .tuple #[v21, .int .i64 x19]) rfl) ?_
 refine zA rfl rfl (yQ (v := v21) rfl rfl) ?_
 refine zA rfl rfl (yQ (v := .int .i64 x19) rfl rfl) ?_
 refine zA rfl rfl (zF (v := v21) rfl) ?_
 refine zA rfl rfl (zF (v := .int .i64 x19) rfl) ?_
 refine (zI (zB (hK12 _ _ ?_)))
 refine zD fun K30 hK30 => ?_
 refine zD fun K31 hK31 => ?_
 refine zC ?_
 refine zA rfl rfl (zG (v := .int .i64 x19) rfl) ?_
 obtain ⟨x32, e33, hF⟩ := zH hF
 refine zA rfl rfl (zT (Do_neq (a := x19) (b := 0) rfl rfl) (congrArg Value.bool e33)) ?_
 refine (zI (zB (hK31 _ _ ?_)))
 refine yF (b := x32) rfl (fun c34 => ?_) (fun c34 => ?_)
 ·have hF := zW c34 hF
  refine zD fun K35 hK35 => ?_
  refine zC ?_
  refine zA rfl rfl (zG (v := .int .i64 x19) rfl) ?_
  refine zA rfl rfl (zF (v := .slice none 0 0) rfl) ?_
  refine zA rfl rfl (zF (v := .int .i64 x19) rfl) ?_
  refine (zI (zB (hK35 _ _ ?_)))
  have H := own_nil H (Rp.int .i64) 3
  have hR := Option.some.inj hF
  subst hR
  refine (yG (zZ (post2 (v1 := .slice none 0 0) (v2 := .int .i64 x19) rfl rfl rfl ?_)))
  exact ⟨.slice none 0 0, rfl, H.pick [6] (by decide)⟩
 have hF := zX c34 hF
 refine (yA (zB (hK30 _ _ ?_)))
 refine zD fun K47 hK47 => ?_
 refine zD fun K48 hK48 => ?_
 refine zC ?_
 refine zA rfl rfl (zG (v := .int .i64 p3) rfl) ?_
 have H49 := H
 obtain ⟨x50, e51, hF⟩ := zJ hF
 refine yJ rfl rfl (yC en21 rfl) (F_fleet_within_w p3 1 1000 _ e51 _ _ _ (H.enter [] [] (by decide) rfl)) ?_
 rintro _ w52 ⟨rfl, G53⟩
 have H := H49.step (G53.only : Only [] _ _)
 refine ⟨_, rfl, ?_⟩
 obtain ⟨x54, e55, hF⟩ := zH hF
 refine zA rfl rfl (zT (xY (p := x50) rfl) (congrArg Value.bool e55)) ?_
 refine (zI (zB (hK48 _ _ ?_)))
 refine yF (b := x54) rfl (fun c56 => ?_) (fun c56 => ?_)
 ·have hF := zW c56 hF
  refine zD fun K57 hK57 => ?_
  refine zC ?_
  refine zA rfl rfl (zF (v := .slice none 0 0) rfl) ?_
  refine zA rfl rfl (zF (v := .int .i64 9) rfl) ?_
  refine (zI (zB (hK57 _ _ ?_)))
  have H := own_nil H (Rp.int .i64) 3
  have hR := Option.some.inj hF
  subst hR
  refine (yG (zZ (post2 (v1 := .slice none 0 0) (v2 := .int .i64 9) rfl rfl rfl ?_)))
  exact ⟨.slice none 0 0, rfl, H.pick [6] (by decide)⟩
 have hF := zX c56 hF
 refine (yA (zB (hK47 _ _ ?_)))
 refine zD fun K59 hK59 => ?_
 refine zC ?_
 refine zA rfl rfl (zG (v := v21) rfl) ?_
 obtain ⟨x60, e61, hF⟩ := zJ hF
 obtain ⟨b62, o63, c64, cs65, q66, h69, h67, h68, h70⟩ := wB (H.item (i := 5) rfl) e61
 obtain ⟨v71, v72, rfl, h73, h74⟩ := rFleetPeaks_open h69
 have H := H.fzs [.at b62 (o63 + (0 : Int).toNat * 3) _, .sl (Rp.int .i64) v71 x60.l, .sl (Rp.int .i64) v72 x60.flights] ⟨⟨h67, h68, h70⟩, h73, h74, trivial⟩
 refine zA rfl rfl (xG u38 sz44 q66 rfl (yD e61).1 (yD e61).2.1 rfl rfl) ?_
 refine zA rfl rfl (fa44_0 rfl) ?_
 refine zA rfl rfl (zU one33 rfl (Cells.get (H.item (i := 6) rfl).2.2 (i := 0) rfl)) ?_
 have H78 := H
 obtain ⟨x79, e80, hF⟩ := zJ hF
 refine yJ rfl rfl (yC en22 rfl) (F_fleet_quantile_w x60.l 1 2 v71 _ e80 _ _ _ (H.enter [] [7] (by decide) rfl)) ?_
 rintro _ w81 ⟨rfl, G82⟩
 have H := H78.step (G82.only : Only [] _ _)
 refine ⟨_, rfl, ?_⟩
 refine zA rfl rfl (zF (v := .int .i64 x79) rfl) ?_
 refine (zI (zB (hK59 _ _ ?_)))
 refine zD fun K83 hK83 => ?_
 refine zC ?_
 refine zA rfl rfl (zF (v := .slice none 0 0) rfl) ?_
 refine (zI (zB (hK83 _ _ ?_)))
 obtain ⟨g252, hF, hK255⟩ := zJ hF
 refine yL [13, 15, 39, 40, 41, 42, 43, 44, 45, 46, 47, 48, 49, 50, 51, 52, 53, 54, 55, 56, 57, 58] (fun (g : Value) => [(13, g)]) (fun g wl => Hd O w wl S [.own (Rp.int .i64) g 3 g252, .fz (.sl rFleetPeaks v21 x18)]) ?_ ?_
 ·skip
  refine zD fun K256 hK256 => ?_
  refine zC ?_
  refine zA rfl rfl (zG (v := v21) rfl) ?_
  obtain ⟨x257, e258, hF⟩ := zJ hF
  obtain ⟨b259, o260, c261, cs262, q263, h266, h264, h265, h267⟩ := wB (H.item (i := 5) rfl) e258
  obtain ⟨v268, v269, rfl, h270, h271⟩ := rFleetPeaks_open h266
  have H := H.fzs [.at b259 (o260 + (0 : Int).toNat * 3) _, .sl (Rp.int .i64) v268 x257.l, .sl (Rp.int .i64) v269 x257.flights] ⟨⟨h264, h265, h267⟩, h270, h271, trivial⟩
  refine zA rfl rfl (xG u38 sz44 q263 rfl (yD e258).1 (yD e258).2.1 rfl rfl) ?_
  refine zA rfl rfl (fa44_0 rfl) ?_
  refine zA rfl rfl (zU one33 rfl (Cells.get (H.item (i := 9) rfl).2.2 (i := 0) rfl)) ?_
  obtain ⟨x275, e276, hF⟩ := zH hF
  obtain ⟨a277, c278, q279⟩ := SlF.len ((H.item (i := 10) rfl))
  refine zA rfl rfl (zT (xI u33 q279) (congrArg (Value.int .i64) e276)) ?_
  refine zA rfl rfl (zG (v := .int .i64 0) rfl) ?_
  refine (zI (zB (hK256 _ _ ?_)))
  refine yK ?_
  have H := own_nil H (Rp.int .i64) 3
  unfold F_fleet_Odd_L1 at hF
  obtain ⟨B421, n422, eB423, hF⟩ := yT hF
  refine xC [13, 15, 44, 45, 46, 47, 48, 49, 50, 51, 52, 53, 54, 55, 56, 57, 58] (fun (g : Nat × (List Int) × Int × Value) => [(13, g.2.2.2), (44, .int .i64 g.2.2.1)]) (fun g wl => Hd O w wl S [.own (Rp.int .i64) g.2.2.2 3 g.2.1, .fz (.sl rFleetPeaks v21 x18), .fz (.sl (Rp.int .i64) v268 x257.l)] ∧ loopN B421 g.1 (g.2.1, g.2.2.1) = some g252) (fun g => g.1) (n422, [], 0, .slice none 0 0) (zK rfl (zK rfl zQ)) ⟨H.pick [12, 5, 10] (by decide), hF⟩ ?_
  clear H hF
  rintro ⟨n422, g417, g419, v418⟩ ρ w425 ⟨H, hF⟩
  obtain ⟨n426, rfl, hF⟩ := yX hF
  have hF := yY eB423 hF
  refine zD fun K427 hK427 => ?_
  refine zC ?_
  obtain ⟨x428, e429, hF⟩ := zH hF
  refine zA rfl rfl (zT (xK (a := g419) (b := x275) rfl rfl) (congrArg Value.bool e429)) ?_
  refine (zI (zB (hK427 _ _ ?_)))
  refine zD fun K431 hK431 => ?_
  refine yF (b := x428) rfl (fun c432 => ?_) (fun c432 => ?_)
  ·have hF := zW c432 hF
   refine (yA (zB (hK431 _ _ ?_)))
   refine zD fun K461 hK461 => ?_
   refine yK ?_
   refine zD fun K462 hK462 => ?_
   refine zC ?_
   obtain ⟨x463, e464, hF⟩ := zJ hF
   obtain ⟨b465, o466, c467, cs468, q469, h472, h470, h471, h473⟩ := wB (H.item (i := 2) rfl) e464
   obtain rfl : cs468 = [.int .i64 x463] := h472
   have H := H.fz (.at b465 (o466 + g419.toNat * 1) _) ⟨h470, h471, h473⟩
   refine zA rfl rfl (xG u33 sz3 q469 rfl (yD e464).1 (yD e464).2.1 rfl rfl) ?_
   refine zA rfl rfl (zU one3 rfl (Cells.get (H.item (i := 3) rfl).2.2 (i := 0) rfl)) ?_
   refine zA rfl rfl (zF (v := .int .i64 x463) rfl) ?_
   refine (zI (zB (hK462 _ _ ?_)))
   refine zC ?_
   refine zA rfl rfl (zG (v := v418) rfl) ?_
   refine zA rfl rfl (zG (v := .int .i64 x463) rfl) ?_
   refine zA rfl rfl (zG (v := .int .i64 x79) rfl) ?_
   obtain ⟨x475, e476, hF⟩ := zH hF
   refine zA rfl rfl (Do_sub (a := x463) (b := x79) rfl rfl e476) ?_
   refine zA rfl rfl (zG (v := .int .i64 x79) rfl) ?_
   refine zA rfl rfl (zG (v := .int .i64 x463) rfl) ?_
   obtain ⟨x477, e478, hF⟩ := zH hF
   refine zA rfl rfl (Do_sub (a := x79) (b := x463) rfl rfl e478) ?_
   obtain ⟨x479, e480, hF⟩ := zH hF
   refine zA rfl rfl (Do_max (j := x475) (q := x477) rfl rfl e480) ?_
   obtain ⟨x481, e482, hF⟩ := zH hF
   subst e482
   refine xE rfl rfl (Lx_bs (r := (Rp.int .i64)) (xl := [x479]) (cs := [.int .i64 x479]) u33 el3 (by decide) (by decide) rfl (xW (vs := [.int .i64 x479]) (by decide) rfl rfl ⟨rfl, trivial⟩ rfl) H ⟨[.int .i64 x479], [], rfl, rfl, rfl⟩) ?_
   rintro v484 w485 H
   obtain ⟨x486, e487, hF⟩ := zJ hF
   refine xE rfl rfl (Lx_app H (i := 0) rfl u33 el3 rfl rfl (Sr.of_own (H.item (i := 4) rfl)) e487) ?_
   rintro v488 w489 H
   refine zA rfl rfl (zF (v := v488) rfl) ?_
   refine (zI (yU (zB (hK461 _ _ ?_))))
   refine zC ?_
   obtain ⟨x490, e491, hF⟩ := zH hF
   refine zA rfl rfl (xJ (a := g419) (b := 1) rfl rfl e491) ?_
   refine zA rfl rfl (zG (v := .int .i64 x490) rfl) ?_
   refine (zI (zB (And.intro ?_ ?_)))
   ·repeat' (first | with_reducible exact zN | refine zV rfl ?_ | refine zO rfl rfl ?_)
   exact ⟨(n426, x486, x490, v488), (zK rfl (zK rfl zQ)), ⟨H.pick [0, 1, 2] (by decide), hF⟩, Nat.lt_succ_self _⟩
  have hF := zX c432 hF
  have hR := Option.some.inj hF
  subst hR
  refine (xB (yN (yN (yR (zB (And.intro ?_ ?_))))))
  ·repeat' (first | with_reducible exact zN | refine zV rfl ?_ | refine zO rfl rfl ?_)
  exact ⟨v418, (zK rfl zQ), H.pick [0, 1] (by decide)⟩
 rintro v253 ρ w254 H
 have hF := hK255
 refine zD fun K492 hK492 => ?_
 refine zC ?_
 refine zA rfl rfl (zG (v := .int .i64 p3) rfl) ?_
 refine zA rfl rfl (zG (v := v253) rfl) ?_
 have H493 := H
 have H := H.freeze (i := 0) rfl
 obtain ⟨x494, e495, hF⟩ := zJ hF
 refine yJ rfl rfl (yC en22 rfl) (F_fleet_quantile_w g252 1 2 v253 _ e495 _ _ _ (H.enter [] [0] (by decide) rfl)) ?_
 rintro _ w496 ⟨rfl, G497⟩
 have H := H493.step (G497.only : Only [] _ _)
 refine ⟨_, rfl, ?_⟩
 obtain ⟨x498, e499, hF⟩ := zH hF
 refine zA rfl rfl (Do_mul (a := p3) (b := x494) rfl rfl e499) ?_
 refine zA rfl rfl (zF (v := .int .i64 x498) rfl) ?_
 refine (zI (zB (hK492 _ _ ?_)))
 refine zD fun K500 hK500 => ?_
 refine zC ?_
 refine zA rfl rfl (zF (v := .slice none 0 0) rfl) ?_
 refine (zI (zB (hK500 _ _ ?_)))
 obtain ⟨g655, hF, hK658⟩ := zJ hF
 refine yL [17, 18, 19, 63, 64, 65, 66, 67, 68, 69, 70, 71, 72, 73, 74, 75, 76, 77, 78, 79, 80, 81, 82, 83] (fun (g : Value) => [(17, g)]) (fun g wl => Hd O w wl S [.own (Rp.int .i64) g 3 g655]) ?_ ?_
 ·skip
  refine zD fun K659 hK659 => ?_
  refine zC ?_
  refine zA rfl rfl (zG (v := v253) rfl) ?_
  obtain ⟨x660, e661, hF⟩ := zH hF
  obtain ⟨a662, c663, q664⟩ := Sr.len (Sr.of_own (H.item (i := 0) rfl))
  refine zA rfl rfl (zT (xI u33 q664) (congrArg (Value.int .i64) e661)) ?_
  refine zA rfl rfl (zG (v := .int .i64 0) rfl) ?_
  refine (zI (zB (hK659 _ _ ?_)))
  refine yK ?_
  have H := own_nil H (Rp.int .i64) 3
  unfold F_fleet_Odd_L2 at hF
  obtain ⟨B810, n811, eB812, hF⟩ := yT hF
  refine xC [17, 18, 19, 65, 66, 67, 68, 69, 70, 71, 72, 73, 74, 75, 76, 77, 78, 79, 80, 81, 82, 83] (fun (g : Nat × (List Int) × Int × Value) => [(17, g.2.2.2), (65, .int .i64 g.2.2.1)]) (fun g wl => Hd O w wl S [.own (Rp.int .i64) g.2.2.2 3 g.2.1, .own (Rp.int .i64) v253 3 g252, .fz (.sl rFleetPeaks v21 x18)] ∧ loopN B810 g.1 (g.2.1, g.2.2.1) = some g655) (fun g => g.1) (n811, [], 0, .slice none 0 0) (zK rfl (zK rfl zQ)) ⟨H.pick [2, 0, 1] (by decide), hF⟩ ?_
  clear H hF
  rintro ⟨n811, g806, g808, v807⟩ ρ w814 ⟨H, hF⟩
  obtain ⟨n815, rfl, hF⟩ := yX hF
  have hF := yY eB812 hF
  refine zD fun K816 hK816 => ?_
  refine zC ?_
  obtain ⟨x817, e818, hF⟩ := zH hF
  refine zA rfl rfl (zT (xK (a := g808) (b := x660) rfl rfl) (congrArg Value.bool e818)) ?_
  refine (zI (zB (hK816 _ _ ?_)))
  refine zD fun K820 hK820 => ?_
  refine yF (b := x817) rfl (fun c821 => ?_) (fun c821 => ?_)
  ·have hF := zW c821 hF
   refine (yA (zB (hK820 _ _ ?_)))
   obtain ⟨g877, hF, hK880⟩ := zJ hF
   refine yL [17, 18, 19, 67, 68, 69, 70, 71, 72, 73, 74, 75, 76, 77, 78, 79, 80, 81, 82] (fun (g : Value) => [(17, g)]) (fun g wl => Hd O w wl S [.own (Rp.int .i64) g 3 g877, .own (Rp.int .i64) v253 3 g252, .fz (.sl rFleetPeaks v21 x18)]) ?_ ?_
   ·skip
    refine yK ?_
    refine zD fun K881 hK881 => ?_
    refine zC ?_
    refine zA rfl rfl (zG (v := .int .i64 g808) rfl) ?_
    obtain ⟨x882, e883, hF⟩ := zJ hF
    obtain ⟨b884, c886, cs887, q888, h891, h892⟩ := own_at (H.item (i := 1) rfl) e883
    obtain rfl : cs887 = [.int .i64 x882] := h891
    refine zA rfl rfl (xG u33 sz3 q888 rfl (yD e883).1 (yD e883).2.1 rfl rfl) ?_
    refine zA rfl rfl (zU one3 rfl (Cells.get h892 (i := 0) rfl)) ?_
    refine zA rfl rfl (zF (v := .int .i64 g808) rfl) ?_
    refine zA rfl rfl (zF (v := .int .i64 x882) rfl) ?_
    refine (zI (zB (hK881 _ _ ?_)))
    refine zD fun K893 hK893 => ?_
    refine zC ?_
    refine zA rfl rfl (zG (v := .int .i64 x882) rfl) ?_
    refine zA rfl rfl (zG (v := .int .i64 x498) rfl) ?_
    obtain ⟨x894, e895, hF⟩ := zH hF
    refine zA rfl rfl (zT (wF (a := x882) (b := x498) rfl rfl) (congrArg Value.bool e895)) ?_
    refine (zI (zB (hK893 _ _ ?_)))
    refine yF (b := x894) rfl (fun c896 => ?_) (fun c896 => ?_)
    ·have hF := zW c896 hF
     refine zC ?_
     refine zA rfl rfl (zG (v := v807) rfl) ?_
     refine zA rfl rfl (zG (v := v21) rfl) ?_
     obtain ⟨x897, e898, hF⟩ := zJ hF
     obtain ⟨b899, o900, c901, cs902, q903, h906, h904, h905, h907⟩ := wB (H.item (i := 2) rfl) e898
     obtain ⟨v908, v909, rfl, h910, h911⟩ := rFleetPeaks_open h906
     have H := H.fzs [.at b899 (o900 + (0 : Int).toNat * 3) _, .sl (Rp.int .i64) v908 x897.l, .sl (Rp.int .i64) v909 x897.flights] ⟨⟨h904, h905, h907⟩, h910, h911, trivial⟩
     refine zA rfl rfl (xG u38 sz44 q903 rfl (yD e898).1 (yD e898).2.1 rfl rfl) ?_
     refine zA rfl rfl (fa44_1 rfl) ?_
     refine zA rfl rfl (zU one33 rfl (Cells.get (H.item (i := 3) rfl).2.2 (i := 1) rfl)) ?_
     refine zA rfl rfl (zG (v := .int .i64 g808) rfl) ?_
     obtain ⟨x915, e916, hF⟩ := zJ hF
     obtain ⟨b917, o918, c919, cs920, q921, h924, h922, h923, h925⟩ := wB (H.item (i := 5) rfl) e916
     obtain rfl : cs920 = [.int .i64 x915] := h924
     have H := H.fz (.at b917 (o918 + g808.toNat * 1) _) ⟨h922, h923, h925⟩
     refine zA rfl rfl (xG u33 sz3 q921 rfl (yD e916).1 (yD e916).2.1 rfl rfl) ?_
     refine zA rfl rfl (zU one3 rfl (Cells.get (H.item (i := 6) rfl).2.2 (i := 0) rfl)) ?_
     obtain ⟨x927, e928, hF⟩ := zH hF
     subst e928
     refine xE rfl rfl (Lx_bs (r := (Rp.int .i64)) (xl := [x915]) (cs := [.int .i64 x915]) u33 el3 (by decide) (by decide) rfl (xW (vs := [.int .i64 x915]) (by decide) rfl rfl ⟨rfl, trivial⟩ rfl) H ⟨[.int .i64 x915], [], rfl, rfl, rfl⟩) ?_
     rintro v930 w931 H
     obtain ⟨x932, e933, hF⟩ := zJ hF
     refine xE rfl rfl (Lx_app H (i := 0) rfl u33 el3 rfl rfl (Sr.of_own (H.item (i := 7) rfl)) e933) ?_
     rintro v934 w935 H
     refine zA rfl rfl (zF (v := v934) rfl) ?_
     have hR := Option.some.inj hF
     subst hR
     refine (zI (yU (zB (And.intro ?_ ?_))))
     ·repeat' (first | with_reducible exact zN | refine zV rfl ?_ | refine zO rfl rfl ?_)
     exact ⟨v934, (zK rfl zQ), H.pick [0, 1, 2] (by decide)⟩
    have hF := zX c896 hF
    have hR := Option.some.inj hF
    subst hR
    refine (yA (yU (zB (And.intro ?_ ?_))))
    ·repeat' (first | with_reducible exact zN | refine zV rfl ?_ | refine zO rfl rfl ?_)
    exact ⟨v807, (zK rfl zQ), H.pick [0, 1, 2] (by decide)⟩
   rintro v878 ρ w879 H
   have hF := hK880
   refine zC ?_
   obtain ⟨x936, e937, hF⟩ := zH hF
   refine zA rfl rfl (xJ (a := g808) (b := 1) rfl rfl e937) ?_
   refine zA rfl rfl (zG (v := .int .i64 x936) rfl) ?_
   refine (zI (zB (And.intro ?_ ?_)))
   ·repeat' (first | with_reducible exact zN | refine zV rfl ?_ | refine zO rfl rfl ?_)
   exact ⟨(n815, g877, x936, v878), (zK rfl (zK rfl zQ)), ⟨H.pick [0, 1, 2] (by decide), hF⟩, Nat.lt_succ_self _⟩
  have hF := zX c821 hF
  have hR := Option.some.inj hF
  subst hR
  refine (xB (yN (yN (yR (zB (And.intro ?_ ?_))))))
  ·repeat' (first | with_reducible exact zN | refine zV rfl ?_ | refine zO rfl rfl ?_)
  exact ⟨v807, (zK rfl zQ), H.pick [0] (by decide)⟩
 rintro v656 ρ w657 H
 have hF := hK658
 refine zD fun K938 hK938 => ?_
 refine zC ?_
 refine zA rfl rfl (zG (v := v656) rfl) ?_
 refine zA rfl rfl (zF (v := v656) rfl) ?_
 refine zA rfl rfl (zF (v := .int .i64 0) rfl) ?_
 refine (zI (zB (hK938 _ _ ?_)))
 have hR := Option.some.inj hF
 subst hR
 refine (yG (post2 (v1 := v656) (v2 := .int .i64 0) rfl rfl rfl ?_))
 exact ⟨v656, rfl, H.pick [0] (by decide)⟩
end Go.Proofs.YtbjhondbheijiaaGreatDoor.L
namespace Go.Proofs.YtbjhondbheijiaaGreatDoor.L
open Go.RowKit Go.OB Go.Lf
/- internal/strconv.AppendInt -/
set_option maxHeartbeats 4000000 in
theorem F_internal_strconv_AppendInt_w (p0 : List Int) (p1 : Int) (p2 : Int) (v1 : Value) (r : (List Int)) (hF : F_internal_strconv_AppendInt p0 p1 p2 = some r) (O S : List Nat) (w : World) (H : Hd O w w S [.own (Rp.int .u8) v1 5 p0, .fz (.at 2 0 ((Fl.arr 20 (Fl.int .u64)).f zY))]) :
  Calls Tryz.prog 102 ([v1, .int .i64 p1, .int .i64 p2] : List Value).toArray w fun e w' => ∃ u4, e = .returned (u4) ∧ Hd O w w' S [.own (Rp.int .u8) u4 5 r] := by
 unfold F_internal_strconv_AppendInt at hF
 refine yB 21 Tryz.func102 rfl rfl rfl ?_
 refine zD fun K5 hK5 => ?_
 refine zC ?_
 refine zA rfl rfl (zF (v := .slice none 0 0) rfl) ?_
 refine (zI (zB (hK5 _ _ ?_)))
 refine zD fun K6 hK6 => ?_
 refine zC ?_
 refine zA rfl rfl (zG (v := .int .i64 p1) rfl) ?_
 obtain ⟨x7, e8, hF⟩ := zH hF
 refine zA rfl rfl (Do_conv u2 u51 rfl e8) ?_
 refine zA rfl rfl (zF (v := .int .u64 x7) rfl) ?_
 refine (zI (zB (hK6 _ _ ?_)))
 obtain ⟨j30, hF, hK29⟩ := zJ hF
 refine yL [0, 7, 10, 11, 12, 13, 14, 15, 16] (fun (g : Value) => [(0, g), (7, .int .u64 j30.2)]) (fun g wl => Hd O w wl S [.own (Rp.int .u8) g 5 j30.1, .fz (.at 2 0 ((Fl.arr 20 (Fl.int .u64)).f zY))]) ?_ ?_
 ·skip
  refine zD fun K31 hK31 => ?_
  refine zC ?_
  refine zA rfl rfl (zG (v := .int .i64 p1) rfl) ?_
  obtain ⟨x32, e33, hF⟩ := zH hF
  refine zA rfl rfl (zT (xK (a := p1) (b := 0) rfl rfl) (congrArg Value.bool e33)) ?_
  refine (zI (zB (hK31 _ _ ?_)))
  refine yF (b := x32) rfl (fun c34 => ?_) (fun c34 => ?_)
  ·have hF := zW c34 hF
   refine zD fun K35 hK35 => ?_
   refine zC ?_
   refine zA rfl rfl (zG (v := v1) rfl) ?_
   obtain ⟨x36, e37, hF⟩ := zH hF
   subst e37
   refine xE rfl rfl (Lx_bs (r := (Rp.int .u8)) (xl := [45]) (cs := [.int .u8 45]) u92 el5 (by decide) (by decide) rfl (xW (vs := [.int .u8 45]) (by decide) rfl rfl ⟨rfl, trivial⟩ rfl) H ⟨[.int .u8 45], [], rfl, rfl, rfl⟩) ?_
   rintro v39 w40 H
   obtain ⟨x41, e42, hF⟩ := zJ hF
   refine xE rfl rfl (Lx_app H (i := 0) rfl u92 el5 rfl rfl (Sr.of_own (H.item (i := 2) rfl)) e42) ?_
   rintro v43 w44 H
   refine zA rfl rfl (zF (v := v43) rfl) ?_
   refine (zI (zB (hK35 _ _ ?_)))
   refine zC ?_
   refine zA rfl rfl (zG (v := .int .u64 x7) rfl) ?_
   obtain ⟨x45, e46, hF⟩ := zH hF
   refine zA rfl rfl (Do_neg (a := x7) rfl e46) ?_
   refine zA rfl rfl (zF (v := .int .u64 x45) rfl) ?_
   have hR := Option.some.inj hF
   subst hR
   refine (zI (zB (And.intro ?_ ?_)))
   ·repeat' (first | with_reducible exact zN | refine zV rfl ?_ | refine zO rfl rfl ?_)
   exact ⟨v43, (zK rfl (zK rfl zQ)), H.pick [0, 1] (by decide)⟩
  have hF := zX c34 hF
  have hR := Option.some.inj hF
  subst hR
  refine (yA (zB (And.intro ?_ ?_)))
  ·repeat' (first | with_reducible exact zN | refine zV rfl ?_ | refine zO rfl rfl ?_)
  exact ⟨v1, (zK rfl (zK rfl zQ)), H.pick [0, 1] (by decide)⟩
 rintro v26 ρ w28 H
 have hF := hK29
 obtain ⟨g25, g27⟩ := j30
 refine zD fun K47 hK47 => ?_
 refine zC ?_
 refine zA rfl rfl (zG (v := v26) rfl) ?_
 refine zA rfl rfl (zG (v := .int .u64 g27) rfl) ?_
 refine zA rfl rfl (zG (v := .int .i64 p2) rfl) ?_
 obtain ⟨x48, e49, hF⟩ := zJ hF
 refine yJ rfl rfl (yC en113 rfl) (E.X_AppendUint_w g25 g27 p2 v26 _ e49 _ _ _ (H.enter [0] [1] (by decide) rfl)) ?_
 rintro _ w52 ⟨v50, rfl, G53⟩
 have H : Hd O _ w52 _ [.fz (.at 2 0 ((Fl.arr 20 (Fl.int .u64)).f zY)), .own (Rp.int .u8) v50 5 x48] := H.back [0] [1] rfl G53
 refine ⟨_, rfl, ?_⟩
 refine zA rfl rfl (zF (v := v50) rfl) ?_
 refine (zI (zB (hK47 _ _ ?_)))
 have hR := Option.some.inj hF
 subst hR
 refine (yG (post1 (v1 := v50) rfl rfl ?_))
 exact ⟨v50, rfl, H.pick [1] (by decide)⟩
end Go.Proofs.YtbjhondbheijiaaGreatDoor.L
namespace Go.Proofs.YtbjhondbheijiaaGreatDoor.L
open Go.RowKit Go.OB Go.Lf
/- strconv.AppendInt -/
set_option maxHeartbeats 4000000 in
theorem F_strconv_AppendInt_w (p0 : List Int) (p1 : Int) (p2 : Int) (v1 : Value) (r : (List Int)) (hF : F_strconv_AppendInt p0 p1 p2 = some r) (O S : List Nat) (w : World) (H : Hd O w w S [.own (Rp.int .u8) v1 5 p0, .fz (.at 2 0 ((Fl.arr 20 (Fl.int .u64)).f zY))]) :
  Calls Tryz.prog 85 ([v1, .int .i64 p1, .int .i64 p2] : List Value).toArray w fun e w' => ∃ u4, e = .returned (u4) ∧ Hd O w w' S [.own (Rp.int .u8) u4 5 r] := by
 unfold F_strconv_AppendInt at hF
 refine yB 11 Tryz.func85 rfl rfl rfl ?_
 refine zD fun K5 hK5 => ?_
 refine zC ?_
 refine zA rfl rfl (zF (v := .slice none 0 0) rfl) ?_
 refine (zI (zB (hK5 _ _ ?_)))
 refine zD fun K6 hK6 => ?_
 refine zC ?_
 refine zA rfl rfl (zG (v := v1) rfl) ?_
 refine zA rfl rfl (zG (v := .int .i64 p1) rfl) ?_
 refine zA rfl rfl (zG (v := .int .i64 p2) rfl) ?_
 obtain ⟨x7, e8, hF⟩ := zJ hF
 refine yJ rfl rfl (yC en102 rfl) (F_internal_strconv_AppendInt_w p0 p1 p2 v1 _ e8 _ _ _ (H.enter [0] [1] (by decide) rfl)) ?_
 rintro _ w11 ⟨v9, rfl, G12⟩
 have H : Hd O _ w11 _ [.fz (.at 2 0 ((Fl.arr 20 (Fl.int .u64)).f zY)), .own (Rp.int .u8) v9 5 x7] := H.back [0] [1] rfl G12
 refine ⟨_, rfl, ?_⟩
 refine zA rfl rfl (zF (v := v9) rfl) ?_
 refine (zI (zB (hK6 _ _ ?_)))
 have hR := Option.some.inj hF
 subst hR
 refine (yG (post1 (v1 := v9) rfl rfl ?_))
 exact ⟨v9, rfl, H.pick [1] (by decide)⟩
end Go.Proofs.YtbjhondbheijiaaGreatDoor.L
namespace Go.Proofs.YtbjhondbheijiaaGreatDoor.L
open Go.RowKit Go.OB Go.Lf
/- (*orangebox/orangeboxref0.Ink).Int -/
set_option maxHeartbeats 4000000 in
theorem F_ref0_Ink_Int_w (p0 : Orangeboxref0Ink) (p1 : Int) (b1 : Nat) (v2 : Value) (r : Orangeboxref0Ink) (hF : F_ref0_Ink_Int p0 p1 = some r) (O S : List Nat) (w : World) (H : Hd O w w S [.own (Rp.int .u8) v2 5 p0.out, .blk b1 [v2] 94, .fz (.at 2 0 ((Fl.arr 20 (Fl.int .u64)).f zY))]) :
  Calls Tryz.prog 65 ([.pointer (some ⟨b1, 0, none⟩), .int .i64 p1] : List Value).toArray w fun e w' => ∃ u6, e = .returned (.tuple #[]) ∧ Hd O w w' S [.own (Rp.int .u8) u6 5 r.out, .blk b1 [u6] 94] := by
 unfold F_ref0_Ink_Int at hF
 refine yB 22 Tryz.func65 rfl rfl rfl ?_
 refine zD fun K7 hK7 => ?_
 refine zC ?_
 refine zA rfl rfl (zG (v := .pointer (some ⟨b1, 0, none⟩)) rfl) ?_
 refine zA rfl rfl (zG (v := .pointer (some ⟨b1, 0, none⟩)) rfl) ?_
 refine zA rfl rfl (Do_nilCheck rfl) ?_
 refine zA rfl rfl (fa94_0 rfl) ?_
 refine zA rfl rfl (zU one92 rfl (Cells.get (Blk.cells (H.item (i := 1) rfl)) (i := 0) rfl)) ?_
 refine zA rfl rfl (zG (v := .int .i64 p1) rfl) ?_
 obtain ⟨x8, e9, hF⟩ := zJ hF
 refine yJ rfl rfl (yC en85 rfl) (F_strconv_AppendInt_w p0.out p1 10 v2 _ e9 _ _ _ (H.enter [0] [2] (by decide) rfl)) ?_
 rintro _ w12 ⟨v10, rfl, G13⟩
 have H : Hd O _ w12 _ [.blk b1 [v2] 94, .fz (.at 2 0 ((Fl.arr 20 (Fl.int .u64)).f zY)), .own (Rp.int .u8) v10 5 x8] := H.back [0] [2] rfl G13
 refine ⟨_, rfl, ?_⟩
 refine zA rfl rfl (Do_nilCheck rfl) ?_
 refine zA rfl rfl (fa94_0 rfl) ?_
 refine xO rfl (Lx_store1 H 0 rfl sz92 rfl (v := v10) rfl (own_one (H.item (i := 2) rfl)) rfl) ?_
 rintro w14 H
 refine (zI (zB (hK7 _ _ ?_)))
 refine zC ?_
 refine zA rfl rfl (zG (v := .pointer (some ⟨b1, 0, none⟩)) rfl) ?_
 refine zA rfl rfl (zG (v := .pointer (some ⟨b1, 0, none⟩)) rfl) ?_
 refine zA rfl rfl (Do_nilCheck rfl) ?_
 refine zA rfl rfl (fa94_0 rfl) ?_
 refine zA rfl rfl (zU one92 rfl (Cells.get (Blk.cells (H.item (i := 0) rfl)) (i := 0) rfl)) ?_
 obtain ⟨x15, e16, hF⟩ := zH hF
 subst e16
 refine xE rfl rfl (Lx_bs (r := (Rp.int .u8)) (xl := [32]) (cs := [.int .u8 32]) u92 el5 (by decide) (by decide) rfl (xW (vs := [.int .u8 32]) (by decide) rfl rfl ⟨rfl, trivial⟩ rfl) H ⟨[.int .u8 32], [], rfl, rfl, rfl⟩) ?_
 rintro v18 w19 H
 obtain ⟨x20, e21, hF⟩ := zJ hF
 refine xE rfl rfl (Lx_app H (i := 2) rfl u92 el5 rfl rfl (Sr.of_own (H.item (i := 3) rfl)) e21) ?_
 rintro v22 w23 H
 refine zA rfl rfl (Do_nilCheck rfl) ?_
 refine zA rfl rfl (fa94_0 rfl) ?_
 refine xO rfl (Lx_store1 H 0 rfl sz92 rfl (v := v22) rfl (own_one (H.item (i := 2) rfl)) rfl) ?_
 rintro w24 H
 have hR := Option.some.inj hF
 subst hR
 refine (zI (post0n rfl ?_))
 exact ⟨v22, rfl, H.pick [2, 0] (by decide)⟩
end Go.Proofs.YtbjhondbheijiaaGreatDoor.L
namespace Go.Proofs.YtbjhondbheijiaaGreatDoor.L
open Go.RowKit Go.OB Go.Lf
/- (*orangebox/orangeboxref0.Ink).Ints -/
set_option maxHeartbeats 4000000 in
theorem F_ref0_Ink_Ints_w (p0 : Orangeboxref0Ink) (p1 : List Int) (b1 : Nat) (v2 : Value) (v5 : Value) (r : Orangeboxref0Ink) (hF : F_ref0_Ink_Ints p0 p1 = some r) (O S : List Nat) (w : World) (H : Hd O w w S [.own (Rp.int .u8) v2 5 p0.out, .blk b1 [v2] 94, .fz (.sl (Rp.int .i64) v5 p1), .fz (.at 2 0 ((Fl.arr 20 (Fl.int .u64)).f zY))]) :
  Calls Tryz.prog 66 ([.pointer (some ⟨b1, 0, none⟩), v5] : List Value).toArray w fun e w' => ∃ u8, e = .returned (.tuple #[]) ∧ Hd O w w' S [.own (Rp.int .u8) u8 5 r.out, .blk b1 [u8] 94] := by
 unfold F_ref0_Ink_Ints at hF
 refine yB 21 Tryz.func66 rfl rfl rfl ?_
 refine zD fun K9 hK9 => ?_
 refine zC ?_
 refine zA rfl rfl (zG (v := .pointer (some ⟨b1, 0, none⟩)) rfl) ?_
 refine zA rfl rfl (zG (v := v5) rfl) ?_
 obtain ⟨x10, e11, hF⟩ := zH hF
 obtain ⟨a12, c13, q14⟩ := SlF.len ((H.item (i := 2) rfl))
 refine zA rfl rfl (zT (xI u33 q14) (congrArg (Value.int .i64) e11)) ?_
 obtain ⟨x15, e16, hF⟩ := zJ hF
 refine yJ rfl rfl (yC en65 rfl) (F_ref0_Ink_Int_w p0 x10 b1 v2 _ e16 _ _ _ (H.enter [0, 1] [3] (by decide) rfl)) ?_
 rintro _ w19 ⟨v17, rfl, G20⟩
 have H : Hd O _ w19 _ [.fz (.sl (Rp.int .i64) v5 p1), .fz (.at 2 0 ((Fl.arr 20 (Fl.int .u64)).f zY)), .own (Rp.int .u8) v17 5 x15.out, .blk b1 [v17] 94] := H.back [0, 1] [3] rfl G20
 refine ⟨_, rfl, ?_⟩
 refine (zI (zB (hK9 _ _ ?_)))
 refine zD fun K21 hK21 => ?_
 refine zC ?_
 refine zA rfl rfl (zF (v := .int .i64 0) rfl) ?_
 refine (zI (zB (hK21 _ _ ?_)))
 refine yK ?_
 unfold F_ref0_Ink_Ints_L1 at hF
 obtain ⟨B146, n147, eB148, hF⟩ := yT hF
 refine xC [4, 9, 10, 11, 12, 13, 14, 15, 16, 17, 18, 19, 20] (fun (g : Nat × Int × (List Int) × Value) => [(4, .int .i64 g.2.1)]) (fun g wl => Hd O w wl S [.fz (.sl (Rp.int .i64) v5 p1), .fz (.at 2 0 ((Fl.arr 20 (Fl.int .u64)).f zY)), .blk b1 [g.2.2.2] 94, .own (Rp.int .u8) g.2.2.2 5 g.2.2.1] ∧ loopN B146 g.1 (g.2.1, g.2.2.1) = some r) (fun g => g.1) (n147, 0, x15.out, v17) (zK rfl zQ) ⟨H.pick [0, 1, 3, 2] (by decide), hF⟩ ?_
 clear H hF
 rintro ⟨n147, g142, g144, v145⟩ ρ w150 ⟨H, hF⟩
 obtain ⟨n151, rfl, hF⟩ := yX hF
 have hF := yY eB148 hF
 refine zD fun K161 hK161 => ?_
 refine zD fun K162 hK162 => ?_
 refine zC ?_
 refine zA rfl rfl (zG (v := .int .i64 g142) rfl) ?_
 refine zA rfl rfl (zG (v := v5) rfl) ?_
 obtain ⟨x163, e164, hF⟩ := zH hF
 obtain ⟨a165, c166, q167⟩ := SlF.len ((H.item (i := 0) rfl))
 refine zA rfl rfl (zT (xI u33 q167) (congrArg (Value.int .i64) e164)) ?_
 obtain ⟨x168, e169, hF⟩ := zH hF
 refine zA rfl rfl (zT (xK (a := g142) (b := x163) rfl rfl) (congrArg Value.bool e169)) ?_
 refine (zI (zB (hK162 _ _ ?_)))
 refine yF (b := x168) rfl (fun c170 => ?_) (fun c170 => ?_)
 ·have hF := zW c170 hF
  refine (yA (zB (hK161 _ _ ?_)))
  refine zD fun K189 hK189 => ?_
  refine yK ?_
  refine zC ?_
  refine zA rfl rfl (zG (v := .pointer (some ⟨b1, 0, none⟩)) rfl) ?_
  refine zA rfl rfl (zG (v := v5) rfl) ?_
  refine zA rfl rfl (zG (v := .int .i64 g142) rfl) ?_
  obtain ⟨x190, e191, hF⟩ := zJ hF
  obtain ⟨b192, o193, c194, cs195, q196, h199, h197, h198, h200⟩ := wB (H.item (i := 0) rfl) e191
  obtain rfl : cs195 = [.int .i64 x190] := h199
  have H := H.fz (.at b192 (o193 + g142.toNat * 1) _) ⟨h197, h198, h200⟩
  refine zA rfl rfl (xG u33 sz3 q196 rfl (yD e191).1 (yD e191).2.1 rfl rfl) ?_
  refine zA rfl rfl (zU one3 rfl (Cells.get (H.item (i := 4) rfl).2.2 (i := 0) rfl)) ?_
  obtain ⟨x202, e203, hF⟩ := zJ hF
  refine yJ rfl rfl (yC en65 rfl) (F_ref0_Ink_Int_w (Orangeboxref0Ink.mk g144) x190 b1 v145 _ e203 _ _ _ (H.enter [3, 2] [1] (by decide) rfl)) ?_
  rintro _ w206 ⟨v204, rfl, G207⟩
  have H : Hd O _ w206 _ [.fz (.sl (Rp.int .i64) v5 p1), .fz (.at 2 0 ((Fl.arr 20 (Fl.int .u64)).f zY)), .fz (.at b192 (o193 + g142.toNat * 1) [.int .i64 x190]), .own (Rp.int .u8) v204 5 x202.out, .blk b1 [v204] 94] := H.back [3, 2] [1] rfl G207
  refine ⟨_, rfl, ?_⟩
  refine (zI (yU (zB (hK189 _ _ ?_))))
  refine zC ?_
  refine zA rfl rfl (zG (v := .int .i64 g142) rfl) ?_
  obtain ⟨x208, e209, hF⟩ := zH hF
  refine zA rfl rfl (xJ (a := g142) (b := 1) rfl rfl e209) ?_
  refine zA rfl rfl (zF (v := .int .i64 x208) rfl) ?_
  refine (zI (zB (And.intro ?_ ?_)))
  ·repeat' (first | with_reducible exact zN | refine zV rfl ?_ | refine zO rfl rfl ?_)
  exact ⟨(n151, x208, x202.out, v204), (zK rfl zQ), ⟨H.pick [0, 1, 4, 3] (by decide), hF⟩, Nat.lt_succ_self _⟩
 have hF := zX c170 hF
 have hR := Option.some.inj hF
 subst hR
 refine (xB (yN (yN (yR (post0n rfl ?_)))))
 exact ⟨v145, rfl, H.pick [3, 2] (by decide)⟩
end Go.Proofs.YtbjhondbheijiaaGreatDoor.L
namespace Go.Proofs.YtbjhondbheijiaaGreatDoor.L
open Go.RowKit Go.OB Go.Lf
/- (*orangebox/orangeboxref0.Ink).Lists -/
set_option maxHeartbeats 4000000 in
theorem F_ref0_Ink_Lists_w (p0 : Orangeboxref0Ink) (p1 : List (List Int)) (b1 : Nat) (v2 : Value) (v5 : Value) (r : Orangeboxref0Ink) (hF : F_ref0_Ink_Lists p0 p1 = some r) (O S : List Nat) (w : World) (H : Hd O w w S [.own (Rp.int .u8) v2 5 p0.out, .blk b1 [v2] 94, .fz (.sl (Rp.sl (Rp.int .i64)) v5 p1), .fz (.at 2 0 ((Fl.arr 20 (Fl.int .u64)).f zY))]) :
  Calls Tryz.prog 44 ([.pointer (some ⟨b1, 0, none⟩), v5] : List Value).toArray w fun e w' => ∃ u8, e = .returned (.tuple #[]) ∧ Hd O w w' S [.own (Rp.int .u8) u8 5 r.out, .blk b1 [u8] 94] := by
 unfold F_ref0_Ink_Lists at hF
 refine yB 21 Tryz.func44 rfl rfl rfl ?_
 refine zD fun K9 hK9 => ?_
 refine zC ?_
 refine zA rfl rfl (zG (v := .pointer (some ⟨b1, 0, none⟩)) rfl) ?_
 refine zA rfl rfl (zG (v := v5) rfl) ?_
 obtain ⟨x10, e11, hF⟩ := zH hF
 obtain ⟨a12, c13, q14⟩ := SlF.len ((H.item (i := 2) rfl))
 refine zA rfl rfl (zT (xI u58 q14) (congrArg (Value.int .i64) e11)) ?_
 obtain ⟨x15, e16, hF⟩ := zJ hF
 refine yJ rfl rfl (yC en65 rfl) (F_ref0_Ink_Int_w p0 x10 b1 v2 _ e16 _ _ _ (H.enter [0, 1] [3] (by decide) rfl)) ?_
 rintro _ w19 ⟨v17, rfl, G20⟩
 have H : Hd O _ w19 _ [.fz (.sl (Rp.sl (Rp.int .i64)) v5 p1), .fz (.at 2 0 ((Fl.arr 20 (Fl.int .u64)).f zY)), .own (Rp.int .u8) v17 5 x15.out, .blk b1 [v17] 94] := H.back [0, 1] [3] rfl G20
 refine ⟨_, rfl, ?_⟩
 refine (zI (zB (hK9 _ _ ?_)))
 refine zD fun K21 hK21 => ?_
 refine zC ?_
 refine zA rfl rfl (zF (v := .int .i64 0) rfl) ?_
 refine (zI (zB (hK21 _ _ ?_)))
 refine yK ?_
 unfold F_ref0_Ink_Lists_L1 at hF
 obtain ⟨B158, n159, eB160, hF⟩ := yT hF
 refine xC [4, 9, 10, 11, 12, 13, 14, 15, 16, 17, 18, 19, 20] (fun (g : Nat × Int × (List Int) × Value) => [(4, .int .i64 g.2.1)]) (fun g wl => Hd O w wl S [.fz (.sl (Rp.sl (Rp.int .i64)) v5 p1), .fz (.at 2 0 ((Fl.arr 20 (Fl.int .u64)).f zY)), .blk b1 [g.2.2.2] 94, .own (Rp.int .u8) g.2.2.2 5 g.2.2.1] ∧ loopN B158 g.1 (g.2.1, g.2.2.1) = some r) (fun g => g.1) (n159, 0, x15.out, v17) (zK rfl zQ) ⟨H.pick [0, 1, 3, 2] (by decide), hF⟩ ?_
 clear H hF
 rintro ⟨n159, g154, g156, v157⟩ ρ w162 ⟨H, hF⟩
 obtain ⟨n163, rfl, hF⟩ := yX hF
 have hF := yY eB160 hF
 refine zD fun K173 hK173 => ?_
 refine zD fun K174 hK174 => ?_
 refine zC ?_
 refine zA rfl rfl (zG (v := .int .i64 g154) rfl) ?_
 refine zA rfl rfl (zG (v := v5) rfl) ?_
 obtain ⟨x175, e176, hF⟩ := zH hF
 obtain ⟨a177, c178, q179⟩ := SlF.len ((H.item (i := 0) rfl))
 refine zA rfl rfl (zT (xI u58 q179) (congrArg (Value.int .i64) e176)) ?_
 obtain ⟨x180, e181, hF⟩ := zH hF
 refine zA rfl rfl (zT (xK (a := g154) (b := x175) rfl rfl) (congrArg Value.bool e181)) ?_
 refine (zI (zB (hK174 _ _ ?_)))
 refine yF (b := x180) rfl (fun c182 => ?_) (fun c182 => ?_)
 ·have hF := zW c182 hF
  refine (yA (zB (hK173 _ _ ?_)))
  refine zD fun K204 hK204 => ?_
  refine yK ?_
  refine zC ?_
  refine zA rfl rfl (zG (v := .pointer (some ⟨b1, 0, none⟩)) rfl) ?_
  refine zA rfl rfl (zG (v := v5) rfl) ?_
  refine zA rfl rfl (zG (v := .int .i64 g154) rfl) ?_
  obtain ⟨x205, e206, hF⟩ := zJ hF
  obtain ⟨b207, o208, c209, cs210, q211, h214, h212, h213, h215⟩ := wB (H.item (i := 0) rfl) e206
  obtain ⟨v216, rfl, h217⟩ := h214
  have H := H.fzs [.at b207 (o208 + g154.toNat * 1) _, .sl (Rp.int .i64) v216 x205] ⟨⟨h212, h213, h215⟩, h217, trivial⟩
  refine zA rfl rfl (xG u58 sz33 q211 rfl (yD e206).1 (yD e206).2.1 rfl rfl) ?_
  refine zA rfl rfl (zU one33 rfl (Cells.get (H.item (i := 4) rfl).2.2 (i := 0) rfl)) ?_
  obtain ⟨x220, e221, hF⟩ := zJ hF
  refine yJ rfl rfl (yC en66 rfl) (F_ref0_Ink_Ints_w (Orangeboxref0Ink.mk g156) x205 b1 v157 v216 _ e221 _ _ _ (H.enter [3, 2] [5, 1] (by decide) rfl)) ?_
  rintro _ w224 ⟨v222, rfl, G225⟩
  have H : Hd O _ w224 _ [.fz (.sl (Rp.sl (Rp.int .i64)) v5 p1), .fz (.at 2 0 ((Fl.arr 20 (Fl.int .u64)).f zY)), .fz (.at b207 (o208 + g154.toNat * 1) [v216]), .fz (.sl (Rp.int .i64) v216 x205), .own (Rp.int .u8) v222 5 x220.out, .blk b1 [v222] 94] := H.back [3, 2] [5, 1] rfl G225
  refine ⟨_, rfl, ?_⟩
  refine (zI (yU (zB (hK204 _ _ ?_))))
  refine zC ?_
  refine zA rfl rfl (zG (v := .int .i64 g154) rfl) ?_
  obtain ⟨x226, e227, hF⟩ := zH hF
  refine zA rfl rfl (xJ (a := g154) (b := 1) rfl rfl e227) ?_
  refine zA rfl rfl (zF (v := .int .i64 x226) rfl) ?_
  refine (zI (zB (And.intro ?_ ?_)))
  ·repeat' (first | with_reducible exact zN | refine zV rfl ?_ | refine zO rfl rfl ?_)
  exact ⟨(n163, x226, x220.out, v222), (zK rfl zQ), ⟨H.pick [0, 1, 5, 4] (by decide), hF⟩, Nat.lt_succ_self _⟩
 have hF := zX c182 hF
 have hR := Option.some.inj hF
 subst hR
 refine (xB (yN (yN (yR (post0n rfl ?_)))))
 exact ⟨v157, rfl, H.pick [3, 2] (by decide)⟩
end Go.Proofs.YtbjhondbheijiaaGreatDoor.L
namespace Go.Proofs.YtbjhondbheijiaaGreatDoor.L
open Go.RowKit Go.OB Go.Lf
/- (*orangebox/orangeboxref0.Ink).Errno -/
set_option maxHeartbeats 4000000 in
theorem F_ref0_Ink_Errno_w (p0 : Orangeboxref0Ink) (p1 : Int) (b1 : Nat) (v2 : Value) (r : Orangeboxref0Ink) (hF : F_ref0_Ink_Errno p0 p1 = some r) (O S : List Nat) (w : World) (H : Hd O w w S [.own (Rp.int .u8) v2 5 p0.out, .blk b1 [v2] 94, .fz (.at 2 0 ((Fl.arr 20 (Fl.int .u64)).f zY))]) :
  Calls Tryz.prog 45 ([.pointer (some ⟨b1, 0, none⟩), .int .i64 p1] : List Value).toArray w fun e w' => ∃ u6, e = .returned (.tuple #[]) ∧ Hd O w w' S [.own (Rp.int .u8) u6 5 r.out, .blk b1 [u6] 94] := by
 unfold F_ref0_Ink_Errno at hF
 refine yB 7 Tryz.func45 rfl rfl rfl ?_
 refine zC ?_
 refine zA rfl rfl (zG (v := .pointer (some ⟨b1, 0, none⟩)) rfl) ?_
 refine zA rfl rfl (zG (v := .int .i64 p1) rfl) ?_
 obtain ⟨x7, e8, hF⟩ := zJ hF
 refine yJ rfl rfl (yC en65 rfl) (F_ref0_Ink_Int_w p0 p1 b1 v2 _ e8 _ _ _ (H.enter [0, 1] [2] (by decide) rfl)) ?_
 rintro _ w11 ⟨v9, rfl, G12⟩
 have H : Hd O _ w11 _ [.fz (.at 2 0 ((Fl.arr 20 (Fl.int .u64)).f zY)), .own (Rp.int .u8) v9 5 x7.out, .blk b1 [v9] 94] := H.back [0, 1] [2] rfl G12
 refine ⟨_, rfl, ?_⟩
 have hR := Option.some.inj hF
 subst hR
 refine (zI (post0n rfl ?_))
 exact ⟨v9, rfl, H.pick [1, 2] (by decide)⟩
end Go.Proofs.YtbjhondbheijiaaGreatDoor.L
namespace Go.Proofs.YtbjhondbheijiaaGreatDoor.L
open Go.RowKit Go.OB Go.Lf
/- (*orangebox/orangeboxref0.Ink).Told -/
set_option maxHeartbeats 4000000 in
theorem F_ref0_Ink_Told_w (p0 : Option Orangeboxref0Ink) (v1 : Option Addr) (r : Str) (hF : F_ref0_Ink_Told p0 = some r) (O S : List Nat) (w : World) (H : Hd O w w S [.fz (.pt rOrangeboxref0Ink v1 p0)]) :
  Calls Tryz.prog 46 ([.pointer v1] : List Value).toArray w fun e w' => e = .returned (.string (bs r)) ∧ Hd O w w' S [] := by
 unfold F_ref0_Ink_Told at hF
 refine yB 8 Tryz.func46 rfl rfl rfl ?_
 refine zD fun K3 hK3 => ?_
 refine zC ?_
 refine zA rfl rfl (zF (v := .string (bs [])) rfl) ?_
 refine (zI (zB (hK3 _ _ ?_)))
 refine zD fun K4 hK4 => ?_
 refine zC ?_
 refine zA rfl rfl (zG (v := .pointer v1) rfl) ?_
 obtain ⟨x5, e6, hF⟩ := zJ hF
 obtain ⟨b7, o8, cs9, q10, h11, h12, h13, h14⟩ := ptf_some ((H.item (i := 0) rfl) : PtF _ _ _ _ _) e6
 obtain ⟨v15, rfl, h16⟩ := rOrangeboxref0Ink_open h13
 have H := H.fzs [.at b7 o8 _, .sl (Rp.int .u8) v15 x5.out] ⟨⟨h11, h12, h14⟩, h16, trivial⟩
 refine zA rfl rfl (Do_nilCheck (ad := ⟨b7, o8, none⟩) (congrArg Value.pointer q10)) ?_
 refine zA rfl rfl (fa94_0 rfl) ?_
 refine zA rfl rfl (zU one92 rfl (Cells.get (H.item (i := 1) rfl).2.2 (i := 0) rfl)) ?_
 obtain ⟨x19, e20, hF⟩ := zH hF
 refine zA rfl rfl (zT (Do_bytestr (xl := x5.out) u92 u5 u9 rfl (Sr.of_rd (H.item (i := 2) rfl))) (congrArg (fun s => Value.string (bs s)) e20)) ?_
 refine zA rfl rfl (zF (v := .string (bs x19)) rfl) ?_
 refine (zI (zB (hK4 _ _ ?_)))
 have hR := Option.some.inj hF
 subst hR
 refine (yG (post1 (v1 := .string (bs x19)) rfl rfl ?_))
 exact ⟨rfl, H.pick [] (by decide)⟩
end Go.Proofs.YtbjhondbheijiaaGreatDoor.L
namespace Go.Proofs.YtbjhondbheijiaaGreatDoor.L
open Go.RowKit Go.OB Go.Lf
/- orangebox/orangeboxlaw9.lists -/
set_option maxHeartbeats 4000000 in
theorem F_law9_lists_w (p0 : List (List Int)) (p1 : Int) (v1 : Value) (r : Str) (hF : F_law9_lists p0 p1 = some r) (O S : List Nat) (w : World) (H : Hd O w w S [.fz (.sl (Rp.sl (Rp.int .i64)) v1 p0), .fz (.at 2 0 ((Fl.arr 20 (Fl.int .u64)).f zY))]) :
  Calls Tryz.prog 20 ([v1, .int .i64 p1] : List Value).toArray w fun e w' => e = .returned (.string (bs r)) ∧ Hd O w w' S [] := by
 unfold F_law9_lists at hF
 refine yB 16 Tryz.func20 rfl rfl rfl ?_
 refine zD fun K4 hK4 => ?_
 refine zC ?_
 refine zA rfl rfl (zF (v := .string (bs [])) rfl) ?_
 refine (zI (zB (hK4 _ _ ?_)))
 refine zD fun K5 hK5 => ?_
 refine zC ?_
 refine zA rfl rfl (Do_build (cs := [.slice none 0 0]) bz94) ?_
 refine xE rfl rfl (Lx_box (cs := [.slice none 0 0]) rfl H) ?_
 rintro _ w8 ⟨b6, rfl, H⟩
 refine zA rfl rfl (zF (v := .pointer (some ⟨b6, 0, none⟩)) rfl) ?_
 refine (zI (zB (hK5 _ _ ?_)))
 refine zD fun K9 hK9 => ?_
 refine zC ?_
 refine zA rfl rfl (zG (v := .pointer (some ⟨b6, 0, none⟩)) rfl) ?_
 refine zA rfl rfl (zG (v := v1) rfl) ?_
 have H := own_nil H (Rp.int .u8) 5
 obtain ⟨x11, e12, hF⟩ := zJ hF
 refine yJ rfl rfl (yC en44 rfl) (F_ref0_Ink_Lists_w (Orangeboxref0Ink.mk []) p0 b6 (.slice none 0 0) v1 _ e12 _ _ _ (H.enter [3, 2] [0, 1] (by decide) rfl)) ?_
 rintro _ w15 ⟨v13, rfl, G16⟩
 have H : Hd O _ w15 _ [.fz (.sl (Rp.sl (Rp.int .i64)) v1 p0), .fz (.at 2 0 ((Fl.arr 20 (Fl.int .u64)).f zY)), .own (Rp.int .u8) v13 5 x11.out, .blk b6 [v13] 94] := H.back [3, 2] [0, 1] rfl G16
 refine ⟨_, rfl, ?_⟩
 refine (zI (zB (hK9 _ _ ?_)))
 refine zD fun K17 hK17 => ?_
 refine zC ?_
 refine zA rfl rfl (zG (v := .pointer (some ⟨b6, 0, none⟩)) rfl) ?_
 refine zA rfl rfl (zG (v := .int .i64 p1) rfl) ?_
 obtain ⟨x18, e19, hF⟩ := zJ hF
 refine yJ rfl rfl (yC en45 rfl) (F_ref0_Ink_Errno_w x11 p1 b6 v13 _ e19 _ _ _ (H.enter [2, 3] [1] (by decide) rfl)) ?_
 rintro _ w22 ⟨v20, rfl, G23⟩
 have H : Hd O _ w22 _ [.fz (.sl (Rp.sl (Rp.int .i64)) v1 p0), .fz (.at 2 0 ((Fl.arr 20 (Fl.int .u64)).f zY)), .own (Rp.int .u8) v20 5 x18.out, .blk b6 [v20] 94] := H.back [2, 3] [1] rfl G23
 refine ⟨_, rfl, ?_⟩
 refine (zI (zB (hK17 _ _ ?_)))
 refine zD fun K24 hK24 => ?_
 refine zC ?_
 refine zA rfl rfl (zG (v := .pointer (some ⟨b6, 0, none⟩)) rfl) ?_
 have H25 := H
 have H := H.freezeB (i := 3) rfl
 have H := H.freeze (i := 2) rfl
 have H := H.fz (.pt rOrangeboxref0Ink (some ⟨b6, 0, none⟩) (some x18)) ⟨_, _, _, rfl, (H.item (i := 3) rfl).1, (H.item (i := 3) rfl).2.1, (rOrangeboxref0Ink_mk (x := x18) (H.item (i := 2) rfl)), (H.item (i := 3) rfl).2.2⟩
 obtain ⟨x27, e28, hF⟩ := zJ hF
 refine yJ rfl rfl (yC en46 rfl) (F_ref0_Ink_Told_w (some x18) (some ⟨b6, 0, none⟩) _ e28 _ _ _ (H.enter [] [4] (by decide) rfl)) ?_
 rintro _ w29 ⟨rfl, G30⟩
 have H := H25.step (G30.only : Only [] _ _)
 refine ⟨_, rfl, ?_⟩
 refine zA rfl rfl (zF (v := .string (bs x27)) rfl) ?_
 refine (zI (zB (hK24 _ _ ?_)))
 have hR := Option.some.inj hF
 subst hR
 refine (yG (post1 (v1 := .string (bs x27)) rfl rfl ?_))
 exact ⟨rfl, H.pick [] (by decide)⟩
end Go.Proofs.YtbjhondbheijiaaGreatDoor.L
namespace Go.Proofs.YtbjhondbheijiaaGreatDoor.L
open Go.RowKit Go.OB Go.Lf
/- orangebox/orangeboxlaw9.ints -/
set_option maxHeartbeats 4000000 in
theorem F_law9_ints_w (p0 : List Int) (p1 : Int) (v1 : Value) (r : Str) (hF : F_law9_ints p0 p1 = some r) (O S : List Nat) (w : World) (H : Hd O w w S [.fz (.sl (Rp.int .i64) v1 p0), .fz (.at 2 0 ((Fl.arr 20 (Fl.int .u64)).f zY))]) :
  Calls Tryz.prog 6 ([v1, .int .i64 p1] : List Value).toArray w fun e w' => e = .returned (.string (bs r)) ∧ Hd O w w' S [] := by
 unfold F_law9_ints at hF
 refine yB 9 Tryz.func6 rfl rfl rfl ?_
 refine zD fun K4 hK4 => ?_
 refine zC ?_
 refine zA rfl rfl (zF (v := .string (bs [])) rfl) ?_
 refine (zI (zB (hK4 _ _ ?_)))
 refine zD fun K5 hK5 => ?_
 refine zC ?_
 refine zA rfl rfl (zG (v := v1) rfl) ?_
 obtain ⟨x6, e7, hF⟩ := zH hF
 subst e7
 refine xE rfl rfl (Lx_bs (r := (Rp.sl (Rp.int .i64))) (xl := [p0]) (cs := [v1]) u58 el33 (by decide) (by decide) rfl (fillB_ones rfl rfl ⟨(slf_one (H.item (i := 0) rfl)), trivial⟩) H ⟨[v1], [], rfl, ⟨_, rfl, (H.item (i := 0) rfl)⟩, rfl⟩) ?_
 rintro v9 w10 H
 refine zA rfl rfl (zG (v := .int .i64 p1) rfl) ?_
 have H11 := H
 have H := H.freeze (i := 2) rfl
 obtain ⟨x12, e13, hF⟩ := zJ hF
 refine yJ rfl rfl (yC en20 rfl) (F_law9_lists_w ([p0] : List (List Int)) p1 v9 _ e13 _ _ _ (H.enter [] [2, 1] (by decide) rfl)) ?_
 rintro _ w14 ⟨rfl, G15⟩
 have H := H11.step (G15.only : Only [] _ _)
 refine ⟨_, rfl, ?_⟩
 refine zA rfl rfl (zF (v := .string (bs x12)) rfl) ?_
 refine (zI (zB (hK5 _ _ ?_)))
 have hR := Option.some.inj hF
 subst hR
 refine (yG (post1 (v1 := .string (bs x12)) rfl rfl ?_))
 exact ⟨rfl, H.pick [] (by decide)⟩
end Go.Proofs.YtbjhondbheijiaaGreatDoor.L
