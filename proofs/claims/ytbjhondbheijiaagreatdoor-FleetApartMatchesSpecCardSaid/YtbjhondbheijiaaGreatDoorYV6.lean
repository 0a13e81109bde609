/- Walks: what each function computes, for every argument; no condition but those that stand in the statements. -/
import Derived.Test.YtbjhondbheijiaaGreatDoorYV0
import Derived.Test.YtbjhondbheijiaaGreatDoorYV5
namespace Go.Proofs.YtbjhondbheijiaaGreatDoor.L
open Go.RowKit Go.OB Go.Lf
/- orangebox/orangeboxref9.masked -/
set_option maxHeartbeats 4000000 in
theorem F_ref9_masked_w (p0 : Flight) (p1 : Mask) (v1 : Value) (v3 : Value) (v4 : Value) (r : Flight) (hF : F_ref9_masked p0 p1 = some r) (O S : List Nat) (w : World) (H : Hd O w w S [.fz (.sl rTrack v1 p0.Tracks), .fz (.sl Rp.str v3 p1.Hide), .fz (.sl rGrain v4 p1.Grains)]) :
  Calls Tryz.prog 40 ([.agg [.string (bs p0.Tail), .string (bs p0.Route), .int .i64 p0.Day, .int .i64 p0.From, .int .i64 p0.To, v1].toArray, .agg [.bool p1.Tails, .int .i64 p1.Days, v3, v4, .int .i64 p1.Least].toArray] : List Value).toArray w fun e w' => ∃ u7, e = .returned (.agg [.string (bs r.Tail), .string (bs r.Route), .int .i64 r.Day, .int .i64 r.From, .int .i64 r.To, u7].toArray) ∧ Hd O w w' S [.fz (.sl rTrack u7 r.Tracks)] := by
 unfold F_ref9_masked at hF
 refine yB 121 Tryz.func40 rfl rfl rfl ?_
 refine zD fun K8 hK8 => ?_
 refine zC ?_
 refine xE rfl rfl (Lx_box (cs := [.string (bs p0.Tail), .string (bs p0.Route), .int .i64 p0.Day, .int .i64 p0.From, .int .i64 p0.To, v1]) rfl H) ?_
 rintro _ w11 ⟨b9, rfl, H⟩
 refine xE rfl rfl (Lx_box (cs := [.bool p1.Tails, .int .i64 p1.Days, v3, v4, .int .i64 p1.Least]) rfl H) ?_
 rintro _ w14 ⟨b12, rfl, H⟩
 refine xE rfl rfl (xR zero70 H) ?_
 rintro _ w17 ⟨b15, rfl, H⟩
 refine (zI (zB (hK8 _ _ ?_)))
 refine zD fun K18 hK18 => ?_
 refine zC ?_
 refine zA rfl rfl (zT (yV (cs := [.string (bs p0.Tail), .string (bs p0.Route), .int .i64 p0.Day, .int .i64 p0.From, .int .i64 p0.To, v1]) agg70 rfl sz70 rfl (Blk.cells (H.item (i := 3) rfl))) rfl) ?_
 refine xE rfl rfl (xR zero70 H) ?_
 rintro _ w21 ⟨b19, rfl, H⟩
 refine xO rfl (xA (vs := [.string (bs p0.Tail), .string (bs p0.Route), .int .i64 p0.Day, .int .i64 p0.From, .int .i64 p0.To, v1]) H 6 rfl sz70 rfl rfl rfl ⟨rfl, rfl, rfl, rfl, rfl, (slf_one (H.item (i := 0) rfl)), trivial⟩ rfl) ?_
 rintro w22 H
 refine (zI (zB (hK18 _ _ ?_)))
 obtain ⟨g26, hF, hK28⟩ := zJ hF
 refine yL [15, 16, 17] (fun (g : Unit) => []) (fun g wl => Hd O w wl S [.blk b9 [.string (bs p0.Tail), .string (bs p0.Route), .int .i64 p0.Day, .int .i64 p0.From, .int .i64 p0.To, v1] 70, .fz (.sl rTrack v1 p0.Tracks), .blk b12 [.bool p1.Tails, .int .i64 p1.Days, v3, v4, .int .i64 p1.Least] 26, .fz (.sl Rp.str v3 p1.Hide), .fz (.sl rGrain v4 p1.Grains), .blk b15 [.string (bs []), .string (bs []), .int .i64 0, .int .i64 0, .int .i64 0, .slice none 0 0] 70, .blk b19 [.string (bs g26), .string (bs p0.Route), .int .i64 p0.Day, .int .i64 p0.From, .int .i64 p0.To, v1] 70]) ?_ ?_
 ·skip
  refine zD fun K29 hK29 => ?_
  refine zC ?_
  refine zA rfl rfl (fa26_0 rfl) ?_
  refine zA rfl rfl (zU one4 rfl (Cells.get (Blk.cells (H.item (i := 4) rfl)) (i := 0) rfl)) ?_
  refine (zI (zB (hK29 _ _ ?_)))
  refine yF (b := p1.Tails) rfl (fun c30 => ?_) (fun c30 => ?_)
  ·have hF := zW c30 hF
   refine zC ?_
   refine zA rfl rfl (fa70_0 rfl) ?_
   refine xO rfl (Lx_store1 H 6 rfl sz9 rfl (v := .string (bs [])) rfl rfl rfl) ?_
   rintro w31 H
   have hR := Option.some.inj hF
   subst hR
   refine (zI (zB (And.intro ?_ ?_)))
   ·repeat' (first | with_reducible exact zN | refine zV rfl ?_ | refine zO rfl rfl ?_)
   exact ⟨(), zQ, H.pick [3, 0, 4, 1, 2, 5, 6] (by decide)⟩
  have hF := zX c30 hF
  have hR := Option.some.inj hF
  subst hR
  refine (yA (zB (And.intro ?_ ?_)))
  ·repeat' (first | with_reducible exact zN | refine zV rfl ?_ | refine zO rfl rfl ?_)
  exact ⟨(), zQ, H.pick [3, 0, 4, 1, 2, 5, 6] (by decide)⟩
 rintro _ ρ w27 H
 have hF := hK28
 refine zD fun K32 hK32 => ?_
 have H33 := H
 have H := H.rebase
 have H34 := H
 refine WP_mix0 H [0, 1, 2, 3, 4, 5, 6, 7, 8, 9] [.pure, .read, .pure, .read, .pure, .pure, .read, .pure, .pure, .eff] mixed (by kernel_rfl) (by kernel_rfl) (by kernel_rfl) rfl ?_
 refine Mx.zS rfl rfl rfl (fun w' hw' => fa70_2 rfl) ?_
 refine Mx.xM oS rfl rfl rfl (fun w' hw' => zU one3 rfl (Cells.get (Blk.cells ((H.sees hw').item (i := 0) rfl)) (i := 2) rfl)) ?_
 refine Mx.zS rfl rfl rfl (fun w' hw' => fa26_1 rfl) ?_
 refine Mx.xM oS rfl rfl rfl (fun w' hw' => zU one3 rfl (Cells.get (Blk.cells ((H.sees hw').item (i := 2) rfl)) (i := 1) rfl)) ?_
 obtain ⟨x35, e36, hF⟩ := zJ hF
 refine Mx.zS rfl rfl rfl (fun w' hw' => Do_quo' (j := p0.Day) (q := p1.Days) rfl rfl e36) ?_
 refine Mx.zS rfl rfl rfl (fun w' hw' => fa26_1 rfl) ?_
 refine Mx.xM oS rfl rfl rfl (fun w' hw' => zU one3 rfl (Cells.get (Blk.cells ((H.sees hw').item (i := 2) rfl)) (i := 1) rfl)) ?_
 obtain ⟨x37, e38, hF⟩ := zH hF
 refine Mx.zS rfl rfl rfl (fun w' hw' => Do_mul (a := x35) (b := p1.Days) rfl rfl e38) ?_
 refine Mx.zS rfl rfl rfl (fun w' hw' => fa70_2 rfl) ?_
 refine Mx.XL_exU oS rfl rfl (fun w' hw' => Lx_store1 (H.sees hw') 6 rfl sz3 rfl (v := .int .i64 x37) rfl rfl rfl) ?_
 rintro w' w39 hw' H
 refine ⟨H.only, ?_⟩
 refine Mx.wG fun w40 hS => ?_
 have H := H.sees hS
 have H := H33.rejoin H
 refine (zB (hK32 _ _ ?_))
 refine zD fun K41 hK41 => ?_
 refine zC ?_
 refine zA rfl rfl (fa70_5 rfl) ?_
 refine xO rfl (Lx_store1 H 6 rfl sz68 rfl (v := .slice none 0 0) rfl rfl rfl) ?_
 rintro w42 H
 refine (zI (zB (hK41 _ _ ?_)))
 obtain ⟨g2872, hF, hK2875⟩ := zJ hF
 refine yL [6, 7, 8, 9, 10, 11, 12, 13, 28, 29, 30, 31, 32, 33, 34, 35, 36, 37, 38, 39, 40, 41, 42, 43, 44, 45, 46, 47, 48, 49, 50, 51, 52, 53, 54, 55, 56, 57, 58, 59, 60, 61, 62, 63, 64, 65, 66, 67, 68, 69, 70, 71, 72, 73, 74, 75, 76, 77, 78, 79, 80, 81, 82, 83, 84, 85, 86, 87, 88, 89, 90, 91, 92, 93, 94, 95, 96, 97, 98, 99, 100, 101, 102, 103, 104, 105, 106, 107, 108, 109, 110, 111, 112, 113, 114, 115, 116, 117, 118, 119] (fun (g : Value) => []) (fun g wl => Hd O w wl S [.blk b15 [.string (bs []), .string (bs []), .int .i64 0, .int .i64 0, .int .i64 0, .slice none 0 0] 70, .blk b19 [.string (bs g26), .string (bs p0.Route), .int .i64 x37, .int .i64 p0.From, .int .i64 p0.To, g] 70, .own rTrack g 78 g2872]) ?_ ?_
 ·skip
  refine zD fun K2876 hK2876 => ?_
  refine zC ?_
  refine zA rfl rfl (zF (v := .int .i64 0) rfl) ?_
  refine (zI (zB (hK2876 _ _ ?_)))
  refine yK ?_
  have H := own_nil H rTrack 78
  unfold F_ref9_masked_L1 at hF
  obtain ⟨B5702, n5703, eB5704, hF⟩ := yT hF
  refine xC [6, 7, 8, 9, 10, 11, 12, 13, 28, 29, 30, 31, 32, 33, 34, 35, 36, 37, 38, 39, 40, 41, 42, 43, 44, 45, 46, 47, 48, 49, 50, 51, 52, 53, 54, 55, 56, 57, 58, 59, 60, 61, 62, 63, 64, 65, 66, 67, 68, 69, 70, 71, 72, 73, 74, 75, 76, 77, 78, 79, 80, 81, 82, 83, 84, 85, 86, 87, 88, 89, 90, 91, 92, 93, 94, 95, 96, 97, 98, 99, 100, 101, 102, 103, 104, 105, 106, 107, 108, 109, 110, 111, 112, 113, 114, 115, 116, 117, 118, 119] (fun (g : Nat × Int × (List Track) × Value) => [(6, .int .i64 g.2.1)]) (fun g wl => Hd O w wl S [.blk b9 [.string (bs p0.Tail), .string (bs p0.Route), .int .i64 p0.Day, .int .i64 p0.From, .int .i64 p0.To, v1] 70, .fz (.sl rTrack v1 p0.Tracks), .blk b12 [.bool p1.Tails, .int .i64 p1.Days, v3, v4, .int .i64 p1.Least] 26, .fz (.sl Rp.str v3 p1.Hide), .fz (.sl rGrain v4 p1.Grains), .blk b15 [.string (bs []), .string (bs []), .int .i64 0, .int .i64 0, .int .i64 0, .slice none 0 0] 70, .blk b19 [.string (bs g26), .string (bs p0.Route), .int .i64 x37, .int .i64 p0.From, .int .i64 p0.To, g.2.2.2] 70, .own rTrack g.2.2.2 78 g.2.2.1] ∧ loopN B5702 g.1 (g.2.1, g.2.2.1) = some g2872) (fun g => g.1) (n5703, 0, [], .slice none 0 0) (zK rfl zQ) ⟨H.pick [0, 1, 2, 3, 4, 5, 6, 7] (by decide), hF⟩ ?_
  clear H hF
  rintro ⟨n5703, g5697, g5699, v5700⟩ ρ w5706 ⟨H, hF⟩
  obtain ⟨n5707, rfl, hF⟩ := yX hF
  have hF := yY eB5704 hF
  refine zD fun K5717 hK5717 => ?_
  refine zD fun K5718 hK5718 => ?_
  refine zC ?_
  refine zA rfl rfl (zG (v := .int .i64 g5697) rfl) ?_
  refine zA rfl rfl (fa70_5 rfl) ?_
  refine zA rfl rfl (zU one68 rfl (Cells.get (Blk.cells (H.item (i := 0) rfl)) (i := 5) rfl)) ?_
  obtain ⟨x5719, e5720, hF⟩ := zH hF
  obtain ⟨a5721, c5722, q5723⟩ := SlF.len ((H.item (i := 1) rfl))
  refine zA rfl rfl (zT (xI u68 q5723) (congrArg (Value.int .i64) e5720)) ?_
  obtain ⟨x5724, e5725, hF⟩ := zH hF
  refine zA rfl rfl (zT (xK (a := g5697) (b := x5719) rfl rfl) (congrArg Value.bool e5725)) ?_
  refine (zI (zB (hK5718 _ _ ?_)))
  refine yF (b := x5724) rfl (fun c5726 => ?_) (fun c5726 => ?_)
  ·have hF := zW c5726 hF
   refine (yA (zB (hK5717 _ _ ?_)))
   obtain ⟨g6582, hF, hK6585⟩ := zJ hF
   refine yL [7, 8, 9, 10, 11, 12, 13, 35, 36, 37, 38, 39, 40, 41, 42, 43, 44, 45, 46, 47, 48, 49, 50, 51, 52, 53, 54, 55, 56, 57, 58, 59, 60, 61, 62, 63, 64, 65, 66, 67, 68, 69, 70, 71, 72, 73, 74, 75, 76, 77, 78, 79, 80, 81, 82, 83, 84, 85, 86, 87, 88, 89, 90, 91, 92, 93, 94, 95, 96, 97, 98, 99, 100, 101, 102, 103, 104, 105, 106, 107, 108, 109, 110, 111, 112, 113, 114, 115, 116, 117, 118, 119] (fun (g : Value) => []) (fun g wl => Hd O w wl S [.blk b9 [.string (bs p0.Tail), .string (bs p0.Route), .int .i64 p0.Day, .int .i64 p0.From, .int .i64 p0.To, v1] 70, .fz (.sl rTrack v1 p0.Tracks), .blk b12 [.bool p1.Tails, .int .i64 p1.Days, v3, v4, .int .i64 p1.Least] 26, .fz (.sl Rp.str v3 p1.Hide), .fz (.sl rGrain v4 p1.Grains), .blk b15 [.string (bs []), .string (bs []), .int .i64 0, .int .i64 0, .int .i64 0, .slice none 0 0] 70, .blk b19 [.string (bs g26), .string (bs p0.Route), .int .i64 x37, .int .i64 p0.From, .int .i64 p0.To, g] 70, .own rTrack g 78 g6582]) ?_ ?_
   ·skip
    refine yK ?_
    refine zD fun K6586 hK6586 => ?_
    refine zC ?_
    refine zA rfl rfl (fa70_5 rfl) ?_
    refine zA rfl rfl (zU one68 rfl (Cells.get (Blk.cells (H.item (i := 0) rfl)) (i := 5) rfl)) ?_
    refine zA rfl rfl (zG (v := .int .i64 g5697) rfl) ?_
    obtain ⟨x6587, e6588, hF⟩ := zJ hF
    obtain ⟨b6589, o6590, c6591, cs6592, q6593, h6596, h6594, h6595, h6597⟩ := wB (H.item (i := 1) rfl) e6588
    obtain ⟨v6598, rfl, h6599⟩ := rTrack_open h6596
    have H := H.fzs [.at b6589 (o6590 + g5697.toNat * 4) _, .sl rSample v6598 x6587.Series.Samples] ⟨⟨h6594, h6595, h6597⟩, h6599, trivial⟩
    refine zA rfl rfl (xG u68 sz78 q6593 rfl (yD e6588).1 (yD e6588).2.1 rfl rfl) ?_
    refine zA rfl rfl (zT (yV (cs := [.string (bs x6587.Name), .int .i64 x6587.Series.Den, v6598, .int .i64 x6587.Long]) agg78 rfl sz78 rfl (H.item (i := 8) rfl).2.2) rfl) ?_
    refine xE rfl rfl (xR zero78 H) ?_
    rintro _ w6604 ⟨b6602, rfl, H⟩
    refine xO rfl (xA (vs := [.string (bs x6587.Name), .int .i64 x6587.Series.Den, v6598, .int .i64 x6587.Long]) H 10 rfl sz78 rfl rfl rfl ⟨rfl, rfl, (slf_one (H.item (i := 9) rfl)), rfl, trivial⟩ rfl) ?_
    rintro w6605 H
    refine (zI (zB (hK6586 _ _ ?_)))
    refine zD fun K6606 hK6606 => ?_
    refine zC ?_
    refine zA rfl rfl (zF (v := .bool false) rfl) ?_
    refine (zI (zB (hK6606 _ _ ?_)))
    obtain ⟨g6715, hF, hK6717⟩ := zJ hF
    refine yL [8, 9, 40, 41, 42, 43, 44, 45, 46, 47, 48, 49, 50, 51, 52, 53, 54, 55, 56, 57] (fun (g : Unit) => [(8, .bool g6715)]) (fun g wl => Hd O w wl S [.blk b9 [.string (bs p0.Tail), .string (bs p0.Route), .int .i64 p0.Day, .int .i64 p0.From, .int .i64 p0.To, v1] 70, .fz (.sl rTrack v1 p0.Tracks), .blk b12 [.bool p1.Tails, .int .i64 p1.Days, v3, v4, .int .i64 p1.Least] 26, .fz (.sl Rp.str v3 p1.Hide), .fz (.sl rGrain v4 p1.Grains), .blk b15 [.string (bs []), .string (bs []), .int .i64 0, .int .i64 0, .int .i64 0, .slice none 0 0] 70, .blk b19 [.string (bs g26), .string (bs p0.Route), .int .i64 x37, .int .i64 p0.From, .int .i64 p0.To, v5700] 70, .own rTrack v5700 78 g5699, .blk b6602 [.string (bs x6587.Name), .int .i64 x6587.Series.Den, v6598, .int .i64 x6587.Long] 78, .fz (.sl rSample v6598 x6587.Series.Samples)]) ?_ ?_
    ·skip
     refine zD fun K6718 hK6718 => ?_
     refine zC ?_
     refine zA rfl rfl (zF (v := .int .i64 0) rfl) ?_
     refine (zI (zB (hK6718 _ _ ?_)))
     refine yK ?_
     unfold F_ref9_masked_L2 at hF
     obtain ⟨B6822, n6823, eB6824, hF⟩ := yT hF
     refine xC [8, 9, 40, 41, 42, 43, 44, 45, 46, 47, 48, 49, 50, 51, 52, 53, 54, 55, 56, 57] (fun (g : Nat × Bool × Int) => [(8, .bool g.2.1), (9, .int .i64 g.2.2)]) (fun g wl => Hd O w wl S [.blk b9 [.string (bs p0.Tail), .string (bs p0.Route), .int .i64 p0.Day, .int .i64 p0.From, .int .i64 p0.To, v1] 70, .fz (.sl rTrack v1 p0.Tracks), .blk b12 [.bool p1.Tails, .int .i64 p1.Days, v3, v4, .int .i64 p1.Least] 26, .fz (.sl Rp.str v3 p1.Hide), .fz (.sl rGrain v4 p1.Grains), .blk b15 [.string (bs []), .string (bs []), .int .i64 0, .int .i64 0, .int .i64 0, .slice none 0 0] 70, .blk b19 [.string (bs g26), .string (bs p0.Route), .int .i64 x37, .int .i64 p0.From, .int .i64 p0.To, v5700] 70, .own rTrack v5700 78 g5699, .blk b6602 [.string (bs x6587.Name), .int .i64 x6587.Series.Den, v6598, .int .i64 x6587.Long] 78, .fz (.sl rSample v6598 x6587.Series.Samples)] ∧ loopN B6822 g.1 (g.2.1, g.2.2) = some g6715) (fun g => g.1) (n6823, false, 0) (zK rfl (zK rfl zQ)) ⟨H.pick [0, 1, 2, 3, 4, 5, 6, 7, 10, 9] (by decide), hF⟩ ?_
     clear H hF
     rintro ⟨n6823, g6820, g6821⟩ ρ w6826 ⟨H, hF⟩
     obtain ⟨n6827, rfl, hF⟩ := yX hF
     have hF := yY eB6824 hF
     refine zD fun K6837 hK6837 => ?_
     refine zD fun K6838 hK6838 => ?_
     refine zC ?_
     refine zA rfl rfl (zG (v := .int .i64 g6821) rfl) ?_
     refine zA rfl rfl (fa26_2 rfl) ?_
     refine zA rfl rfl (zU one23 rfl (Cells.get (Blk.cells (H.item (i := 2) rfl)) (i := 2) rfl)) ?_
     obtain ⟨x6839, e6840, hF⟩ := zH hF
     obtain ⟨a6841, c6842, q6843⟩ := SlF.len ((H.item (i := 3) rfl))
     refine zA rfl rfl (zT (xI u23 q6843) (congrArg (Value.int .i64) e6840)) ?_
     obtain ⟨x6844, e6845, hF⟩ := zH hF
     refine zA rfl rfl (zT (xK (a := g6821) (b := x6839) rfl rfl) (congrArg Value.bool e6845)) ?_
     refine (zI (zB (hK6838 _ _ ?_)))
     refine yF (b := x6844) rfl (fun c6846 => ?_) (fun c6846 => ?_)
     ·have hF := zW c6846 hF
      refine (yA (zB (hK6837 _ _ ?_)))
      obtain ⟨g6866, hF, hK6868⟩ := zJ hF
      refine yL [8, 47, 48, 49, 50, 51, 52, 53, 54, 55, 56, 57] (fun (g : Unit) => [(8, .bool g6866)]) (fun g wl => Hd O w wl S [.blk b9 [.string (bs p0.Tail), .string (bs p0.Route), .int .i64 p0.Day, .int .i64 p0.From, .int .i64 p0.To, v1] 70, .fz (.sl rTrack v1 p0.Tracks), .blk b12 [.bool p1.Tails, .int .i64 p1.Days, v3, v4, .int .i64 p1.Least] 26, .fz (.sl Rp.str v3 p1.Hide), .fz (.sl rGrain v4 p1.Grains), .blk b15 [.string (bs []), .string (bs []), .int .i64 0, .int .i64 0, .int .i64 0, .slice none 0 0] 70, .blk b19 [.string (bs g26), .string (bs p0.Route), .int .i64 x37, .int .i64 p0.From, .int .i64 p0.To, v5700] 70, .own rTrack v5700 78 g5699, .blk b6602 [.string (bs x6587.Name), .int .i64 x6587.Series.Den, v6598, .int .i64 x6587.Long] 78, .fz (.sl rSample v6598 x6587.Series.Samples)]) ?_ ?_
      ·skip
       refine yK ?_
       have H6869 := H
       have H := H.rebase
       have H6870 := H
       refine WP_mix0 H [0, 1, 2, 3, 4, 5, 6, 7, 8, 9, 10, 11] [.pure, .pure, .pure, .read, .pure, .pure, .read, .pure, .read, .pure, .pure, .pure] mixed (by kernel_rfl) (by kernel_rfl) (by kernel_rfl) rfl ?_
       refine Mx.zS rfl rfl rfl (fun w' hw' => zG (v := .bool g6820) rfl) ?_
       refine Mx.XL_splitb (b := g6820) rfl rfl rfl rfl (fun c6871 => ?_) (fun c6871 => ?_)
       ·have hF := zW c6871 hF
        refine Mx.xX rfl rfl rfl ?_
        refine Mx.XL_offr oS rfl rfl rfl ?_
        refine Mx.xX rfl rfl rfl ?_
        refine Mx.xX rfl rfl rfl ?_
        refine Mx.XL_offr oS rfl rfl rfl ?_
        refine Mx.xX rfl rfl rfl ?_
        refine Mx.XL_offr oS rfl rfl rfl ?_
        refine Mx.xX rfl rfl rfl ?_
        refine Mx.zS rfl rfl rfl (fun w' hw' => yI (v := .bool true) rfl rfl) ?_
        refine Mx.zS rfl rfl rfl (fun w' hw' => zF (v := .bool true) rfl) ?_
        refine Mx.wG fun w6872 hS => ?_
        have H := H.sees hS
        have H := H6869.rejoin H
        have hR := Option.some.inj hF
        subst hR
        refine (yU (zB (And.intro ?_ ?_)))
        ·repeat' (first | with_reducible exact zN | refine zV rfl ?_ | refine zO rfl rfl ?_)
        exact ⟨(), (zK rfl zQ), H.pick [0, 1, 2, 3, 4, 5, 6, 7, 8, 9] (by decide)⟩
       have hF := zX c6871 hF
       refine Mx.zS rfl rfl rfl (fun w' hw' => fa26_2 rfl) ?_
       refine Mx.xM oS rfl rfl rfl (fun w' hw' => zU one23 rfl (Cells.get (Blk.cells ((H.sees hw').item (i := 2) rfl)) (i := 2) rfl)) ?_
       refine Mx.zS rfl rfl rfl (fun w' hw' => zG (v := .int .i64 g6821) rfl) ?_
       obtain ⟨x6873, e6874, hF⟩ := zJ hF
       obtain ⟨b6875, o6876, c6877, cs6878, q6879, h6882, h6880, h6881, h6883⟩ := wB (H.item (i := 3) rfl) e6874
       obtain rfl : cs6878 = [.string (bs x6873)] := h6882
       have H := H.fz (.at b6875 (o6876 + g6821.toNat * 1) _) ⟨h6880, h6881, h6883⟩
       refine Mx.zS rfl rfl rfl (fun w' hw' => xG u23 sz9 q6879 rfl (yD e6874).1 (yD e6874).2.1 rfl rfl) ?_
       refine Mx.xM oS rfl rfl rfl (fun w' hw' => zU one9 rfl (Cells.get ((H.sees hw').item (i := 10) rfl).2.2 (i := 0) rfl)) ?_
       refine Mx.zS rfl rfl rfl (fun w' hw' => fa78_0 rfl) ?_
       refine Mx.xM oS rfl rfl rfl (fun w' hw' => zU one9 rfl (Cells.get (Blk.cells ((H.sees hw').item (i := 8) rfl)) (i := 0) rfl)) ?_
       obtain ⟨x6885, e6886, hF⟩ := zH hF
       refine Mx.zS rfl rfl rfl (fun w' hw' => zT (Do_eqls (s1 := x6873) (s2 := x6587.Name) rfl rfl) (congrArg Value.bool e6886)) ?_
       refine Mx.zS rfl rfl rfl (fun w' hw' => yH (v := .bool x6885) rfl rfl) ?_
       refine Mx.zS rfl rfl rfl (fun w' hw' => zF (v := .bool x6885) rfl) ?_
       refine Mx.wG fun w6887 hS => ?_
       have H := H.sees hS
       have H := H6869.rejoin H
       have hR := Option.some.inj hF
       subst hR
       refine (yU (zB (And.intro ?_ ?_)))
       ·repeat' (first | with_reducible exact zN | refine zV rfl ?_ | refine zO rfl rfl ?_)
       exact ⟨(), (zK rfl zQ), H.pick [0, 1, 2, 3, 4, 5, 6, 7, 8, 9] (by decide)⟩
      rintro _ ρ w6867 H
      have hF := hK6868
      refine zC ?_
      refine zA rfl rfl (zG (v := .int .i64 g6821) rfl) ?_
      obtain ⟨x6888, e6889, hF⟩ := zH hF
      refine zA rfl rfl (xJ (a := g6821) (b := 1) rfl rfl e6889) ?_
      refine zA rfl rfl (zF (v := .int .i64 x6888) rfl) ?_
      refine (zI (zB (And.intro ?_ ?_)))
      ·repeat' (first | with_reducible exact zN | refine zV rfl ?_ | refine zO rfl rfl ?_)
      exact ⟨(n6827, g6866, x6888), (zK rfl (zK rfl zQ)), ⟨H.pick [0, 1, 2, 3, 4, 5, 6, 7, 8, 9] (by decide), hF⟩, Nat.lt_succ_self _⟩
     have hF := zX c6846 hF
     have hR := Option.some.inj hF
     subst hR
     refine (xB (yN (yN (yR (zB (And.intro ?_ ?_))))))
     ·repeat' (first | with_reducible exact zN | refine zV rfl ?_ | refine zO rfl rfl ?_)
     exact ⟨(), (zK rfl zQ), H.pick [0, 1, 2, 3, 4, 5, 6, 7, 8, 9] (by decide)⟩
    rintro _ ρ w6716 H
    have hF := hK6717
    refine zD fun K6892 hK6892 => ?_
    refine zD fun K6893 hK6893 => ?_
    refine zC ?_
    refine zA rfl rfl (zG (v := .bool g6715) rfl) ?_
    refine (zI (zB (hK6893 _ _ ?_)))
    refine yF (b := g6715) rfl (fun c6894 => ?_) (fun c6894 => ?_)
    ·have hF := zW c6894 hF
     have hR := Option.some.inj hF
     subst hR
     refine (xB (yN (yR (zB (And.intro ?_ ?_)))))
     ·repeat' (first | with_reducible exact zN | refine zV rfl ?_ | refine zO rfl rfl ?_)
     exact ⟨v5700, zQ, H.pick [0, 1, 2, 3, 4, 5, 6, 7] (by decide)⟩
    have hF := zX c6894 hF
    refine (yA (zB (hK6892 _ _ ?_)))
    obtain ⟨g7599, hF, hK7602⟩ := zJ hF
    refine yL [10, 11, 12, 13, 59, 60, 61, 62, 63, 64, 65, 66, 67, 68, 69, 70, 71, 72, 73, 74, 75, 76, 77, 78, 79, 80, 81, 82, 83, 84, 85, 86, 87, 88, 89, 90, 91, 92, 93, 94, 95, 96, 97, 98, 99, 100, 101, 102, 103, 104, 105, 106, 107, 108, 109, 110, 111, 112, 113] (fun (g : Value) => []) (fun g wl => Hd O w wl S [.blk b9 [.string (bs p0.Tail), .string (bs p0.Route), .int .i64 p0.Day, .int .i64 p0.From, .int .i64 p0.To, v1] 70, .fz (.sl rTrack v1 p0.Tracks), .blk b12 [.bool p1.Tails, .int .i64 p1.Days, v3, v4, .int .i64 p1.Least] 26, .fz (.sl Rp.str v3 p1.Hide), .fz (.sl rGrain v4 p1.Grains), .blk b15 [.string (bs []), .string (bs []), .int .i64 0, .int .i64 0, .int .i64 0, .slice none 0 0] 70, .blk b19 [.string (bs g26), .string (bs p0.Route), .int .i64 x37, .int .i64 p0.From, .int .i64 p0.To, v5700] 70, .own rTrack v5700 78 g5699, .blk b6602 [.string (bs x6587.Name), .int .i64 x6587.Series.Den, g, .int .i64 x6587.Long] 78, .fz (.sl rSample g g7599)]) ?_ ?_
    ·skip
     refine zD fun K7603 hK7603 => ?_
     refine zC ?_
     refine zA rfl rfl (zF (v := .int .i64 0) rfl) ?_
     refine (zI (zB (hK7603 _ _ ?_)))
     refine yK ?_
     unfold F_ref9_masked_L3 at hF
     obtain ⟨B8304, n8305, eB8306, hF⟩ := yT hF
     refine xC [10, 11, 12, 13, 59, 60, 61, 62, 63, 64, 65, 66, 67, 68, 69, 70, 71, 72, 73, 74, 75, 76, 77, 78, 79, 80, 81, 82, 83, 84, 85, 86, 87, 88, 89, 90, 91, 92, 93, 94, 95, 96, 97, 98, 99, 100, 101, 102, 103, 104, 105, 106, 107, 108, 109, 110, 111, 112, 113] (fun (g : Nat × Int × (List Sample) × Value) => [(10, .int .i64 g.2.1)]) (fun g wl => Hd O w wl S [.blk b9 [.string (bs p0.Tail), .string (bs p0.Route), .int .i64 p0.Day, .int .i64 p0.From, .int .i64 p0.To, v1] 70, .fz (.sl rTrack v1 p0.Tracks), .blk b12 [.bool p1.Tails, .int .i64 p1.Days, v3, v4, .int .i64 p1.Least] 26, .fz (.sl Rp.str v3 p1.Hide), .fz (.sl rGrain v4 p1.Grains), .blk b15 [.string (bs []), .string (bs []), .int .i64 0, .int .i64 0, .int .i64 0, .slice none 0 0] 70, .blk b19 [.string (bs g26), .string (bs p0.Route), .int .i64 x37, .int .i64 p0.From, .int .i64 p0.To, v5700] 70, .own rTrack v5700 78 g5699, .blk b6602 [.string (bs x6587.Name), .int .i64 x6587.Series.Den, g.2.2.2, .int .i64 x6587.Long] 78, .fz (.sl rSample g.2.2.2 g.2.2.1)] ∧ loopN B8304 g.1 (g.2.1, g.2.2.1) = some g7599) (fun g => g.1) (n8305, 0, x6587.Series.Samples, v6598) (zK rfl zQ) ⟨H.pick [0, 1, 2, 3, 4, 5, 6, 7, 8, 9] (by decide), hF⟩ ?_
     clear H hF
     rintro ⟨n8305, g8300, g8302, v8303⟩ ρ w8308 ⟨H, hF⟩
     obtain ⟨n8309, rfl, hF⟩ := yX hF
     have hF := yY eB8306 hF
     refine zD fun K8319 hK8319 => ?_
     refine zD fun K8320 hK8320 => ?_
     refine zC ?_
     refine zA rfl rfl (zG (v := .int .i64 g8300) rfl) ?_
     refine zA rfl rfl (fa26_3 rfl) ?_
     refine zA rfl rfl (zU one24 rfl (Cells.get (Blk.cells (H.item (i := 2) rfl)) (i := 3) rfl)) ?_
     obtain ⟨x8321, e8322, hF⟩ := zH hF
     obtain ⟨a8323, c8324, q8325⟩ := SlF.len ((H.item (i := 4) rfl))
     refine zA rfl rfl (zT (xI u24 q8325) (congrArg (Value.int .i64) e8322)) ?_
     obtain ⟨x8326, e8327, hF⟩ := zH hF
     refine zA rfl rfl (zT (xK (a := g8300) (b := x8321) rfl rfl) (congrArg Value.bool e8327)) ?_
     refine (zI (zB (hK8320 _ _ ?_)))
     refine yF (b := x8326) rfl (fun c8328 => ?_) (fun c8328 => ?_)
     ·have hF := zW c8328 hF
      refine (yA (zB (hK8319 _ _ ?_)))
      obtain ⟨g8650, hF, hK8653⟩ := zJ hF
      refine yL [11, 12, 13, 66, 67, 68, 69, 70, 71, 72, 73, 74, 75, 76, 77, 78, 79, 80, 81, 82, 83, 84, 85, 86, 87, 88, 89, 90, 91, 92, 93, 94, 95, 96, 97, 98, 99, 100, 101, 102, 103, 104, 105, 106, 107, 108, 109, 110, 111, 112, 113] (fun (g : Value) => []) (fun g wl => Hd O w wl S [.blk b9 [.string (bs p0.Tail), .string (bs p0.Route), .int .i64 p0.Day, .int .i64 p0.From, .int .i64 p0.To, v1] 70, .fz (.sl rTrack v1 p0.Tracks), .blk b12 [.bool p1.Tails, .int .i64 p1.Days, v3, v4, .int .i64 p1.Least] 26, .fz (.sl Rp.str v3 p1.Hide), .fz (.sl rGrain v4 p1.Grains), .blk b15 [.string (bs []), .string (bs []), .int .i64 0, .int .i64 0, .int .i64 0, .slice none 0 0] 70, .blk b19 [.string (bs g26), .string (bs p0.Route), .int .i64 x37, .int .i64 p0.From, .int .i64 p0.To, v5700] 70, .own rTrack v5700 78 g5699, .blk b6602 [.string (bs x6587.Name), .int .i64 x6587.Series.Den, g, .int .i64 x6587.Long] 78, .fz (.sl rSample g g8650)]) ?_ ?_
      ·skip
       refine yK ?_
       refine zD fun K8673 hK8673 => ?_
       refine zD fun K8674 hK8674 => ?_
       have H8675 := H
       have H := H.rebase
       have H8676 := H
       refine WP_mix0 H [0, 1, 2, 3, 4, 5, 6, 7, 8] [.pure, .read, .pure, .pure, .pure, .read, .pure, .read, .pure] mixed (by kernel_rfl) (by kernel_rfl) (by kernel_rfl) rfl ?_
       refine Mx.zS rfl rfl rfl (fun w' hw' => fa26_3 rfl) ?_
       refine Mx.xM oS rfl rfl rfl (fun w' hw' => zU one24 rfl (Cells.get (Blk.cells ((H.sees hw').item (i := 2) rfl)) (i := 3) rfl)) ?_
       refine Mx.zS rfl rfl rfl (fun w' hw' => zG (v := .int .i64 g8300) rfl) ?_
       obtain ⟨x8677, e8678, hF⟩ := zJ hF
       obtain ⟨b8679, o8680, c8681, cs8682, q8683, h8686, h8684, h8685, h8687⟩ := wB (H.item (i := 4) rfl) e8678
       obtain rfl := rGrain_open h8686
       have H := H.fz (.at b8679 (o8680 + g8300.toNat * 2) _) ⟨h8684, h8685, h8687⟩
       refine Mx.zS rfl rfl rfl (fun w' hw' => xG u24 sz103 q8683 rfl (yD e8678).1 (yD e8678).2.1 rfl rfl) ?_
       refine Mx.zS rfl rfl rfl (fun w' hw' => fa103_0 rfl) ?_
       refine Mx.xM oS rfl rfl rfl (fun w' hw' => zU one9 rfl (Cells.get ((H.sees hw').item (i := 10) rfl).2.2 (i := 0) rfl)) ?_
       refine Mx.zS rfl rfl rfl (fun w' hw' => fa78_0 rfl) ?_
       refine Mx.xM oS rfl rfl rfl (fun w' hw' => zU one9 rfl (Cells.get (Blk.cells ((H.sees hw').item (i := 8) rfl)) (i := 0) rfl)) ?_
       obtain ⟨x8689, e8690, hF⟩ := zH hF
       refine Mx.zS rfl rfl rfl (fun w' hw' => zT (Do_neqs (s1 := x8677.Track) (s2 := x6587.Name) rfl rfl) (congrArg Value.bool e8690)) ?_
       refine Mx.wG fun w8691 hS => ?_
       have H := H.sees hS
       have H := H8675.rejoin H
       refine (zB (hK8674 _ _ ?_))
       refine yF (b := x8689) rfl (fun c8692 => ?_) (fun c8692 => ?_)
       ·have hF := zW c8692 hF
        have hR := Option.some.inj hF
        subst hR
        refine (xB (yN (yR (zB (And.intro ?_ ?_)))))
        ·repeat' (first | with_reducible exact zN | refine zV rfl ?_ | refine zO rfl rfl ?_)
        exact ⟨v8303, zQ, H.pick [0, 1, 2, 3, 4, 5, 6, 7, 8, 9] (by decide)⟩
       have hF := zX c8692 hF
       refine (yA (zB (hK8673 _ _ ?_)))
       refine zD fun K8693 hK8693 => ?_
       refine zC ?_
       refine zA rfl rfl (fa78_1 rfl) ?_
       refine zA rfl rfl (fa76_0 rfl) ?_
       refine zA rfl rfl (zU one3 rfl (Cells.get (Blk.cells (H.item (i := 8) rfl)) (i := 1) rfl)) ?_
       refine zA rfl rfl (Do_build (cs := [.int .i64 x6587.Series.Den, .slice none 0 0]) (bt76_0 _)) ?_
       refine xE rfl rfl (xR zero76 H) ?_
       rintro _ w8696 ⟨b8694, rfl, H⟩
       refine xO rfl (xA (vs := [.int .i64 x6587.Series.Den, .slice none 0 0]) H 11 rfl sz76 rfl rfl rfl ⟨rfl, rfl, trivial⟩ rfl) ?_
       rintro w8697 H
       refine (zI (zB (hK8693 _ _ ?_)))
       obtain ⟨g8969, hF, hK8972⟩ := zJ hF
       refine yL [12, 13, 79, 80, 81, 82, 83, 84, 85, 86, 87, 88, 89, 90, 91, 92, 93, 94, 95, 96, 97, 98, 99, 100, 101, 102, 103, 104, 105, 106, 107, 108, 109, 110, 111] (fun (g : Value) => []) (fun g wl => Hd O w wl S [.blk b9 [.string (bs p0.Tail), .string (bs p0.Route), .int .i64 p0.Day, .int .i64 p0.From, .int .i64 p0.To, v1] 70, .fz (.sl rTrack v1 p0.Tracks), .blk b12 [.bool p1.Tails, .int .i64 p1.Days, v3, v4, .int .i64 p1.Least] 26, .fz (.sl Rp.str v3 p1.Hide), .fz (.sl rGrain v4 p1.Grains), .blk b15 [.string (bs []), .string (bs []), .int .i64 0, .int .i64 0, .int .i64 0, .slice none 0 0] 70, .blk b19 [.string (bs g26), .string (bs p0.Route), .int .i64 x37, .int .i64 p0.From, .int .i64 p0.To, v5700] 70, .own rTrack v5700 78 g5699, .blk b6602 [.string (bs x6587.Name), .int .i64 x6587.Series.Den, v8303, .int .i64 x6587.Long] 78, .fz (.sl rSample v8303 g8302), .blk b8694 [.int .i64 x6587.Series.Den, g] 76, .own rSample g 109 g8969]) ?_ ?_
       ·skip
        refine zD fun K8973 hK8973 => ?_
        refine zC ?_
        refine zA rfl rfl (zF (v := .int .i64 0) rfl) ?_
        refine (zI (zB (hK8973 _ _ ?_)))
        refine yK ?_
        have H := own_nil H rSample 109
        unfold F_ref9_masked_L4 at hF
        obtain ⟨B9241, n9242, eB9243, hF⟩ := yT hF
        refine xC [12, 13, 79, 80, 81, 82, 83, 84, 85, 86, 87, 88, 89, 90, 91, 92, 93, 94, 95, 96, 97, 98, 99, 100, 101, 102, 103, 104, 105, 106, 107, 108, 109, 110, 111] (fun (g : Nat × Int × (List Sample) × Value) => [(12, .int .i64 g.2.1)]) (fun g wl => Hd O w wl S [.blk b9 [.string (bs p0.Tail), .string (bs p0.Route), .int .i64 p0.Day, .int .i64 p0.From, .int .i64 p0.To, v1] 70, .fz (.sl rTrack v1 p0.Tracks), .blk b12 [.bool p1.Tails, .int .i64 p1.Days, v3, v4, .int .i64 p1.Least] 26, .fz (.sl Rp.str v3 p1.Hide), .fz (.sl rGrain v4 p1.Grains), .blk b15 [.string (bs []), .string (bs []), .int .i64 0, .int .i64 0, .int .i64 0, .slice none 0 0] 70, .blk b19 [.string (bs g26), .string (bs p0.Route), .int .i64 x37, .int .i64 p0.From, .int .i64 p0.To, v5700] 70, .own rTrack v5700 78 g5699, .blk b6602 [.string (bs x6587.Name), .int .i64 x6587.Series.Den, v8303, .int .i64 x6587.Long] 78, .fz (.sl rSample v8303 g8302), .blk b8694 [.int .i64 x6587.Series.Den, g.2.2.2] 76, .own rSample g.2.2.2 109 g.2.2.1] ∧ loopN B9241 g.1 (g.2.1, g.2.2.1) = some g8969) (fun g => g.1) (n9242, 0, [], .slice none 0 0) (zK rfl zQ) ⟨H.pick [0, 1, 2, 3, 4, 5, 6, 7, 8, 9, 11, 12] (by decide), hF⟩ ?_
        clear H hF
        rintro ⟨n9242, g9236, g9238, v9239⟩ ρ w9245 ⟨H, hF⟩
        obtain ⟨n9246, rfl, hF⟩ := yX hF
        have hF := yY eB9243 hF
        refine zD fun K9256 hK9256 => ?_
        refine zD fun K9257 hK9257 => ?_
        refine zC ?_
        refine zA rfl rfl (zG (v := .int .i64 g9236) rfl) ?_
        refine zA rfl rfl (fa78_1 rfl) ?_
        refine zA rfl rfl (fa76_1 rfl) ?_
        refine zA rfl rfl (zU one74 rfl (Cells.get (Blk.cells (H.item (i := 8) rfl)) (i := 2) rfl)) ?_
        obtain ⟨x9258, e9259, hF⟩ := zH hF
        obtain ⟨a9260, c9261, q9262⟩ := SlF.len ((H.item (i := 9) rfl))
        refine zA rfl rfl (zT (xI u74 q9262) (congrArg (Value.int .i64) e9259)) ?_
        obtain ⟨x9263, e9264, hF⟩ := zH hF
        refine zA rfl rfl (zT (xK (a := g9236) (b := x9258) rfl rfl) (congrArg Value.bool e9264)) ?_
        refine (zI (zB (hK9257 _ _ ?_)))
        refine yF (b := x9263) rfl (fun c9265 => ?_) (fun c9265 => ?_)
        ·have hF := zW c9265 hF
         refine (yA (zB (hK9256 _ _ ?_)))
         refine zD fun K9319 hK9319 => ?_
         refine yK ?_
         refine zD fun K9320 hK9320 => ?_
         refine zC ?_
         refine zA rfl rfl (fa78_1 rfl) ?_
         refine zA rfl rfl (fa76_1 rfl) ?_
         refine zA rfl rfl (zU one74 rfl (Cells.get (Blk.cells (H.item (i := 8) rfl)) (i := 2) rfl)) ?_
         refine zA rfl rfl (zG (v := .int .i64 g9236) rfl) ?_
         obtain ⟨x9321, e9322, hF⟩ := zJ hF
         obtain ⟨b9323, o9324, c9325, cs9326, q9327, h9330, h9328, h9329, h9331⟩ := wB (H.item (i := 9) rfl) e9322
         obtain rfl := rSample_open h9330
         have H := H.fz (.at b9323 (o9324 + g9236.toNat * 3) _) ⟨h9328, h9329, h9331⟩
         refine zA rfl rfl (xG u74 sz109 q9327 rfl (yD e9322).1 (yD e9322).2.1 rfl rfl) ?_
         refine zA rfl rfl (zT (yV (cs := [.int .i64 x9321.At, .int .i64 x9321.N, .int .i64 x9321.Mark]) agg109 rfl sz109 rfl (H.item (i := 12) rfl).2.2) rfl) ?_
         refine xE rfl rfl (xR zero109 H) ?_
         rintro _ w9335 ⟨b9333, rfl, H⟩
         refine xO rfl (xA (vs := [.int .i64 x9321.At, .int .i64 x9321.N, .int .i64 x9321.Mark]) H 13 rfl sz109 rfl rfl rfl ⟨rfl, rfl, rfl, trivial⟩ rfl) ?_
         rintro w9336 H
         refine (zI (zB (hK9320 _ _ ?_)))
         obtain ⟨g9360, hF, hK9362⟩ := zJ hF
         refine yL [93, 94, 95, 96, 97, 98, 99, 100, 101, 102, 103, 104, 105] (fun (g : Unit) => []) (fun g wl => Hd O w wl S [.blk b9 [.string (bs p0.Tail), .string (bs p0.Route), .int .i64 p0.Day, .int .i64 p0.From, .int .i64 p0.To, v1] 70, .fz (.sl rTrack v1 p0.Tracks), .blk b12 [.bool p1.Tails, .int .i64 p1.Days, v3, v4, .int .i64 p1.Least] 26, .fz (.sl Rp.str v3 p1.Hide), .fz (.sl rGrain v4 p1.Grains), .blk b15 [.string (bs []), .string (bs []), .int .i64 0, .int .i64 0, .int .i64 0, .slice none 0 0] 70, .blk b19 [.string (bs g26), .string (bs p0.Route), .int .i64 x37, .int .i64 p0.From, .int .i64 p0.To, v5700] 70, .own rTrack v5700 78 g5699, .blk b6602 [.string (bs x6587.Name), .int .i64 x6587.Series.Den, v8303, .int .i64 x6587.Long] 78, .fz (.sl rSample v8303 g8302), .blk b8694 [.int .i64 x6587.Series.Den, v9239] 76, .own rSample v9239 109 g9238, .blk b9333 [.int .i64 x9321.At, .int .i64 g9360, .int .i64 x9321.Mark] 109]) ?_ ?_
         ·skip
          refine zD fun K9363 hK9363 => ?_
          refine zC ?_
          refine zA rfl rfl (fa109_2 rfl) ?_
          refine zA rfl rfl (zU one3 rfl (Cells.get (Blk.cells (H.item (i := 13) rfl)) (i := 2) rfl)) ?_
          obtain ⟨x9364, e9365, hF⟩ := zH hF
          refine zA rfl rfl (zT (Do_geq (a := x9321.Mark) (b := 2) rfl rfl) (congrArg Value.bool e9365)) ?_
          refine (zI (zB (hK9363 _ _ ?_)))
          refine yF (b := x9364) rfl (fun c9366 => ?_) (fun c9366 => ?_)
          ·have hF := zW c9366 hF
           have H9367 := H
           have H := H.rebase
           have H9368 := H
           refine WP_mix0 H [0, 1, 2, 3, 4, 5, 6, 7, 8, 9, 10] [.pure, .read, .pure, .read, .pure, .pure, .pure, .read, .fcall, .pure, .eff] mixed (by kernel_rfl) (by kernel_rfl) (by kernel_rfl) rfl ?_
           refine Mx.zS rfl rfl rfl (fun w' hw' => fa109_1 rfl) ?_
           refine Mx.xM oS rfl rfl rfl (fun w' hw' => zU one3 rfl (Cells.get (Blk.cells ((H.sees hw').item (i := 13) rfl)) (i := 1) rfl)) ?_
           refine Mx.zS rfl rfl rfl (fun w' hw' => fa26_3 rfl) ?_
           refine Mx.xM oS rfl rfl rfl (fun w' hw' => zU one24 rfl (Cells.get (Blk.cells ((H.sees hw').item (i := 2) rfl)) (i := 3) rfl)) ?_
           refine Mx.zS rfl rfl rfl (fun w' hw' => zG (v := .int .i64 g8300) rfl) ?_
           obtain ⟨x9369, e9370, hF⟩ := zJ hF
           obtain ⟨b9371, o9372, c9373, cs9374, q9375, h9378, h9376, h9377, h9379⟩ := wB (H.item (i := 4) rfl) e9370
           obtain rfl := rGrain_open h9378
           have H := H.fz (.at b9371 (o9372 + g8300.toNat * 2) _) ⟨h9376, h9377, h9379⟩
           refine Mx.zS rfl rfl rfl (fun w' hw' => xG u24 sz103 q9375 rfl (yD e9370).1 (yD e9370).2.1 rfl rfl) ?_
           refine Mx.zS rfl rfl rfl (fun w' hw' => fa103_1 rfl) ?_
           refine Mx.xM oS rfl rfl rfl (fun w' hw' => zU one3 rfl (Cells.get ((H.sees hw').item (i := 14) rfl).2.2 (i := 1) rfl)) ?_
           have H9381 := H
           obtain ⟨x9382, e9383, hF⟩ := zJ hF
           refine Mx.XL_fcall oS rfl rfl rfl (v := .int .i64 x9382) (fun w' hw' => yC en63 rfl) (fun w' hw' => call_read (F_ref9_floor_w x9321.N x9369.N _ e9383 _ _ _ (Hd.fresh0 w'))) ?_
           have H := H9381
           refine Mx.zS rfl rfl rfl (fun w' hw' => fa109_1 rfl) ?_
           refine Mx.XL_exU oS rfl rfl (fun w' hw' => Lx_store1 (H.sees hw') 13 rfl sz3 rfl (v := .int .i64 x9382) rfl rfl rfl) ?_
           rintro w' w9384 hw' H
           refine ⟨H.only, ?_⟩
           refine Mx.wG fun w9385 hS => ?_
           have H := H.sees hS
           have H := H9367.rejoin H
           have hR := Option.some.inj hF
           subst hR
           refine (zB (And.intro ?_ ?_))
           ·repeat' (first | with_reducible exact zN | refine zV rfl ?_ | refine zO rfl rfl ?_)
           exact ⟨(), zQ, H.pick [0, 1, 2, 3, 4, 5, 6, 7, 8, 9, 10, 11, 13] (by decide)⟩
          have hF := zX c9366 hF
          have hR := Option.some.inj hF
          subst hR
          refine (yA (zB (And.intro ?_ ?_)))
          ·repeat' (first | with_reducible exact zN | refine zV rfl ?_ | refine zO rfl rfl ?_)
          exact ⟨(), zQ, H.pick [0, 1, 2, 3, 4, 5, 6, 7, 8, 9, 10, 11, 13] (by decide)⟩
         rintro _ ρ w9361 H
         have hF := hK9362
         refine zC ?_
         refine zA rfl rfl (fa76_1 rfl) ?_
         refine zA rfl rfl (zU one74 rfl (Cells.get (Blk.cells (H.item (i := 10) rfl)) (i := 1) rfl)) ?_
         refine zA rfl rfl (zT (yV (cs := [.int .i64 x9321.At, .int .i64 g9360, .int .i64 x9321.Mark]) agg109 rfl sz109 rfl (Blk.cells (H.item (i := 12) rfl))) rfl) ?_
         obtain ⟨x9386, e9387, hF⟩ := zH hF
         subst e9387
         refine xE rfl rfl (Lx_bs (r := rSample) (xl := [Sample.mk x9321.At g9360 x9321.Mark]) (cs := [.int .i64 x9321.At, .int .i64 g9360, .int .i64 x9321.Mark]) u74 el109 (by decide) (by decide) rfl (xW (vs := [.agg [.int .i64 x9321.At, .int .i64 g9360, .int .i64 x9321.Mark].toArray]) (by decide) rfl rfl ⟨rfl, trivial⟩ rfl) H ⟨[.int .i64 x9321.At, .int .i64 g9360, .int .i64 x9321.Mark], [], rfl, (rSample_mk (x := Sample.mk x9321.At g9360 x9321.Mark)), rfl⟩) ?_
         rintro v9389 w9390 H
         obtain ⟨x9391, e9392, hF⟩ := zJ hF
         refine xE rfl rfl (Lx_app H (i := 11) rfl u74 el109 rfl rfl (Sr.of_own (H.item (i := 13) rfl)) e9392) ?_
         rintro v9393 w9394 H
         refine zA rfl rfl (fa76_1 rfl) ?_
         refine xO rfl (Lx_store1 H 10 rfl sz74 rfl (v := v9393) rfl (own_one (H.item (i := 11) rfl)) rfl) ?_
         rintro w9395 H
         refine (zI (yU (zB (hK9319 _ _ ?_))))
         refine zC ?_
         refine zA rfl rfl (zG (v := .int .i64 g9236) rfl) ?_
         obtain ⟨x9396, e9397, hF⟩ := zH hF
         refine zA rfl rfl (xJ (a := g9236) (b := 1) rfl rfl e9397) ?_
         refine zA rfl rfl (zF (v := .int .i64 x9396) rfl) ?_
         refine (zI (zB (And.intro ?_ ?_)))
         ·repeat' (first | with_reducible exact zN | refine zV rfl ?_ | refine zO rfl rfl ?_)
         exact ⟨(n9246, x9396, x9391, v9393), (zK rfl zQ), ⟨H.pick [0, 1, 2, 3, 4, 5, 6, 7, 8, 9, 10, 11] (by decide), hF⟩, Nat.lt_succ_self _⟩
        have hF := zX c9265 hF
        have hR := Option.some.inj hF
        subst hR
        refine (xB (yN (yN (yR (zB (And.intro ?_ ?_))))))
        ·repeat' (first | with_reducible exact zN | refine zV rfl ?_ | refine zO rfl rfl ?_)
        exact ⟨v9239, zQ, H.pick [0, 1, 2, 3, 4, 5, 6, 7, 8, 9, 10, 11] (by decide)⟩
       rintro v8970 ρ w8971 H
       have hF := hK8972
       refine zC ?_
       refine zA rfl rfl (zT (yV (cs := [.int .i64 x6587.Series.Den, v8970]) agg76 rfl sz76 rfl (Blk.cells (H.item (i := 10) rfl))) rfl) ?_
       refine zA rfl rfl (fa78_1 rfl) ?_
       refine xO rfl (xA (vs := [.int .i64 x6587.Series.Den, v8970]) H 8 rfl sz76 rfl rfl rfl ⟨rfl, (own_one (H.item (i := 11) rfl)), trivial⟩ rfl) ?_
       rintro w9398 H
       have H := H.freeze (i := 11) rfl
       have hR := Option.some.inj hF
       subst hR
       refine (zI (yU (zB (And.intro ?_ ?_))))
       ·repeat' (first | with_reducible exact zN | refine zV rfl ?_ | refine zO rfl rfl ?_)
       exact ⟨v8970, zQ, H.pick [0, 1, 2, 3, 4, 5, 6, 7, 8, 11] (by decide)⟩
      rintro v8651 ρ w8652 H
      have hF := hK8653
      refine zC ?_
      refine zA rfl rfl (zG (v := .int .i64 g8300) rfl) ?_
      obtain ⟨x9399, e9400, hF⟩ := zH hF
      refine zA rfl rfl (xJ (a := g8300) (b := 1) rfl rfl e9400) ?_
      refine zA rfl rfl (zF (v := .int .i64 x9399) rfl) ?_
      refine (zI (zB (And.intro ?_ ?_)))
      ·repeat' (first | with_reducible exact zN | refine zV rfl ?_ | refine zO rfl rfl ?_)
      exact ⟨(n8309, x9399, g8650, v8651), (zK rfl zQ), ⟨H.pick [0, 1, 2, 3, 4, 5, 6, 7, 8, 9] (by decide), hF⟩, Nat.lt_succ_self _⟩
     have hF := zX c8328 hF
     have hR := Option.some.inj hF
     subst hR
     refine (xB (yN (yN (yR (zB (And.intro ?_ ?_))))))
     ·repeat' (first | with_reducible exact zN | refine zV rfl ?_ | refine zO rfl rfl ?_)
     exact ⟨v8303, zQ, H.pick [0, 1, 2, 3, 4, 5, 6, 7, 8, 9] (by decide)⟩
    rintro v7600 ρ w7601 H
    have hF := hK7602
    refine zC ?_
    refine zA rfl rfl (fa70_5 rfl) ?_
    refine zA rfl rfl (zU one68 rfl (Cells.get (Blk.cells (H.item (i := 6) rfl)) (i := 5) rfl)) ?_
    refine zA rfl rfl (zT (yV (cs := [.string (bs x6587.Name), .int .i64 x6587.Series.Den, v7600, .int .i64 x6587.Long]) agg78 rfl sz78 rfl (Blk.cells (H.item (i := 8) rfl))) rfl) ?_
    obtain ⟨x9401, e9402, hF⟩ := zH hF
    subst e9402
    refine xE rfl rfl (Lx_bs (r := rTrack) (xl := [Track.mk x6587.Name (Series.mk x6587.Series.Den g7599) x6587.Long]) (cs := [.string (bs x6587.Name), .int .i64 x6587.Series.Den, v7600, .int .i64 x6587.Long]) u68 el78 (by decide) (by decide) rfl (xW (vs := [.agg [.string (bs x6587.Name), .int .i64 x6587.Series.Den, v7600, .int .i64 x6587.Long].toArray]) (by decide) rfl rfl ⟨rfl, trivial⟩ rfl) H ⟨[.string (bs x6587.Name), .int .i64 x6587.Series.Den, v7600, .int .i64 x6587.Long], [], rfl, (rTrack_mk (x := Track.mk x6587.Name (Series.mk x6587.Series.Den g7599) x6587.Long) (H.item (i := 9) rfl)), rfl⟩) ?_
    rintro v9404 w9405 H
    obtain ⟨x9406, e9407, hF⟩ := zJ hF
    refine xE rfl rfl (Lx_app H (i := 7) rfl u68 el78 rfl rfl (Sr.of_own (H.item (i := 10) rfl)) e9407) ?_
    rintro v9408 w9409 H
    refine zA rfl rfl (fa70_5 rfl) ?_
    refine xO rfl (Lx_store1 H 6 rfl sz68 rfl (v := v9408) rfl (own_one (H.item (i := 7) rfl)) rfl) ?_
    rintro w9410 H
    have hR := Option.some.inj hF
    subst hR
    refine (zI (yU (zB (And.intro ?_ ?_))))
    ·repeat' (first | with_reducible exact zN | refine zV rfl ?_ | refine zO rfl rfl ?_)
    exact ⟨v9408, zQ, H.pick [0, 1, 2, 3, 4, 5, 6, 7] (by decide)⟩
   rintro v6583 ρ w6584 H
   have hF := hK6585
   refine zC ?_
   refine zA rfl rfl (zG (v := .int .i64 g5697) rfl) ?_
   obtain ⟨x9411, e9412, hF⟩ := zH hF
   refine zA rfl rfl (xJ (a := g5697) (b := 1) rfl rfl e9412) ?_
   refine zA rfl rfl (zF (v := .int .i64 x9411) rfl) ?_
   refine (zI (zB (And.intro ?_ ?_)))
   ·repeat' (first | with_reducible exact zN | refine zV rfl ?_ | refine zO rfl rfl ?_)
   exact ⟨(n5707, x9411, g6582, v6583), (zK rfl zQ), ⟨H.pick [0, 1, 2, 3, 4, 5, 6, 7] (by decide), hF⟩, Nat.lt_succ_self _⟩
  have hF := zX c5726 hF
  have hR := Option.some.inj hF
  subst hR
  refine (xB (yN (yN (yR (zB (And.intro ?_ ?_))))))
  ·repeat' (first | with_reducible exact zN | refine zV rfl ?_ | refine zO rfl rfl ?_)
  exact ⟨v5700, zQ, H.pick [5, 6, 7] (by decide)⟩
 rintro v2873 ρ w2874 H
 have hF := hK2875
 refine zD fun K9413 hK9413 => ?_
 refine zC ?_
 refine zA rfl rfl (zT (yV (cs := [.string (bs g26), .string (bs p0.Route), .int .i64 x37, .int .i64 p0.From, .int .i64 p0.To, v2873]) agg70 rfl sz70 rfl (Blk.cells (H.item (i := 1) rfl))) rfl) ?_
 refine xO rfl (xA (vs := [.string (bs g26), .string (bs p0.Route), .int .i64 x37, .int .i64 p0.From, .int .i64 p0.To, v2873]) H 0 rfl sz70 rfl rfl rfl ⟨rfl, rfl, rfl, rfl, rfl, (own_one (H.item (i := 2) rfl)), trivial⟩ rfl) ?_
 rintro w9414 H
 refine (zI (zB (hK9413 _ _ ?_)))
 have H := H.freeze (i := 2) rfl
 have hR := Option.some.inj hF
 subst hR
 refine (yG (postc  rfl rfl (xH agg70 sz70 rfl (Blk.cells (H.item (i := 0) rfl))) ?_))
 exact ⟨v2873, rfl, H.pick [2] (by decide)⟩
end Go.Proofs.YtbjhondbheijiaaGreatDoor.L
namespace Go.Proofs.YtbjhondbheijiaaGreatDoor.L
open Go.RowKit Go.OB Go.Lf
/- orangebox/orangeboxref9.peak -/
set_option maxHeartbeats 4000000 in
theorem F_ref9_peak_w (p0 : Flight) (p1 : Str) (v1 : Value) (r : Int × Int × Bool) (hF : F_ref9_peak p0 p1 = some r) (O S : List Nat) (w : World) (H : Hd O w w S [.fz (.sl rTrack v1 p0.Tracks)]) :
  Calls Tryz.prog 39 ([.agg [.string (bs p0.Tail), .string (bs p0.Route), .int .i64 p0.Day, .int .i64 p0.From, .int .i64 p0.To, v1].toArray, .string (bs p1)] : List Value).toArray w fun e w' => e = .returned (.tuple #[.int .i64 r.1, .int .i64 r.2.1, .bool r.2.2]) ∧ Hd O w w' S [] := by
 unfold F_ref9_peak at hF
 refine yB 83 Tryz.func39 rfl rfl rfl ?_
 refine zD fun K3 hK3 => ?_
 refine zC ?_
 refine xE rfl rfl (Lx_box (cs := [.string (bs p0.Tail), .string (bs p0.Route), .int .i64 p0.Day, .int .i64 p0.From, .int .i64 p0.To, v1]) rfl H) ?_
 rintro _ w6 ⟨b4, rfl, H⟩
 refine zA rfl rfl (zF (v := .int .i64 0) rfl) ?_
 refine zA rfl rfl (zF (v := .int .i64 0) rfl) ?_
 refine zA rfl rfl (zF (v := .bool false) rfl) ?_
 refine (zI (zB (hK3 _ _ ?_)))
 refine zD fun K7 hK7 => ?_
 refine zC ?_
 refine zA rfl rfl (zF (v := .int .i64 0) rfl) ?_
 refine zA rfl rfl (zF (v := .int .i64 1) rfl) ?_
 refine zA rfl rfl (zF (v := .bool false) rfl) ?_
 refine (zI (zB (hK7 _ _ ?_)))
 obtain ⟨j582, hF, hK581⟩ := zJ hF
 refine yL [7, 8, 9, 10, 11, 12, 13, 14, 15, 16, 17, 18, 19, 20, 21, 22, 23, 24, 25, 26, 27, 28, 29, 30, 31, 32, 33, 34, 35, 36, 37, 38, 39, 40, 41, 42, 43, 44, 45, 46, 47, 48, 49, 50, 51, 52, 53, 54, 55, 56, 57, 58, 59, 60, 61, 62, 63, 64, 65, 66, 67, 68, 69, 70, 71, 72, 73, 74, 75, 76, 77, 78, 79] (fun (g : Unit) => [(7, .int .i64 j582.1), (8, .int .i64 j582.2.1), (9, .bool j582.2.2)]) (fun g wl => Hd O w wl S []) ?_ ?_
 ·skip
  refine zD fun K583 hK583 => ?_
  refine zC ?_
  refine zA rfl rfl (zF (v := .int .i64 0) rfl) ?_
  refine (zI (zB (hK583 _ _ ?_)))
  refine yK ?_
  unfold F_ref9_peak_L1 at hF
  obtain ⟨B1150, n1151, eB1152, hF⟩ := yT hF
  refine xC [7, 8, 9, 10, 11, 12, 13, 14, 15, 16, 17, 18, 19, 20, 21, 22, 23, 24, 25, 26, 27, 28, 29, 30, 31, 32, 33, 34, 35, 36, 37, 38, 39, 40, 41, 42, 43, 44, 45, 46, 47, 48, 49, 50, 51, 52, 53, 54, 55, 56, 57, 58, 59, 60, 61, 62, 63, 64, 65, 66, 67, 68, 69, 70, 71, 72, 73, 74, 75, 76, 77, 78, 79] (fun (g : Nat × Int × Int × Bool × Int) => [(7, .int .i64 g.2.1), (8, .int .i64 g.2.2.1), (9, .bool g.2.2.2.1), (10, .int .i64 g.2.2.2.2)]) (fun g wl => Hd O w wl S [.blk b4 [.string (bs p0.Tail), .string (bs p0.Route), .int .i64 p0.Day, .int .i64 p0.From, .int .i64 p0.To, v1] 70, .fz (.sl rTrack v1 p0.Tracks)] ∧ loopN B1150 g.1 (g.2.1, g.2.2.1, g.2.2.2.1, g.2.2.2.2) = some j582) (fun g => g.1) (n1151, 0, 1, false, 0) (zK rfl (zK rfl (zK rfl (zK rfl zQ)))) ⟨H.pick [1, 0] (by decide), hF⟩ ?_
  clear H hF
  rintro ⟨n1151, g1146, g1147, g1148, g1149⟩ ρ w1154 ⟨H, hF⟩
  obtain ⟨n1155, rfl, hF⟩ := yX hF
  have hF := yY eB1152 hF
  refine zD fun K1165 hK1165 => ?_
  refine zD fun K1166 hK1166 => ?_
  refine zC ?_
  refine zA rfl rfl (zG (v := .int .i64 g1149) rfl) ?_
  refine zA rfl rfl (fa70_5 rfl) ?_
  refine zA rfl rfl (zU one68 rfl (Cells.get (Blk.cells (H.item (i := 0) rfl)) (i := 5) rfl)) ?_
  obtain ⟨x1167, e1168, hF⟩ := zH hF
  obtain ⟨a1169, c1170, q1171⟩ := SlF.len ((H.item (i := 1) rfl))
  refine zA rfl rfl (zT (xI u68 q1171) (congrArg (Value.int .i64) e1168)) ?_
  obtain ⟨x1172, e1173, hF⟩ := zH hF
  refine zA rfl rfl (zT (xK (a := g1149) (b := x1167) rfl rfl) (congrArg Value.bool e1173)) ?_
  refine (zI (zB (hK1166 _ _ ?_)))
  refine yF (b := x1172) rfl (fun c1174 => ?_) (fun c1174 => ?_)
  ·have hF := zW c1174 hF
   refine (yA (zB (hK1165 _ _ ?_)))
   obtain ⟨j1436, hF, hK1435⟩ := zJ hF
   refine yL [7, 8, 9, 11, 12, 13, 21, 22, 23, 24, 25, 26, 27, 28, 29, 30, 31, 32, 33, 34, 35, 36, 37, 38, 39, 40, 41, 42, 43, 44, 45, 46, 47, 48, 49, 50, 51, 52, 53, 54, 55, 56, 57, 58, 59, 60, 61, 62, 63, 64, 65, 66, 67, 68, 69, 70, 71, 72, 73, 74, 75, 76, 77, 78, 79] (fun (g : Unit) => [(7, .int .i64 j1436.1), (8, .int .i64 j1436.2.1), (9, .bool j1436.2.2)]) (fun g wl => Hd O w wl S [.blk b4 [.string (bs p0.Tail), .string (bs p0.Route), .int .i64 p0.Day, .int .i64 p0.From, .int .i64 p0.To, v1] 70, .fz (.sl rTrack v1 p0.Tracks)]) ?_ ?_
   ·skip
    refine yK ?_
    refine zD fun K1456 hK1456 => ?_
    refine zD fun K1457 hK1457 => ?_
    refine zC ?_
    refine zA rfl rfl (fa70_5 rfl) ?_
    refine zA rfl rfl (zU one68 rfl (Cells.get (Blk.cells (H.item (i := 0) rfl)) (i := 5) rfl)) ?_
    refine zA rfl rfl (zG (v := .int .i64 g1149) rfl) ?_
    obtain ⟨x1458, e1459, hF⟩ := zJ hF
    obtain ⟨b1460, o1461, c1462, cs1463, q1464, h1467, h1465, h1466, h1468⟩ := wB (H.item (i := 1) rfl) e1459
    obtain ⟨v1469, rfl, h1470⟩ := rTrack_open h1467
    have H := H.fzs [.at b1460 (o1461 + g1149.toNat * 4) _, .sl rSample v1469 x1458.Series.Samples] ⟨⟨h1465, h1466, h1468⟩, h1470, trivial⟩
    refine zA rfl rfl (xG u68 sz78 q1464 rfl (yD e1459).1 (yD e1459).2.1 rfl rfl) ?_
    refine zA rfl rfl (fa78_0 rfl) ?_
    refine zA rfl rfl (zU one9 rfl (Cells.get (H.item (i := 2) rfl).2.2 (i := 0) rfl)) ?_
    refine zA rfl rfl (zG (v := .string (bs p1)) rfl) ?_
    obtain ⟨x1473, e1474, hF⟩ := zH hF
    refine zA rfl rfl (zT (Do_neqs (s1 := x1458.Name) (s2 := p1) rfl rfl) (congrArg Value.bool e1474)) ?_
    refine (zI (zB (hK1457 _ _ ?_)))
    refine yF (b := x1473) rfl (fun c1475 => ?_) (fun c1475 => ?_)
    ·have hF := zW c1475 hF
     have hR := Option.some.inj hF
     subst hR
     refine (xB (yN (yR (zB (And.intro ?_ ?_)))))
     ·repeat' (first | with_reducible exact zN | refine zV rfl ?_ | refine zO rfl rfl ?_)
     exact ⟨(), (zK rfl (zK rfl (zK rfl zQ))), H.pick [0, 1] (by decide)⟩
    have hF := zX c1475 hF
    refine (yA (zB (hK1456 _ _ ?_)))
    refine zD fun K1476 hK1476 => ?_
    refine zC ?_
    refine zA rfl rfl (fa70_5 rfl) ?_
    refine zA rfl rfl (zU one68 rfl (Cells.get (Blk.cells (H.item (i := 0) rfl)) (i := 5) rfl)) ?_
    refine zA rfl rfl (zG (v := .int .i64 g1149) rfl) ?_
    obtain ⟨x1477, e1478, hF⟩ := zJ hF
    obtain ⟨b1479, o1480, c1481, cs1482, q1483, h1486, h1484, h1485, h1487⟩ := wB (H.item (i := 1) rfl) e1478
    obtain ⟨v1488, rfl, h1489⟩ := rTrack_open h1486
    have H := H.fzs [.at b1479 (o1480 + g1149.toNat * 4) _, .sl rSample v1488 x1477.Series.Samples] ⟨⟨h1484, h1485, h1487⟩, h1489, trivial⟩
    refine zA rfl rfl (xG u68 sz78 q1483 rfl (yD e1478).1 (yD e1478).2.1 rfl rfl) ?_
    refine zA rfl rfl (fa78_1 rfl) ?_
    refine zA rfl rfl (zT (yV (cs := [.int .i64 x1477.Series.Den, v1488]) agg76 rfl sz76 rfl (Cells.drop (H.item (i := 4) rfl).2.2 1 2)) rfl) ?_
    refine xE rfl rfl (xR zero76 H) ?_
    rintro _ w1494 ⟨b1492, rfl, H⟩
    refine xO rfl (xA (vs := [.int .i64 x1477.Series.Den, v1488]) H 6 rfl sz76 rfl rfl rfl ⟨rfl, (slf_one (H.item (i := 5) rfl)), trivial⟩ rfl) ?_
    rintro w1495 H
    refine (zI (zB (hK1476 _ _ ?_)))
    refine zD fun K1496 hK1496 => ?_
    refine zC ?_
    refine zA rfl rfl (fa76_0 rfl) ?_
    refine zA rfl rfl (zU one3 rfl (Cells.get (Blk.cells (H.item (i := 6) rfl)) (i := 0) rfl)) ?_
    refine zA rfl rfl (zF (v := .int .i64 x1477.Series.Den) rfl) ?_
    refine (zI (zB (hK1496 _ _ ?_)))
    refine zD fun K1497 hK1497 => ?_
    refine zC ?_
    refine zA rfl rfl (zF (v := .int .i64 0) rfl) ?_
    refine (zI (zB (hK1497 _ _ ?_)))
    refine yK ?_
    unfold F_ref9_peak_L2 at hF
    obtain ⟨B1690, n1691, eB1692, hF⟩ := yT hF
    refine xC [7, 9, 12, 13, 37, 38, 39, 40, 41, 42, 43, 44, 45, 46, 47, 48, 49, 50, 51, 52, 53, 54, 55, 56, 57, 58, 59, 60, 61, 62, 63, 64, 65, 66, 67, 68, 69, 70, 71, 72, 73, 74, 75, 76, 77, 78, 79] (fun (g : Nat × Int × Bool × Int) => [(7, .int .i64 g.2.1), (9, .bool g.2.2.1), (12, .int .i64 g.2.2.2)]) (fun g wl => Hd O w wl S [.blk b4 [.string (bs p0.Tail), .string (bs p0.Route), .int .i64 p0.Day, .int .i64 p0.From, .int .i64 p0.To, v1] 70, .fz (.sl rTrack v1 p0.Tracks), .blk b1492 [.int .i64 x1477.Series.Den, v1488] 76, .fz (.sl rSample v1488 x1477.Series.Samples)] ∧ loopN B1690 g.1 (g.2.1, g.2.2.1, g.2.2.2) = some j1436) (fun g => g.1) (n1691, g1146, g1148, 0) (zK rfl (zK rfl (zK rfl zQ))) ⟨H.pick [0, 1, 6, 5] (by decide), hF⟩ ?_
    clear H hF
    rintro ⟨n1691, g1687, g1688, g1689⟩ ρ w1694 ⟨H, hF⟩
    obtain ⟨n1695, rfl, hF⟩ := yX hF
    have hF := yY eB1692 hF
    refine zD fun K1705 hK1705 => ?_
    refine zD fun K1706 hK1706 => ?_
    refine zC ?_
    refine zA rfl rfl (zG (v := .int .i64 g1689) rfl) ?_
    refine zA rfl rfl (fa76_1 rfl) ?_
    refine zA rfl rfl (zU one74 rfl (Cells.get (Blk.cells (H.item (i := 2) rfl)) (i := 1) rfl)) ?_
    obtain ⟨x1707, e1708, hF⟩ := zH hF
    obtain ⟨a1709, c1710, q1711⟩ := SlF.len ((H.item (i := 3) rfl))
    refine zA rfl rfl (zT (xI u74 q1711) (congrArg (Value.int .i64) e1708)) ?_
    obtain ⟨x1712, e1713, hF⟩ := zH hF
    refine zA rfl rfl (zT (xK (a := g1689) (b := x1707) rfl rfl) (congrArg Value.bool e1713)) ?_
    refine (zI (zB (hK1706 _ _ ?_)))
    refine yF (b := x1712) rfl (fun c1714 => ?_) (fun c1714 => ?_)
    ·have hF := zW c1714 hF
     refine (yA (zB (hK1705 _ _ ?_)))
     obtain ⟨j1786, hF, hK1785⟩ := zJ hF
     refine yL [7, 9, 13, 44, 45, 46, 47, 48, 49, 50, 51, 52, 53, 54, 55, 56, 57, 58, 59, 60, 61, 62, 63, 64, 65, 66, 67, 68, 69, 70, 71, 72, 73, 74, 75, 76, 77, 78, 79] (fun (g : Unit) => [(7, .int .i64 j1786.1), (9, .bool j1786.2)]) (fun g wl => Hd O w wl S [.blk b4 [.string (bs p0.Tail), .string (bs p0.Route), .int .i64 p0.Day, .int .i64 p0.From, .int .i64 p0.To, v1] 70, .fz (.sl rTrack v1 p0.Tracks), .blk b1492 [.int .i64 x1477.Series.Den, v1488] 76, .fz (.sl rSample v1488 x1477.Series.Samples)]) ?_ ?_
     ·skip
      refine yK ?_
      refine zD fun K1787 hK1787 => ?_
      refine zC ?_
      refine zA rfl rfl (fa76_1 rfl) ?_
      refine zA rfl rfl (zU one74 rfl (Cells.get (Blk.cells (H.item (i := 2) rfl)) (i := 1) rfl)) ?_
      refine zA rfl rfl (zG (v := .int .i64 g1689) rfl) ?_
      obtain ⟨x1788, e1789, hF⟩ := zJ hF
      obtain ⟨b1790, o1791, c1792, cs1793, q1794, h1797, h1795, h1796, h1798⟩ := wB (H.item (i := 3) rfl) e1789
      obtain rfl := rSample_open h1797
      have H := H.fz (.at b1790 (o1791 + g1689.toNat * 3) _) ⟨h1795, h1796, h1798⟩
      refine zA rfl rfl (xG u74 sz109 q1794 rfl (yD e1789).1 (yD e1789).2.1 rfl rfl) ?_
      refine zA rfl rfl (zT (yV (cs := [.int .i64 x1788.At, .int .i64 x1788.N, .int .i64 x1788.Mark]) agg109 rfl sz109 rfl (H.item (i := 4) rfl).2.2) rfl) ?_
      refine xE rfl rfl (xR zero109 H) ?_
      rintro _ w1802 ⟨b1800, rfl, H⟩
      refine xO rfl (xA (vs := [.int .i64 x1788.At, .int .i64 x1788.N, .int .i64 x1788.Mark]) H 5 rfl sz109 rfl rfl rfl ⟨rfl, rfl, rfl, trivial⟩ rfl) ?_
      rintro w1803 H
      refine (zI (zB (hK1787 _ _ ?_)))
      refine zD fun K1824 hK1824 => ?_
      obtain ⟨g1841, hF, hK1843⟩ := zJ hF
      refine yL [49, 50, 51, 52, 53, 54, 55, 56, 57, 58, 59, 60, 61, 62, 63, 64, 65, 66, 67, 68, 69] (fun (g : Unit) => [(69, .bool g1841)]) (fun g wl => Hd O w wl S [.blk b4 [.string (bs p0.Tail), .string (bs p0.Route), .int .i64 p0.Day, .int .i64 p0.From, .int .i64 p0.To, v1] 70, .fz (.sl rTrack v1 p0.Tracks), .blk b1492 [.int .i64 x1477.Series.Den, v1488] 76, .fz (.sl rSample v1488 x1477.Series.Samples), .blk b1800 [.int .i64 x1788.At, .int .i64 x1788.N, .int .i64 x1788.Mark] 109]) ?_ ?_
      ·skip
       refine zC ?_
       refine zA rfl rfl (fa109_2 rfl) ?_
       refine zA rfl rfl (zU one3 rfl (Cells.get (Blk.cells (H.item (i := 5) rfl)) (i := 2) rfl)) ?_
       obtain ⟨x1844, e1845, hF⟩ := zH hF
       refine zA rfl rfl (zT (xK (a := x1788.Mark) (b := 3) rfl rfl) (congrArg Value.bool e1845)) ?_
       refine yO (b := x1844) rfl rfl rfl (fun c1846 => ?_) (fun c1846 => ?_)
       ·have hF := zW c1846 hF
        refine zM rfl rfl ?_
        refine zM rfl rfl ?_
        refine zM rfl rfl ?_
        refine zM rfl rfl ?_
        refine zM rfl rfl ?_
        refine zM rfl rfl ?_
        refine zA rfl rfl (yI (v := .bool true) rfl rfl) ?_
        refine zA rfl rfl (zG (v := .bool true) rfl) ?_
        refine zM rfl rfl ?_
        refine zM rfl rfl ?_
        refine zM rfl rfl ?_
        refine zM rfl rfl ?_
        refine zM rfl rfl ?_
        refine zM rfl rfl ?_
        refine zM rfl rfl ?_
        refine zM rfl rfl ?_
        refine zA rfl rfl (yI (v := .bool true) rfl rfl) ?_
        have hR := Option.some.inj hF
        subst hR
        refine (zI (zB (And.intro ?_ ?_)))
        ·repeat' (first | with_reducible exact zN | refine zV rfl ?_ | refine zO rfl rfl ?_)
        exact ⟨(), (zK rfl zQ), H.pick [0, 1, 2, 3, 5] (by decide)⟩
       have hF := zX c1846 hF
       refine zA rfl rfl (fa109_0 rfl) ?_
       refine zA rfl rfl (zU one3 rfl (Cells.get (Blk.cells (H.item (i := 5) rfl)) (i := 0) rfl)) ?_
       refine zA rfl rfl (fa70_3 rfl) ?_
       refine zA rfl rfl (zU one3 rfl (Cells.get (Blk.cells (H.item (i := 0) rfl)) (i := 3) rfl)) ?_
       obtain ⟨x1847, e1848, hF⟩ := zH hF
       refine zA rfl rfl (Do_mul (a := 64) (b := p0.From) rfl rfl e1848) ?_
       obtain ⟨x1849, e1850, hF⟩ := zH hF
       refine zA rfl rfl (zT (xK (a := x1788.At) (b := x1847) rfl rfl) (congrArg Value.bool e1850)) ?_
       refine zA rfl rfl (yH (v := .bool x1849) rfl rfl) ?_
       refine yO (b := x1849) rfl rfl rfl (fun c1851 => ?_) (fun c1851 => ?_)
       ·have hF := zW c1851 hF
        refine zM rfl rfl ?_
        refine zM rfl rfl ?_
        refine zM rfl rfl ?_
        refine zM rfl rfl ?_
        refine zM rfl rfl ?_
        refine zM rfl rfl ?_
        refine zM rfl rfl ?_
        refine zM rfl rfl ?_
        refine zA rfl rfl (yI (v := .bool true) rfl rfl) ?_
        have hR := Option.some.inj hF
        subst hR
        refine (zI (zB (And.intro ?_ ?_)))
        ·repeat' (first | with_reducible exact zN | refine zV rfl ?_ | refine zO rfl rfl ?_)
        exact ⟨(), (zK rfl zQ), H.pick [0, 1, 2, 3, 5] (by decide)⟩
       have hF := zX c1851 hF
       refine zA rfl rfl (fa109_0 rfl) ?_
       refine zA rfl rfl (zU one3 rfl (Cells.get (Blk.cells (H.item (i := 5) rfl)) (i := 0) rfl)) ?_
       refine zA rfl rfl (fa70_4 rfl) ?_
       refine zA rfl rfl (zU one3 rfl (Cells.get (Blk.cells (H.item (i := 0) rfl)) (i := 4) rfl)) ?_
       obtain ⟨x1852, e1853, hF⟩ := zH hF
       refine zA rfl rfl (Do_mul (a := 64) (b := p0.To) rfl rfl e1853) ?_
       obtain ⟨x1854, e1855, hF⟩ := zH hF
       refine zA rfl rfl (xJ (a := x1852) (b := 64) rfl rfl e1855) ?_
       obtain ⟨x1856, e1857, hF⟩ := zH hF
       refine zA rfl rfl (Do_sub (a := x1854) (b := 1) rfl rfl e1857) ?_
       obtain ⟨x1858, e1859, hF⟩ := zH hF
       refine zA rfl rfl (zT (wF (a := x1788.At) (b := x1856) rfl rfl) (congrArg Value.bool e1859)) ?_
       refine zA rfl rfl (yH (v := .bool x1858) rfl rfl) ?_
       have hR := Option.some.inj hF
       subst hR
       refine (zI (zB (And.intro ?_ ?_)))
       ·repeat' (first | with_reducible exact zN | refine zV rfl ?_ | refine zO rfl rfl ?_)
       exact ⟨(), (zK rfl zQ), H.pick [0, 1, 2, 3, 5] (by decide)⟩
      rintro _ ρ w1842 H
      have hF := hK1843
      refine yF (b := g1841) rfl (fun c1860 => ?_) (fun c1860 => ?_)
      ·have hF := zW c1860 hF
       have hR := Option.some.inj hF
       subst hR
       refine (xB (yN (yR (zB (And.intro ?_ ?_)))))
       ·repeat' (first | with_reducible exact zN | refine zV rfl ?_ | refine zO rfl rfl ?_)
       exact ⟨(), (zK rfl (zK rfl zQ)), H.pick [0, 1, 2, 3] (by decide)⟩
      have hF := zX c1860 hF
      refine (yA (zB (hK1824 _ _ ?_)))
      obtain ⟨g1866, hF, hK1868⟩ := zJ hF
      refine yL [70, 71, 72, 73, 74, 75, 76, 77] (fun (g : Unit) => [(77, .bool g1866)]) (fun g wl => Hd O w wl S [.blk b4 [.string (bs p0.Tail), .string (bs p0.Route), .int .i64 p0.Day, .int .i64 p0.From, .int .i64 p0.To, v1] 70, .fz (.sl rTrack v1 p0.Tracks), .blk b1492 [.int .i64 x1477.Series.Den, v1488] 76, .fz (.sl rSample v1488 x1477.Series.Samples), .blk b1800 [.int .i64 x1788.At, .int .i64 x1788.N, .int .i64 x1788.Mark] 109]) ?_ ?_
      ·skip
       refine zC ?_
       refine zA rfl rfl (zG (v := .bool g1688) rfl) ?_
       obtain ⟨x1869, e1870, hF⟩ := zH hF
       refine zA rfl rfl (zT (xY (p := g1688) rfl) (congrArg Value.bool e1870)) ?_
       refine yO (b := x1869) rfl rfl rfl (fun c1871 => ?_) (fun c1871 => ?_)
       ·have hF := zW c1871 hF
        refine zM rfl rfl ?_
        refine zM rfl rfl ?_
        refine zM rfl rfl ?_
        refine zM rfl rfl ?_
        refine zA rfl rfl (yI (v := .bool true) rfl rfl) ?_
        have hR := Option.some.inj hF
        subst hR
        refine (zI (zB (And.intro ?_ ?_)))
        ·repeat' (first | with_reducible exact zN | refine zV rfl ?_ | refine zO rfl rfl ?_)
        exact ⟨(), (zK rfl zQ), H.pick [0, 1, 2, 3, 4] (by decide)⟩
       have hF := zX c1871 hF
       refine zA rfl rfl (fa109_1 rfl) ?_
       refine zA rfl rfl (zU one3 rfl (Cells.get (Blk.cells (H.item (i := 4) rfl)) (i := 1) rfl)) ?_
       refine zA rfl rfl (zG (v := .int .i64 g1687) rfl) ?_
       obtain ⟨x1872, e1873, hF⟩ := zH hF
       refine zA rfl rfl (zT (wF (a := x1788.N) (b := g1687) rfl rfl) (congrArg Value.bool e1873)) ?_
       refine zA rfl rfl (yH (v := .bool x1872) rfl rfl) ?_
       have hR := Option.some.inj hF
       subst hR
       refine (zI (zB (And.intro ?_ ?_)))
       ·repeat' (first | with_reducible exact zN | refine zV rfl ?_ | refine zO rfl rfl ?_)
       exact ⟨(), (zK rfl zQ), H.pick [0, 1, 2, 3, 4] (by decide)⟩
      rintro _ ρ w1867 H
      have hF := hK1868
      refine yF (b := g1866) rfl (fun c1874 => ?_) (fun c1874 => ?_)
      ·have hF := zW c1874 hF
       refine zC ?_
       refine zA rfl rfl (fa109_1 rfl) ?_
       refine zA rfl rfl (zU one3 rfl (Cells.get (Blk.cells (H.item (i := 4) rfl)) (i := 1) rfl)) ?_
       refine zA rfl rfl (zF (v := .int .i64 x1788.N) rfl) ?_
       refine zA rfl rfl (zF (v := .bool true) rfl) ?_
       have hR := Option.some.inj hF
       subst hR
       refine (zI (yU (zB (And.intro ?_ ?_))))
       ·repeat' (first | with_reducible exact zN | refine zV rfl ?_ | refine zO rfl rfl ?_)
       exact ⟨(), (zK rfl (zK rfl zQ)), H.pick [0, 1, 2, 3] (by decide)⟩
      have hF := zX c1874 hF
      have hR := Option.some.inj hF
      subst hR
      refine (yA (yU (zB (And.intro ?_ ?_))))
      ·repeat' (first | with_reducible exact zN | refine zV rfl ?_ | refine zO rfl rfl ?_)
      exact ⟨(), (zK rfl (zK rfl zQ)), H.pick [0, 1, 2, 3] (by decide)⟩
     rintro _ ρ w1784 H
     have hF := hK1785
     obtain ⟨g1782, g1783⟩ := j1786
     refine zC ?_
     refine zA rfl rfl (zG (v := .int .i64 g1689) rfl) ?_
     obtain ⟨x1875, e1876, hF⟩ := zH hF
     refine zA rfl rfl (xJ (a := g1689) (b := 1) rfl rfl e1876) ?_
     refine zA rfl rfl (zF (v := .int .i64 x1875) rfl) ?_
     refine (zI (zB (And.intro ?_ ?_)))
     ·repeat' (first | with_reducible exact zN | refine zV rfl ?_ | refine zO rfl rfl ?_)
     exact ⟨(n1695, g1782, g1783, x1875), (zK rfl (zK rfl (zK rfl zQ))), ⟨H.pick [0, 1, 2, 3] (by decide), hF⟩, Nat.lt_succ_self _⟩
    have hF := zX c1714 hF
    have hR := Option.some.inj hF
    subst hR
    refine (xB (yN (yN (yR (yU (zB (And.intro ?_ ?_)))))))
    ·repeat' (first | with_reducible exact zN | refine zV rfl ?_ | refine zO rfl rfl ?_)
    exact ⟨(), (zK rfl (zK rfl (zK rfl zQ))), H.pick [0, 1] (by decide)⟩
   rintro _ ρ w1434 H
   have hF := hK1435
   obtain ⟨g1431, g1432, g1433⟩ := j1436
   refine zC ?_
   refine zA rfl rfl (zG (v := .int .i64 g1149) rfl) ?_
   obtain ⟨x1877, e1878, hF⟩ := zH hF
   refine zA rfl rfl (xJ (a := g1149) (b := 1) rfl rfl e1878) ?_
   refine zA rfl rfl (zF (v := .int .i64 x1877) rfl) ?_
   refine (zI (zB (And.intro ?_ ?_)))
   ·repeat' (first | with_reducible exact zN | refine zV rfl ?_ | refine zO rfl rfl ?_)
   exact ⟨(n1155, g1431, g1432, g1433, x1877), (zK rfl (zK rfl (zK rfl (zK rfl zQ)))), ⟨H.pick [0, 1] (by decide), hF⟩, Nat.lt_succ_self _⟩
  have hF := zX c1174 hF
  have hR := Option.some.inj hF
  subst hR
  refine (xB (yN (yN (yR (zB (And.intro ?_ ?_))))))
  ·repeat' (first | with_reducible exact zN | refine zV rfl ?_ | refine zO rfl rfl ?_)
  exact ⟨(), (zK rfl (zK rfl (zK rfl zQ))), H.pick [] (by decide)⟩
 rintro _ ρ w580 H
 have hF := hK581
 obtain ⟨g577, g578, g579⟩ := j582
 refine zD fun K1879 hK1879 => ?_
 refine zC ?_
 refine zA rfl rfl (zG (v := .int .i64 g577) rfl) ?_
 refine zA rfl rfl (zG (v := .int .i64 g578) rfl) ?_
 refine zA rfl rfl (zG (v := .bool g579) rfl) ?_
 refine zA rfl rfl (zF (v := .int .i64 g577) rfl) ?_
 refine zA rfl rfl (zF (v := .int .i64 g578) rfl) ?_
 refine zA rfl rfl (zF (v := .bool g579) rfl) ?_
 refine (zI (zB (hK1879 _ _ ?_)))
 have hR := Option.some.inj hF
 subst hR
 refine (yG (post3 (v1 := .int .i64 g577) (v2 := .int .i64 g578) (v3 := .bool g579) rfl rfl rfl rfl ?_))
 exact ⟨rfl, H.pick [] (by decide)⟩
end Go.Proofs.YtbjhondbheijiaaGreatDoor.L
